/- A part. -/
import Derived.Test.YtlfkjfonpacelaaGreatDoorJU
import Derived.Test.YtlfkjfonpacelaaGreatDoorChecked
import Derived.WalkKit
import Derived.LaidEql
import Derived.Stop.Asserts
import Derived.RowKitTokens
import Derived.Carry
import Derived.Lib.LaidTab
import Derived.Deep.SlicePairs
import Derived.Test.YtlfkjfonpacelaaGreatDoorRows
import Derived.KernelRfl
set_option linter.all false
set_option maxRecDepth 200000
set_option maxHeartbeats 16000000
namespace Mv
open Go
theorem MN {M:Seat} (ok:OkHj M) (pres:List (Dg × Pr)) (l:List (Nat→BitVec 64)) (G:Gs) (hD:G.D=1) (hn:G.n=1) (hp:(G.c 0).pos=1#64) (hv:(G.c 0).val=Cb.com) :
 Ae M 124 [.ptr 0 [],.ptr 4 []] (G.H ++ hC pres l) 17 (Q3 (Ai .nils .nili) (G.H ++ hC pres l) 17):=by
 have hS:=Wm ok.i.v ok.k359 pres l G hD hn hp hv;have hP:=JR ok.i.v.g.t.s.v.g.p;unfold hC at *
 generalize Cb.com=C1 at *
 simp only [Gs.H,hD,hn,As,Av,Ad,Au,Cl.v,A6,AQ,AM,Aw,BM,Dn,Mc.v,BL,Cb,mach,vwV,LA,B3] at hS ⊢;refine Ab ok.i.k124 rfl fun x hx=>?_;refine eX ?_;simp only [f124,Ae9,LZ,seval];have z1:IntKind.i64.wrap 1=1:=rfl;refine RZ [0,1,2,3,4,5,6,7,8,9,10,11,12,13,14,15,16] [0,1,2,3,4,5,6,7,8,9,10,11,12,14,15,16] (hS) (by constructor <;> (try simp only [Ah,Fh,seval]) <;> first | exact q1 | (intro j hj;rcases (show j=0 ∨ j=1 by omega) with rfl | rfl <;> simp only [Nat.one_ne_zero,B4,LY,seval])) ?_;simp only [Cz,BF,AE,A3,z1,hp,seval];refine A5 ?_;refine eX ?_;simp only [hp,z1,LZ,seval];refine Aj (hP) ?_;simp only [B0,z1,LZ,seval];refine A5 ?_;refine eX ?_;simp only [z1,LZ,seval];refine Ap.mk hx [0,1,2,3,4,5,6,7,8,9,10,11,12,13,14,15,16] [] (Ai .nils .nili) _ 17 Al (by (simp only [Di,seval])) (by simp only [LV,Bb,seval,LY]) ?_ ⟨rfl,rfl,rfl⟩;simp only [Fh,BF,Ah,seval];intro j hj;rcases (show j=0 ∨ j=1 by omega) with rfl | rfl <;> simp only [Nat.one_ne_zero,B4,LN,LP,V.ren,AU,AB,BZ,Ch,seval,LY]
theorem Ni {M:Seat} (ok:OkHj M) (fn:Gf M 257) (pres:List (Dg × Pr)) (l:List (Nat→BitVec 64)) (G:Gs) (hD:G.D=1) (hn:G.n=2) (hp:(G.c 0).pos=1#64) (hv:(G.c 0).val=Cb.com) (hp1:(G.c 1).pos=2#64) (hv1:(G.c 1).val=d1 1#8) (hne:¬ Cb.com=d1 1#8)
 (hr0:(G.c 0).par = -1) (hr1:(G.c 1).par=0) (hs1:(G.c 1).rs=false) (ht1:(G.c 1).st=false) :
 Ae M 124 [.ptr 0 [],.ptr 4 []] (G.H ++ hC pres l) 17 (Q3 (Ai (.sl 17 [] 0 1 151) .nili) (G.H ++ hC pres l ++ [(17,.ar 151 1 fun _=>He 1 true false Dg.zero (DG (Cd BL.f 13 0) BL.h [BD BL.f 0#64] Pr.zero))]) 18):=by
 have hS:=WB ok.i.v ok.k359 pres l G hD hn hp hv hp1 hv1 hne;have hP:=JR ok.i.v.g.t.s.v.g.p;have hP2:=Bv ok.i.v.g.t.s.v.g.p (k:=1) (i:=0) Al Al;rw [show pw 1 0=2#64 by decide] at hP2;have hH:=OL ok 2 Al 0 G.c (fun j=>decide (j=0)) hr0 rfl;have hT:=Qt ok pres l 2 0 1 (G.c 1) ht1 hp1;unfold hC hB at *
 generalize Cb.com=C1 at *
 generalize Cd BL.f 13 0=R0 at *
 generalize [BD BL.f 0#64]=L0 at *
 simp only [Gs.H,hD,hn,As,Av,Ad,Au,Cl.v,A6,AQ,AM,Aw,BM,Dn,Mc.v,Mc.h,BL,Cb,mach,vwV,XF,LA,DG,Hd.v,Ba,He,F5,hp1,hr1,hs1,ht1,B3] at hS hT hH ⊢;refine Ab ok.i.k124 rfl fun x hx=>?_;refine eX ?_;simp only [f124,Ae9,LZ,seval];have z1:IntKind.i64.wrap 1=1:=rfl;have z2:IntKind.i64.wrap 2=2:=rfl;refine RZ [0,1,2,3,4,5,6,7,8,9,10,11,12,13,14,15,16] [0,1,2,3,4,5,6,7,8,9,10,11,12,14,15,16] (hS) (by constructor <;> (try simp only [Ah,Fh,seval]) <;> first | exact q1 | (intro j hj;rcases (show j=0 ∨ j=1 by omega) with rfl | rfl <;> simp only [Nat.one_ne_zero,B4,LY,seval])) ?_;simp only [Cz,BF,AE,A3,z1,hp,seval];refine A5 ?_;refine eX ?_;simp only [hp,z1,LZ,seval];refine Aj (hP) ?_;simp only [B0,z1,LZ,seval];refine A5 ?_;refine eX ?_;simp only [z1,z2,hp1,hr1,hs1,ht1,LZ,seval];refine Aj (hP2) ?_;simp only [B0,z1,z2,hp1,hr1,hs1,ht1,LZ,seval];refine RZ [81,0,4,82,83] [81,82,83] (hH) (by constructor <;> (try simp only [BI,dg,seval]) <;> first | exact q1 | (intro j hj;rcases (show j=0 ∨ j=1 by omega) with rfl | rfl <;> simp only [Nat.one_ne_zero,hp1,hr1,hs1,ht1,B4,LY,seval])) ?_;simp only [z1,z2,hp1,hr1,hs1,ht1,Bn,seval];repeat refine sd ?_
 refine R3 (f:=257) fn rfl ?_;refine RZ [4,5,6,7,8,9,10,11,12,13,14,15,16,81,0,82,83,1713] [4,5,6,7,8,9,10,11,12,14,15,16,81,1713] (hT) (by constructor <;> (try simp only [Ah,Fh,seval]) <;> first | exact q1 | (intro j hj;rcases (show j=0 ∨ j=1 by omega) with rfl | rfl <;> simp only [Nat.one_ne_zero,B4,LY,seval])) ?_;simp only [Je,BF,AE,A3,z1,z2,seval];refine A5 ?_;refine eX ?_;simp only [z1,LZ,seval];refine Ap.mk hx [0,1,2,3,4,5,6,7,8,9,10,11,12,13,14,15,16,2369] [] (Ai (.sl 17 [] 0 1 151) .nili) _ 18 Al (by (simp only [Di,seval])) (by simp only [LV,Bb,seval,LY]) ?_ ⟨rfl,rfl,rfl⟩;simp only [Fh,BF,Ah,BW,seval];refine ⟨fun j hj=>?_,fun j hj=>?_⟩
 ·rcases (show j=0 ∨ j=1 by omega) with rfl | rfl <;> simp only [Nat.one_ne_zero,B4,LN,LP,V.ren,AU,AB,BZ,Ch,seval,LY]
 ·obtain rfl:j=0:=Aa;simp only [if_true,BW,BI,seval]
theorem Au0:K1 (d1 1#8)=CN 8 (fun k=>if k=0 then 1 else 0) 32:=C8 8 32 (fun k hk=>by
 rw [d1,Dg.at_mk' _ _ hk]
 split <;> rfl)
theorem Af8:Nat.beq (Aa6 (1 <<< 120)) (CN 8 (fun k=>if k=0 then 1 else 0) 32)=false:=by kernel_rfl
theorem Akf:¬ Cb.com=d1 1#8:=by
 intro h;have h2:=Af8;rw [← ZQ,← Au0,h,Nat.beq_refl] at h2;cases h2
def hg0:Gs:=Gs.new 1 10#64 0#64 BL.com Cb.com 0 0#64 (IE 50#64 8) (Xl 50#64 8) 0#64 0#64
def hg1:Gs:=hg0.mT 0 false (d1 1#8) 1 2#64 1#64
theorem Aiy:Gg 1#64=0:=Al
theorem Aif:N4 1#64=0:=Al
theorem Ann:hg0.mE 0 false (d1 1#8) 1 2#64 1#64=none:=by
 unfold Gs.mE;rw [if_neg Al,if_neg Al];rw [show (hg0.c (0:Int).toNat).pos=1#64 from rfl,Aiy,Aif];unfold mvE;rw [if_neg Al,if_neg Al,if_neg Al,if_neg,if_neg Al,if_neg Al,if_neg Al,if_neg Al,if_neg Al];rintro ⟨j,_,h,_⟩;exact absurd h (by show ¬ (-1:Int)=0;decide)
theorem Aqz:(hg1.c 1).pos=2#64:=by
 show P9 (Gg 1#64) (N4 1#64) false=2#64;rw [Aiy,Aif];decide
theorem hgR:RY 10#64 0#64:=⟨by decide,by decide,by decide⟩
structure OkHl (M:Seat):Prop where
 j:OkHj M
 f257:Gf M 257
 k122:Ar M 122 App=true
theorem Ol {M:Seat} (ok:OkHl M) (hne:¬ Cb.com=BL.com) (hd1:¬ Cb.com=d1 1#8):Ae M 122 [] [] 0 (Q3 (.bool true) [] 0):=by
 have okv:=ok.j.i.v;have hLd:=MJ ok.j.i;have hRi:=Mz ok.j.i 50#64 Al zq7;have hN:=K7 okv.a.r.n BL.f BL.g BL.pc BL.hl BL.xt (Gh 16).pres 1 Al;have hS:=Rv okv.a 1;have hA:=WL okv.a (Gh 16).pres hL;have hR:=JZ ok.j.i 1 10#64 BL.com;have hG:=Mh okv.g.t.s.v 1 10#64 0#64 BL.com Cb.com 0 0#64 (IE 50#64 8) (Xl 50#64 8) 0#64 0#64 Al hgR Al Al Al;have hAc:=MN ok.j (Gh 16).pres (oK Cb.f hL 256) hg0 rfl rfl rfl rfl;have hMv:=JG okv.g hg0 (XU 10#64 0#64 hgR 1 Al _ _ 0 Al _ _ _ _ _).w 0 false (d1 1#8) 1 2#64 1#64 Ann;have hAd:=Ni ok.j ok.f257 (Gh 16).pres (oK Cb.f hL 256) hg1 rfl rfl rfl rfl Aqz rfl hd1 rfl rfl rfl rfl;have hSt:=KO okv.o.q.okA okv.o.q.ok.toOkS;simp only [AS,MW] at hSt;generalize (Gh 16).pres=pres at *
 have e0:hg0.H=[(0,As (1:Nat) 10#64 0#64 BL.com (.ptr 2 []) (.sl 1 [] 0 1 42)),(1,Au 1 fun _=>clF Cb.com (0:Nat) 0#64),(2,A6 (fun j=>if j=0 then IE 50#64 8 0 - 1#64 else IE 50#64 8 j) (Xl 50#64 8) 0#64 (.sl 3 [] 0 1 2) (0#64 + 1#64)),(3,AQ 1 (fun _=>1#64) fun _=>false)]:=rfl;have hL0:([BD BL.f 0#64]:List Pf).length=1:=rfl;simp only [show hg0.mT 0 false (d1 1#8) 1 2#64 1#64=hg1 from rfl] at hMv;generalize oK Cb.f hL 256=l1 at *
 generalize hL=l0 at *
 have hpt:pt2=fun j=>if j=0 then BM 0#64 4 5 else BM 1#64 10 11:=funext fun _=>rfl;rw [hpt] at hA;rw [e0] at hAc hMv;unfold hC at hAc hAd;clear e0;generalize hg1=G1 at *
 rw [show ((hg0.n:Nat):Int)=1 from rfl] at hMv;generalize Cb.com=C1 at *
 generalize BL.com=C0 at *
 generalize (fun j=>if j=0 then IE 50#64 8 0 - 1#64 else IE 50#64 8 j)=b0 at *
 generalize IE 50#64 8=b1 at *
 generalize Xl 50#64 8=sm at *
 generalize Cd BL.f 13 0=R0 at *
 generalize [BD BL.f 0#64]=L0 at *
 simp only [Gs.H,Gs.H2,As,Av,Ad,Au,clF,Cl.v,A6,AQ,AM,hC,LA,Aw,BM,Dn,pt2,Mc.v,Mc.h,BL,Cb,mach,DG,Hd.v,Ba,He,B3] at hLd hRi hN hS hA hR hG hAc hMv hAd;have hne':(C0=C1)=False:=eq_false fun h=>hne h.symm;refine Ab ok.k122 rfl fun x hx=>?_;refine eX ?_;simp only [App,Aq3,LZ,seval];have zz:=@c7;refine Jp (hLd) ?_;simp only [Bn,seval];have zz:=@j4;refine Jp (hRi) ?_;simp only [Bn,seval];have zz:=Cv @Bf @Fu @Cg;refine Jp (hSt) ?_;simp only [A3,Bn,seval];have zz:=@Cg;refine By [16,192,193,194,196] [16,192,193] (hN) ?_;simp only [Cz,VZ,AE,A3,seval];have zz:=@Ah;refine By [208,211,209,210,212,213] [208,211,209,212] (hS) ?_;simp only [Cz,VZ,AE,seval];have zz:=Cv @VZ.eq_1 @Ah @Cg;refine By [208,211,209,210,212,213,214,194,215] [208,211,209,210,212,213,214] (hA) ?_;simp only [Cz,VZ,AE,A3,BF,hne',decide_false,seval];repeat refine sd ?_
 have zz:=@b7;refine Ge (hR) ?_;simp only [LZ,seval];have zz:=@b7;refine U2 [48] (hG) ?_;simp only [Cz,seval];refine RZ [1057,1058,48,1056,208,211,544,210,212,213,545,546,214,194,215,547,548] [1057,1058,48,1056,208,211,544,210,212,213,545,546,214,215,547,548] (hAc) (by constructor <;> (try simp only [Ah,Fh,seval]) <;> first | exact q1 | (intro j hj;rcases (show j=0 ∨ j=1 by omega) with rfl | rfl <;> simp only [Nat.one_ne_zero,B4,LY,seval])) ?_;simp only [Cz,AE,A3,BF,seval];refine RZ [1057,1058,48,1056] [1057,1058,48,1056] (hMv) (by constructor <;> (try simp only [dg,LY,seval]) <;> first | exact q1 | (intro j hj;rw [d1,Dg.at_mk' _ _ hj];split <;> simp only [LY,seval])) ?_;simp only [Cz,seval];refine RZ [1057,1408,48,1409,208,211,544,210,212,213,545,546,214,194,215,547,548] [1057,1408,48,1409,208,211,544,210,212,213,545,546,214,215,547,548] (hAd) (by constructor <;> (try simp only [Ah,Fh,seval]) <;> first | exact q1 | (intro j hj;rcases (show j=0 ∨ j=1 by omega) with rfl | rfl <;> simp only [Nat.one_ne_zero,B4,LY,seval])) ?_;simp only [Je,AE,A3,BF,seval];exact Ap.mkZ hx [] ⟨rfl,rfl,rfl⟩
theorem ZG (H:Hp):AB H []=H:=by
 simp [AB]
theorem WU (m:List Nat) (h:m[5]?=some 165) (P:Pt):(C5 5 P).ren m=C5 165 P:=Kx 5 165 m h P
theorem Agk {M:Seat} {f:Nat} {us us0:List V} {H:Hp} {n:Nat} {K:V→Hp→Prop} {Q:V→Hp→Nat→Prop} (hr:Ae M f us0 [] 0 Q) (hus:Bp H [] [] us0 us)
 (hK:∀ v H' k',Q v H' k'→k'≤16∧K (v.ren (AK [] n k')) (AU (AK [] n k') H' ++ H)):Bg M f us H n K:=by
 refine Cq hr False [] [] List.nodup_nil B9 rfl B9 hus trivial ?_;intro v' H' k' hq;obtain ⟨h1,h4⟩:=hK v' H' k' hq;refine ⟨⟨by simpa using h1,fun h=>h.elim⟩,?_⟩;rw [Jd [] n k' B9,if_neg (fun h=>h)];rw [List.append_nil,ZG];exact h4
theorem Aj3 (x:Int):∃ d:Nat,1≤d∧d≤4∧IntKind.i64.wrap (1 + (BitVec.ofInt 64 x % 4#64).toInt)=(d:Int):=by
 have h:(BitVec.ofInt 64 x % 4#64).toNat < 4:=by rw [BitVec.toNat_umod];exact Nat.mod_lt _ Al
 generalize BitVec.ofInt 64 x % 4#64=y at h;refine ⟨1 + y.toNat,by omega,by omega,?_⟩;have e:(BitVec.ofNat 64 y.toNat)=y:=B9;rcases (show y.toNat=0 ∨ y.toNat=1 ∨ y.toNat=2 ∨ y.toNat=3 by omega) with q | q | q | q <;> rw [q] at e <;> rw [← e] <;> rfl
variable {M:Seat}
structure OkHw (M:Seat):Prop where
 h:OkHk M
 b:OkBg M
 l:OkHl M
 m:OkM M
 kx:OkI75 M
 e:OkT M
 k159:Ar M 159 Aj7=true
 k41:Ar M 41 f41=true
def Lf (n:Nat) (l:Nat→Oh):V:=.lst 6 n fun j=>(l j).v
theorem Abl (ok:OkHk M) {x:Ctx} (hx:x.k=0) {m0:Mc} {p0:List (Dg × Pr)} (t:Tr) (d:Nat) (hd:1≤d∧d≤4) (hF:Full m0 p0 d t) (hpl:∀ i,i < 2 ^ d→(CJ (xs m0 p0 i).2 (xs m0 p0 i).1).1=none) (n:Nat) (l:Nat→Oh) (sv:V) (hs:sv=Lf n l ∨ (sv = .nils∧n=0)) (hn:n < 9223372036854775808) (rs:Int) {J:List V→Hp→Nat→Prop}
 (i:Nat) (hi:i≤n) (hi2:i≤20) (now:BitVec 64) (G:Gs) (hG:G.ok) (hD:G.D=d) (T:Tre G)
 (hJ:∀ A H N now' G',i + 1≤n→i + 1≤20→G'.ok→G'.D=d→Tre G'→Ak M x A H N (fr 264 [(4,.int .i64 rs),(11,.ptr 0 []),(50,sv),(51,.int .i64 n),(52,.int .i64 (i + 1:Nat))]) (DF m0 p0 d now' t G') 12→J A H N) :
 AV M x (Ap M x [RVr.tmp 10] fun r H' k'=>r = .bool true∧H'=[]∧k'=0) [.code QB,.inv J,.blk 0,.code QV] 12 (fr 264 [(4,.int .i64 rs),(11,.ptr 0 []),(50,sv),(51,.int .i64 n),(52,.int .i64 i)]) (DF m0 p0 d now t G):=by
 have hP1:=Auj ok hx t d hd hF G hG hD T now rs hpl;have hsv:∀ H m z,Bz H m z sv sv:=by
  intro H m z;rcases hs with rfl | ⟨rfl,-⟩
  ·simp only [Lf,Oh.v,LY,seval]
  ·simp only [LY,seval]
 by_cases hin:i=n
 ·subst hin;have d0:((i:Int) < (i:Int))=False:=eq_false Aa;refine es 5 ?_;simp only [QB,d0,LZ,seval];refine AV.weak _ _ _ ?_ hP1;unfold DF;refine Ak.fr [0,1,2,3,4,5,6,7,8,9,10,11] [] hx AG Al ?_ ?_
  ·simp only [LY,seval]
  ·simp only [Do,hD,As,Av,Ad,Au,Cl.v,A6,AQ,AM,Aw,Aq,Ah,Ao,AH,BI,dg,seval]
 obtain rfl:sv=Lf n l:=by
  rcases hs with h | ⟨-,h⟩
  ·exact h
  ·omega
 have hwd:Lf n l = .lst 6 n fun j=>(l j).v:=rfl;have d0:((i:Int) < (n:Int))=True:=eq_true Aa;have d1:(0≤(i:Int))=True:=eq_true Aa;have wI:IntKind.i64.wrap ((i:Int) + 1)=((i + 1:Nat):Int):=AW;by_cases h20:i=20
 ·have d2:((20:Int)≤(i:Int))=True:=eq_true Aa;refine es 14 ?_;simp only [QB,hwd,Oh.v,d0,d1,d2,LZ,seval];repeat refine sd ?_
  refine AV.weak _ _ _ ?_ hP1;unfold DF;refine Ak.fr [0,1,2,3,4,5,6,7,8,9,10,11] [] hx AG Al ?_ ?_
  ·simp only [LY,seval]
  ·simp only [Do,hD,As,Av,Ad,Au,Cl.v,A6,AQ,AM,Aw,Aq,Ah,Ao,AH,BI,dg,seval]
 have d2:((20:Int)≤(i:Int))=False:=eq_false Aa;obtain ⟨G',g1,g2,g3,hO⟩:=Abi ok.r t d hd hF G hG hD T hpl (l i) now;generalize now + (l i).wt % 20#64=now' at hO;rcases hO with hO | hO;all_goals
  simp only [DF,Amk,Do,hD,g2,As,Av,Ad,Au,Cl.v,A6,AQ,AM,Aw,Aq,Oh.v] at hO;refine eX ?_;simp only [QB,hwd,Oh.v,d0,d1,d2,DF,Do,hD,As,Av,Ad,Au,Cl.v,A6,AQ,AM,Aw,Aq,LZ,seval];repeat refine sd ?_
  have zz:=Em @Ah @Ao @AH @Cg @b7;refine By [0,1,2,3,4,5,6,7,8,9,10,11] [0,1,2,3,4,5,6,7,8,9,10,11] (hO) ?_;simp only [wI,Bn,AE,B7,YE,Bt,seval];refine hJ _ _ _ now' G' Aa Aa g1 g2 g3 ?_;unfold DF;first
  | refine Ak.fr [0, 1, 2, 3, 4, 5, 6, 7, 8, 9, 10, 11] [] hx AG Al ?_ ?_
    ·simp only [Lf,Oh.v,LY,seval]
    ·simp only [Do,g2,As,Av,Ad,Au,Cl.v,A6,AQ,AM,Aw,Aq,Ah,Ao,AH,BI,dg,seval]
     done
  | refine Ak.fr [0, 1, 2, 3, 4, 5, 6, 7, 188, 9, 189, 11] [] hx AG Al ?_ ?_
    ·simp only [Lf,Oh.v,LY,seval]
    ·simp only [Do,g2,As,Av,Ad,Au,Cl.v,A6,AQ,AM,Aw,Aq,Ah,Ao,AH,BI,dg,seval]
     done
theorem Agf (ok:OkHw M) (v:V) (hvv:∀ H m z,Bz H m z v v) (m0:Mc) (w0:WS) (dp root rs:Int) (n:Nat) (l:Nat→Oh) (sv:V) (hs:sv=Lf n l ∨ (sv = .nils∧n=0)) (hn:n < 9223372036854775808) (bv:Nat→BitVec 64) (sv':BitVec 64) (d:Nat) (hd:1≤d∧d≤4) (ed:IntKind.i64.wrap (1 + (BitVec.ofInt 64 dp % 4#64).toInt)=(d:Int))
 (hB:Ae M 121 [v,.int .i64 d,.int .i64 root] [] 0 (fun r H' k'=>r = .ptr 0 []∧k'=12∧∃ (t:Tr) (st fi:Dg),Full m0 w0.pres d t∧H'=DF m0 w0.pres d 0#64 t (gB d st fi bv sv')))
 (hF:Ae M 122 [] [] 0 (Q3 (.bool true) [] 0))
 (hP:∃ b:Bool,Ae M 159 [v,.int .i64 d] [] 0 (Q3 (.bool b) [] 0)∧(b=true→∀ i,i < 2 ^ d→(CJ (xs m0 w0.pres i).2 (xs m0 w0.pres i).1).1=none)) :
 Ae M 41 [v,.int .i64 dp,.int .i64 root,sv,.int .i64 rs] [] 0 (Q3 (.bool true) [] 0):=by
 obtain ⟨b,hPb,hpl⟩:=hP;have hsv:∀ H m z,Bz H m z sv sv:=by
  intro H m z;rcases hs with rfl | ⟨rfl,-⟩
  ·simp only [Lf,Oh.v,LY,seval]
  ·simp only [LY,seval]
 refine Ab ok.k41 rfl fun x hx=>?_;refine eX ?_;simp only [f41,c41,LZ,seval];rw [ed];refine Agk (us0:=[v,.int .i64 d,.int .i64 root]) hB ⟨hvv _ _ _,by simp only [Bp,LY,seval]⟩ ?_;rintro v' H' k' ⟨rfl,rfl,t,st,fi,hFu,rfl⟩;refine ⟨by decide,?_⟩;have hG:=Aqp d hd st fi bv sv';have hgD:(gB d st fi bv sv').D=d:=rfl;have hT:Tre (gB d st fi bv sv'):=⟨rfl,rfl,fun j h1 hj=>by have hj:j < 1:=hj;omega,fun j i h1 hj=>by have hj:j < 1:=hj;omega⟩
 generalize gB d st fi bv sv'=G at *
 simp only [DF,As,Av,Ad,Au,Cl.v,A6,AQ,AM,Aw,Aq,Do,hgD,B3];generalize hcm:Ct m0 w0.pres=cm at *
 simp only [Bn,AE,B7,WU,Bt,seval];refine Aj (hF) ?_;simp only [LZ,seval];refine Aj (hPb) ?_ (hus:=⟨hvv _ _ _,by simp only [Bp,LY,seval]⟩);cases b with
 | false =>
   simp only [Bn,seval];exact Ap.mkZ hx [] ⟨rfl,rfl,rfl⟩
 | true =>
   have hpl:=hpl rfl;subst hcm;have hwd:Lf n l = .lst 6 n fun j=>(l j).v:=rfl;rcases hs with hs' | hs';all_goals
    have hss:=hs';simp only [hs',hwd,Bn,seval];refine Am (σ:=Nat × BitVec 64 × Gs) (fun s=>(s.1≤n∧s.1≤20)∧s.2.2.ok∧s.2.2.D=d∧Tre s.2.2) (fun s=>fr 264 [(4,.int .i64 rs),(11,.ptr 0 []),(50,sv),(51,.int .i64 n),(52,.int .i64 s.1)]) (fun s=>DF m0 w0.pres d s.2.1 t s.2.2) (fun _=>12) (fun s=>n - s.1) (0,0#64,G) ⟨⟨by dsimp only;omega,by dsimp only;omega⟩,hG,hgD,hT⟩ ?_ ?_
    ·unfold DF;refine Ak.fr [160,161,162,163,164,165,166,167,168,169,170,171] [] hx AG Al ?_ ?_
     ·simp only [hs',Lf,Oh.v,Int.natCast_zero,LY,seval]
     ·simp only [Do,hgD,As,Av,Ad,Au,Cl.v,A6,AQ,AM,Aw,Aq,Ah,Ao,AH,BI,dg,seval];exact fun j _=>Ea _ _ _ 5 165 rfl _
    ·rintro ⟨i,now,K⟩ ⟨⟨h1,h2⟩,hK,hKD,hKT⟩;dsimp only at h1 h2 hK hKD hKT ⊢;exact Abl ok.h hx t d hd hFu hpl n l sv (by first | exact .inl hss | exact .inr hss) hn rs i h1 h2 now K hK hKD hKT fun A H N now' G' q1 q2 q3 q4 q5 q6=>⟨(i + 1,now',G'),⟨⟨q1,q2⟩,q3,q4,q5⟩,by dsimp only;omega,q6⟩
theorem Kb (ok:OkHw M) (hne:¬ Cb.com=BL.com) (hd1:¬ Cb.com=d1 1#8) (l:List In) (v:V) (hv:Akr l v) (hl:l.length < 9223372036854775808) (dp root:Int) (n:Nat) (os:Nat→Oh) (sv:V) (hs:sv=Lf n os ∨ (sv = .nils∧n=0)) (hn:n < 9223372036854775808) (rs:Int) :
 Ae M 41 [v,.int .i64 dp,.int .i64 root,sv,.int .i64 rs] [] 0 (Q3 (.bool true) [] 0):=by
 have hvv:∀ H m z,Bz H m z v v:=by
  intro H m z;rcases hv with rfl | ⟨rfl,-⟩
  ·simp only [VU,LY,seval]
  ·simp only [LY,seval]
 obtain ⟨d,hd0,hd4,ed⟩:=Aj3 dp;exact Agf ok v hvv (ldM l) (Gh 16) dp root rs n os sv hs hn (IE 1000#64 8) (Xl 1000#64 8) d ⟨hd0,hd4⟩ ed
  (TV ok.b v hvv (ldM l) (Gh 16) (IE 1000#64 8) (Xl 1000#64 8) d ⟨hd0,hd4⟩ root
  (HY ok.m ok.b.pI ok.kx ok.b.i.k151 l v hv hl) (KO ok.b.i.v.o.q.okA ok.b.i.v.o.q.ok.toOkS) (Jn 16) Al
  (Mz ok.b.i 1000#64 Al zq7))
  (Ol ok.l hne hd1)
  (RA ok.e ok.k159 v hvv (ldM l) (Gh 16) d ⟨hd0,hd4⟩ (HY ok.m ok.b.pI ok.kx ok.b.i.k151 l v hv hl) (KO ok.b.i.v.o.q.okA ok.b.i.v.o.q.ok.toOkS) (Jn 16))
end Mv
namespace Go.Proofs.YtlfkjfonpacelaaGreatDoor
open Go Go.RowKit Go.Extern.Stop Go.Stop Go.Extern
theorem isTypeOf (v:Value) (w:World):(Extern.ReflectliteType.typeOf #[.iface 68 v]).run Tryz.prog w = .ok (.iface 219 (.agg #[.pointer (some ⟨6,68,none⟩)])) w:=by kernel_rfl
def cmpM : Array Value → Sem Value := Extern.ReflectliteType.method fun t => do Extern.Rtype.noPackHeld "Comparable" t; pure (.bool (← typeInfo t).comparable)
theorem isComparable (w:World):(cmpM #[.agg #[.pointer (some ⟨6,68,none⟩)]]).run Tryz.prog w = .ok (.bool true) w:=by kernel_rfl
theorem isMethod (v : Value) (w : World) : (Go.method 468 219 v "Comparable").run Tryz.prog w = .ok (184, v) w := by kernel_rfl
theorem noIs (v:Value) (xT:TypeId) (w:World):(Instr.typeAssert (.iface 68 v) xT 221 true).run Tryz.prog w = .ok (.tuple #[.nilIface,.bool false]) w:=run_typeAssert_lacksB Tryz.underlying221 (by kernel_rfl) (by kernel_rfl) v xT w
theorem noUnwrap (v:Value) (xT:TypeId) (w:World):(Instr.typeAssert (.iface 68 v) xT 224 true).run Tryz.prog w = .ok (.tuple #[.nilIface,.bool false]) w:=run_typeAssert_lacksB Tryz.underlying224 (by kernel_rfl) (by kernel_rfl) v xT w
theorem noUnwraps (v:Value) (xT:TypeId) (w:World):(Instr.typeAssert (.iface 68 v) xT 226 true).run Tryz.prog w = .ok (.tuple #[.nilIface,.bool false]) w:=run_typeAssert_lacksB Tryz.underlying226 (by kernel_rfl) (by kernel_rfl) v xT w
theorem isComp:(Tryz.prog.info? 68).map (·.comparable)=some true:=by kernel_rfl
theorem eql_errno (a b:Int) (w:World):(binOp .eql 30 (.iface 68 (.int .i64 a)) (.iface 68 (.int .i64 b))).run Tryz.prog w = .ok (.bool (decide (a=b))) w:=by
 obtain ⟨i,hi,hcmp⟩:=Option.map_eq_some_iff.1 isComp;have h1:∀ d:Nat,(Op.equalIn (d + 1) 68 (.int .i64 a) (.int .i64 b)).run Tryz.prog w = .ok (decide (a=b)) w:=fun d=>by
  simp only [Op.equalIn,Sem.run_bind,run_underlying Tryz.underlying68,Result.andThen_ok,if_true,Sem.run_pure]
  congr 1
 have h:∀ d:Nat,(Op.equalIn (d + 2) 30 (.iface 68 (.int .i64 a)) (.iface 68 (.int .i64 b))).run Tryz.prog w = .ok (decide (a=b)) w:=fun d=>by
  have:=h1 d;simp [Op.equalIn,run_underlying Tryz.underlying30,typeInfo,hi,hcmp] at this ⊢;exact this
 simp only [binOp];simp [Op.equal,Op.maxDepth,h 9998]
theorem is_errno' (a b:Int) (c:Bool) (hc:decide (a=b)=c) (w:World) :
 Calls Tryz.prog 20 #[.iface 68 (.int .i64 a),.iface 68 (.int .i64 b)] w fun e w'=>e = .returned (.bool c)∧w'=w:=by
 have h8:=@run_callFunc_extern Tryz.prog 60 _ Extern.ReflectliteType.typeOf Tryz.func60 (by kernel_rfl) (by kernel_rfl) (by kernel_rfl) (by kernel_rfl);have h32:=@run_callFunc_extern Tryz.prog 184 _ cmpM Tryz.func184 (by kernel_rfl) (by kernel_rfl) (by kernel_rfl) (by kernel_rfl);have tT:=isTypeOf;have cT:=isComparable;have mR:=isMethod;have nE:=noIs;have uE:=noUnwrap;have vE:=noUnwraps;have heq:=eql_errno a b w;rw [hc] at heq;clear hc;cases c
 ·go_enter Tryz.func20,Tryz.ntmps20
  go_wp2
  refine wp_loop_rounds 1 ?_;rw [rounds_succ]
  go_wp2
  go_ret
  exact ⟨rfl,rfl⟩
 ·go_enter Tryz.func20,Tryz.ntmps20
  go_wp2
  refine wp_loop_rounds 1 ?_;rw [rounds_succ]
  go_wp2
  go_ret
  exact ⟨rfl,rfl⟩
end Go.Proofs.YtlfkjfonpacelaaGreatDoor
namespace Mv
open Go
def Kd (M:Seat) (W:World):Env where
 ρ:=fun _=>0
 D:=fun _=>False
 im:=fun b=>∃ cells el fz,W.heap[b]?=some (.cells cells el fz)
 w:=W
 φ:=M.φ
 τ:=M.τ
theorem Inv.start (M:Seat) (W:World) (hg:GS M (Kd M W)):Inv M ⟨Kd M W,fun b=>∃ id,Ag [] id=true∧(Kd M W).ρ id=b,0⟩ (Kd M W) [] where
 ev:=⟨rfl,rfl,rfl,Nat.le_refl _,fun _ _ _=>rfl,fun _=>Nat.le_refl _⟩
 blk:=fun id h=>by simp [Ag] at h
 inj:=fun i j h=>by simp [Ag] at h
 imo:=fun b h=>.inl h
 imb:=fun b h=>.inl h
 rb:=fun id h=>h.elim
 keep:=fun b h=>h
 low:=fun id h=>by simp at h
 gs:=hg
 φ:=rfl
 τ:=rfl
theorem Wx {M:Seat} {f:Nat} {us:List V} {vs:Array Value} {Q:V→Hp→Nat→Prop} (hr:Ae M f us [] 0 Q) (W:World) (hg:GS M (Kd M W)) (ha:Rc (Kd M W) us vs) :
 Calls M.P (M.φ f) vs W fun en W'=>∃ x v H' k' e',en = .returned x∧RV e' v x∧Q v H' k'∧RowKit.Below W.heap.size W W':=by
 refine (hr (Kd M W) vs (Inv.start M W hg) (fun id _ h=>h) ha).mono ?_;rintro en W' ⟨x,v,e',H',k',rfl,rfl,hI,hv,_,_,hQ⟩;refine ⟨x,v,H',k',e',rfl,hv,hQ,hI.ev.os,hI.ev.tape,hI.ev.output,hI.ev.size,fun k hk=>hI.ev.frame k hk ?_⟩;rintro ⟨id,h,_⟩;simp [Ag] at h
theorem Acl {M:Seat} {W:World} {name:String} {k:IntKind} {zs:List Int} {g:Nat} (h:Lib.TabIs M.P W name k zs) (hg:M.P.globalNamed name=some g) (hpos:0 < zs.length) :
 R (Kd M W) (.imm (.ar 1 zs.length (fun i=>.int k (zs.getD i 0)))) [.pointer (some ⟨g,0,none⟩)]:=by
 have hc:∀ i,i < zs.length→W.cell? ⟨g,i,none⟩=some (.int k (zs.getD i 0)):=fun i hi=>h.cell hg i hi;have h0:=hc 0 hpos;simp only [R];cases hb:W.heap[g]? with
 | none=>simp [World.cell?,hb] at h0
 | some o =>
   cases o with
   | cells c el fz =>
     have hci:∀ i,i < zs.length→c[i]?=some (.int k (zs.getD i 0)):=fun i hi=>by simpa [World.cell?,hb] using hc i hi
     have hsz:zs.length≤c.size:=by
      have:=hci (zs.length - 1) Aa;have:=(Array.getElem?_eq_some_iff.1 this).1;omega
     refine ⟨g,0,c,el,fz,rfl,⟨c,el,fz,hb⟩,hb,by simp only [V.size];omega,by simp [V.size];omega,fun i hi=>⟨⟨rfl,rfl⟩,?_⟩⟩;simp only [V.size,Nat.mul_one,List.drop_zero];have h1:=hci i hi;have h2:c.toList[i]?=some (.int k (zs.getD i 0)):=by simpa using h1
     apply List.ext_getElem?;intro j;cases j with
     | zero=>simp [List.getElem?_take,List.getElem?_drop,hi,h1]
     | succ j=>simp [List.getElem?_take]
   | _=>simp [World.cell?,hb] at h0
end Mv
namespace Go.Proofs.YtlfkjfonpacelaaGreatDoor
open Go Mv
noncomputable def st:Seat where
 P:=Tryz.prog
 φ:=fun i=>match i with | 41=>6 | 49=>26 | 50=>179 | 51=>66 | 52=>203 | 53=>202 | 55=>65 | 59=>113 | 62=>73 | 63=>20 | 68=>8 | 70=>30 | 71=>28 | 74=>40 | 75=>41 | 77=>83 | 79=>69 | 97=>29 | 98=>131 | 110=>45 | 111=>54 | 112=>15 | 114=>59 | 115=>36 | 117=>35 | 119=>77 | 120=>52 | 121=>21 | 122=>9 | 123=>17 | 124=>18 | 126=>23 | 130=>55 | 131=>94 | 132=>95 | 151=>7 | 152=>10 | 153=>11 | 154=>12 | 155=>13 | 156=>14 | 157=>16 | 159=>33 | 161=>34 | 162=>37 | 163=>39 | 164=>78 | 165=>79 | 167=>27 | 169=>38 | 197=>42 | 198=>180 | 199=>98 | 200=>90 | 201=>204 | 202=>132 | 207=>112 | 208=>139 | 212=>43 | 213=>44 | 214=>68 | 215=>70 | 216=>71 | 217=>72 | 220=>102 | 222=>48 | 223=>49 | 241=>67 | 246=>87 | 247=>88 | 248=>75 | 249=>50 | 250=>51 | 251=>96 | 252=>76 | 253=>62 | 254=>53 | 255=>56 | 256=>57 | 257=>58 | 258=>63 | 259=>93 | 260=>129 | 266=>81 | 267=>82 | 270=>80 | 274=>46 | 275=>47 | 276=>64 | 277=>145 | 308=>111 | 312=>127 | 315=>84 | 316=>128 | 317=>137 | 318=>138 | 319=>85 | 320=>86 | 321=>103 | 322=>104 | 323=>105 | 324=>106 | 325=>107 | 326=>108 | 327=>109 | 328=>110 | 346=>99 | 347=>100 | 348=>101 | 350=>122 | 351=>123 | 352=>124 | 353=>125 | 354=>126 | 355=>91 | 356=>130 | 357=>115 | 358=>116 | 359=>92 | 361=>117 | 362=>118 | 363=>89 | 417=>150 | 418=>119 | 419=>120 | 420=>121 | 421=>134 | 423=>136 | 448=>133 | 452=>146 | 453=>147 | 454=>148 | 455=>144 | 462=>154 | 463=>149 | 487=>153 | 595=>176 | 596=>177 | 597=>178 | 598=>198 | 599=>199 | 600=>200 | 601=>201 | _=>0
 τ:=fun i=>match i with | 74=>68 | 145=>250 | 394=>249 | 147=>251 | 362=>112 | 422=>167 | 426=>308 | n=>n
 γ:=fun i=>match i with | 1=>3 | 2=>4 | 3=>5 | n=>n
 gl:=[1,2,3]
theorem fn220:Gf st 220:=⟨by decide,Tryz.f102,Tryz.func102,by kernel_rfl,by kernel_rfl⟩
theorem fn352:Gf st 352:=⟨by decide,Tryz.f124,Tryz.func124,by kernel_rfl,by kernel_rfl⟩
theorem fn256:Gf st 256:=⟨by decide,Tryz.f57,Tryz.func57,by kernel_rfl,by kernel_rfl⟩
theorem fn257:Gf st 257:=⟨by decide,Tryz.f58,Tryz.func58,by kernel_rfl,by kernel_rfl⟩
theorem mth422_0:Dc st 422 0 596:=⟨⟨by decide,Tryz.f177,Tryz.func177,by kernel_rfl,by kernel_rfl⟩,fun v w=>by kernel_rfl⟩
theorem mth422_1:Dc st 422 1 597:=⟨⟨by decide,Tryz.f178,Tryz.func178,by kernel_rfl,by kernel_rfl⟩,fun v w=>by kernel_rfl⟩
theorem mth422_2:Dc st 422 2 595:=⟨⟨by decide,Tryz.f176,Tryz.func176,by kernel_rfl,by kernel_rfl⟩,fun v w=>by kernel_rfl⟩
theorem mth426_0:Dc st 426 0 599:=⟨⟨by decide,Tryz.f199,Tryz.func199,by kernel_rfl,by kernel_rfl⟩,fun v w=>by kernel_rfl⟩
theorem mth426_1:Dc st 426 1 600:=⟨⟨by decide,Tryz.f200,Tryz.func200,by kernel_rfl,by kernel_rfl⟩,fun v w=>by kernel_rfl⟩
theorem mth426_2:Dc st 426 2 598:=⟨⟨by decide,Tryz.f198,Tryz.func198,by kernel_rfl,by kernel_rfl⟩,fun v w=>by kernel_rfl⟩
theorem okM:OkM st:=by constructor <;> kernel_rfl
theorem okHp:OkHp st:=⟨okM,by kernel_rfl,by kernel_rfl⟩
theorem okD:OkD st:=by constructor <;> kernel_rfl
theorem okHo:OkHo st:=⟨okHp,okD,by kernel_rfl⟩
theorem okPr:OkPr st:=⟨by kernel_rfl,by kernel_rfl,by kernel_rfl,by kernel_rfl,by kernel_rfl,mth422_0,mth422_1,mth422_2⟩
theorem okHn:OkHn st:=⟨okHo,okPr,by kernel_rfl⟩
theorem okH:OkH st:=by constructor <;> kernel_rfl
theorem okS:OkS st:=⟨okH,by kernel_rfl,by kernel_rfl,by kernel_rfl,by kernel_rfl,by kernel_rfl⟩
theorem okV:OkV st:=⟨okS,by kernel_rfl,by kernel_rfl,by kernel_rfl,by kernel_rfl,by kernel_rfl,by kernel_rfl,fn220⟩
theorem okHr:OkHr st:=⟨okHn,okV,by kernel_rfl⟩
theorem okHa:OkHa st:=⟨okHr,by kernel_rfl,by kernel_rfl⟩
theorem okI:OkI st:=⟨okV⟩
theorem okW:OkW st:=⟨okI,by kernel_rfl⟩
theorem okO:OkO st:=⟨okW,by kernel_rfl,by kernel_rfl,by kernel_rfl,by kernel_rfl⟩
theorem okP:OkP st:=by constructor <;> kernel_rfl
theorem okNx:OkNx st:=by constructor <;> kernel_rfl
theorem okQ:OkQ st:=⟨okM,okO,okP,okNx⟩
theorem okCk:OkCk st:=⟨by kernel_rfl,by kernel_rfl,by kernel_rfl,by kernel_rfl,mth426_0,mth426_1,mth426_2⟩
theorem okOs:OkOs st:=⟨okQ,okD,okCk,okPr,by kernel_rfl,by kernel_rfl⟩
theorem okGN:OkGN st:=by constructor <;> kernel_rfl
theorem okLd:OkLd st:=by constructor <;> kernel_rfl
theorem okPo:OkPo st:=⟨okP,by kernel_rfl,by kernel_rfl,by kernel_rfl,by kernel_rfl⟩
theorem okGm:OkGm st:=⟨okGN,okLd,okPo,by kernel_rfl,by kernel_rfl,by kernel_rfl,by kernel_rfl⟩
theorem okMv:OkMv st:=⟨okGm,by kernel_rfl,by kernel_rfl,by kernel_rfl,by kernel_rfl,by kernel_rfl,by kernel_rfl,by kernel_rfl,fn352⟩
theorem okCl:OkCl st:=⟨okMv,by kernel_rfl⟩
theorem okLe:OkLe st:=⟨okLd,by kernel_rfl,by kernel_rfl⟩
theorem okGs:OkGs st:=⟨okMv,okCl,okLe,by kernel_rfl,by kernel_rfl,by kernel_rfl,by kernel_rfl⟩
theorem okGt:OkGt st:=⟨okGs,by kernel_rfl⟩
theorem okGr:OkGr st:=⟨okGt,by kernel_rfl⟩
theorem okHv:OkHv st:=⟨okHa,okOs,okGr,by kernel_rfl,by kernel_rfl⟩
theorem okEo:OkEo st:=⟨okHv,by kernel_rfl,by kernel_rfl⟩
theorem okEp:OkEp st:=⟨okEo,by kernel_rfl,by kernel_rfl,fn256⟩
theorem okT:OkT st:=⟨okM,okO,okP⟩
theorem okRc:OkRc st:=⟨okHo,okT,okPr,by kernel_rfl⟩
theorem okAx:OkAx st:=⟨okRc,by kernel_rfl⟩
theorem okPt:OkPt st:=⟨okAx,okOs,by kernel_rfl⟩
theorem okAg:OkAg st:=⟨okEp,okAx,okPt,by kernel_rfl,fn257⟩
theorem okOt:OkOt st:=⟨okGr,okGN,okOs,okPt,by kernel_rfl,by kernel_rfl⟩
theorem okDp:OkDp st:=by constructor <;> kernel_rfl
theorem is_runs (a b:Int):Ae st 63 [.ifc 74 (.int .i64 a),.ifc 74 (.int .i64 b)] [] 0 (Q3 (.bool (decide (a=b))) [] 0):=by
 intro e vs hI hD hargs;obtain ⟨hlen,hargs⟩:=hargs;have hτ:e.τ 74=68:=by exact (congrFun hI.τ 74).trans rfl
 match vs,hlen with
 | ⟨[v0, v1]⟩, _ =>
   have h0:=hargs 0;have h1:=hargs 1;simp [RV,RS,V.isAgg,R,hτ] at h0 h1;rw [h0.1,h1.1];refine (is_errno' a b _ rfl e.w).mono ?_;rintro en w' ⟨rfl,rfl⟩;exact ⟨_,.bool _,e,[],0,rfl,rfl,hI,by simp [RV,RS,V.isAgg,R],hD,Nat.le_refl _,rfl,rfl,rfl⟩
theorem okHk:OkHk st:=⟨okAg,okOt,okDp,by kernel_rfl,by kernel_rfl,by kernel_rfl,by kernel_rfl,by kernel_rfl,by kernel_rfl,is_runs⟩
theorem okAs:OkAs st:=⟨okAx,by kernel_rfl⟩
theorem okHi:OkHi st:=⟨okHv,by kernel_rfl,by kernel_rfl,by kernel_rfl,by kernel_rfl,by kernel_rfl,by kernel_rfl⟩
theorem okBg:OkBg st:=⟨okAs,okHi,okI,by kernel_rfl,by kernel_rfl,by kernel_rfl,okMv⟩
theorem okHj:OkHj st:=⟨okHi,by kernel_rfl,by kernel_rfl,by kernel_rfl⟩
theorem okHl:OkHl st:=⟨okHj,fn257,by kernel_rfl⟩
theorem okI7:OkI7 st:=⟨by kernel_rfl⟩
theorem okI75:OkI75 st:=⟨okI7,by kernel_rfl⟩
theorem okHw:OkHw st:=⟨okHk,okBg,okHl,okM,okI75,okT,by kernel_rfl,by kernel_rfl⟩
end Go.Proofs.YtlfkjfonpacelaaGreatDoor
