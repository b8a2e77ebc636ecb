/- A part. -/
import Derived.Test.YtlfkjfonpacelaaGreatDoorHV
import Derived.Test.YtlfkjfonpacelaaGreatDoorChecked
import Derived.WalkKit
import Derived.LaidEql
import Derived.Stop.Asserts
import Derived.RowKitTokens
import Derived.Carry
import Derived.Lib.LaidTab
import Derived.Deep.SlicePairs
import Derived.Test.YtlfkjfonpacelaaGreatDoorRows
import Derived.KernelRfl
import Derived.OpenShut
set_option linter.all false
set_option maxRecDepth 200000
set_option maxHeartbeats 16000000
namespace Mv
open Go
theorem Lf {M:Seat} (ok:OkHj M) (pres:List (Dg × Pr)) (l:List (Nat→BitVec 64)) (G:Gs) (hD:G.D=1) (hn:G.n=1) (hp:(G.c 0).pos=1#64) (hv:(G.c 0).val=BO.com) :
 Ae M 124 [.ptr 0 [],.ptr 4 []] (G.H ++ hC pres l) 17 (Q3 (Ag .nils .nili) (G.H ++ hC pres l) 17):=by
 have hS:=T5 ok.i.v ok.k359 pres l G hD hn hp hv
 have hP:=I5 ok.i.v.g.t.s.v.g.p
 unfold hC at *
 generalize BO.com=C1 at *
 simp only [Gs.H,hD,hn,AB,AH,Ah,AJ,Cl.v,AA,Be,AU,Av,B2,CN,Mc.v,B0,BO,mach,vwV,KG,CH] at hS ⊢
 refine Ab ok.i.k124 rfl fun x hx=>?_
 refine es 2000 ?_;(simp only [f124,Rs,LZ,seval])
 have z1:IntKind.i64.wrap 1=1:=rfl
 refine Ji [0,1,2,3,4,5,6,7,8,9,10,11,12,13,14,15,16] [0,1,2,3,4,5,6,7,8,9,10,11,12,14,15,16] (hS) (by constructor <;> (try simp only [Ak,Ez,seval]) <;> first | exact q1 | (intro j hj;rcases (show j=0 ∨ j=1 by omega) with rfl | rfl <;> simp only [Nat.one_ne_zero,C8,LY,seval])) ?_
 (simp only [Cj,Bw,A5,A3,z1,hp,seval])
 refine Aj ?_
 refine es 2000 ?_
 (simp only [hp,z1,LZ,seval])
 refine Al (hP) ?_
 (simp only [Cz,z1,LZ,seval])
 refine Aj ?_
 refine es 2000 ?_
 (simp only [z1,LZ,seval])
 refine Aq.mk hx [0,1,2,3,4,5,6,7,8,9,10,11,12,13,14,15,16] [] (Ag .nils .nili) _ 17 Am (by (simp only [Db,seval])) (by simp only [LV,BU,seval,LY]) ?_ ⟨rfl,rfl,rfl⟩
 simp only [Ez,Bw,Ak,seval]
 intro j hj
 rcases (show j=0 ∨ j=1 by omega) with rfl | rfl <;> simp only [Nat.one_ne_zero,C8,LN,LP,V.ren,AM,A4,BL,BQ,seval,LY]
theorem KU {M:Seat} (ok:OkHj M) (fn:FJ M 257) (pres:List (Dg × Pr)) (l:List (Nat→BitVec 64)) (G:Gs) (hD:G.D=1) (hn:G.n=2) (hp:(G.c 0).pos=1#64) (hv:(G.c 0).val=BO.com) (hp1:(G.c 1).pos=2#64) (hv1:(G.c 1).val=d1 1#8) (hne:¬ BO.com=d1 1#8)
 (hr0:(G.c 0).par = -1) (hr1:(G.c 1).par=0) (hs1:(G.c 1).rs=false) (ht1:(G.c 1).st=false) :
 Ae M 124 [.ptr 0 [],.ptr 4 []] (G.H ++ hC pres l) 17 (Q3 (Ag (.sl 17 [] 0 1 151) .nili) (G.H ++ hC pres l ++ [(17,.ar 151 1 fun _=>N1 1 true false Dg.zero (UM (BV B0.f 13 0) B0.h [Cg B0.f 0#64] Pr.zero))]) 18):=by
 have hS:=UA ok.i.v ok.k359 pres l G hD hn hp hv hp1 hv1 hne
 have hP:=I5 ok.i.v.g.t.s.v.g.p
 have hP2:=BI ok.i.v.g.t.s.v.g.p (k:=1) (i:=0) Am Am
 rw [show pw 1 0=2#64 by decide] at hP2
 have hH:=ML ok 2 Am 0 G.c (fun j=>decide (j=0)) hr0 rfl
 have hT:=PK ok pres l 2 0 1 (G.c 1) ht1 hp1
 unfold hC hB at *
 generalize BO.com=C1 at *
 generalize BV B0.f 13 0=R0 at *
 generalize [Cg B0.f 0#64]=L0 at *
 simp only [Gs.H,hD,hn,AB,AH,Ah,AJ,Cl.v,AA,Be,AU,Av,B2,CN,Mc.v,Mc.h,B0,BO,mach,vwV,Xa,KG,UM,Hd.v,By,N1,Qk,hp1,hr1,hs1,ht1,CH] at hS hT hH ⊢
 refine Ab ok.i.k124 rfl fun x hx=>?_
 refine es 2000 ?_;(simp only [f124,Rs,LZ,seval])
 have z1:IntKind.i64.wrap 1=1:=rfl
 have z2:IntKind.i64.wrap 2=2:=rfl
 refine Ji [0,1,2,3,4,5,6,7,8,9,10,11,12,13,14,15,16] [0,1,2,3,4,5,6,7,8,9,10,11,12,14,15,16] (hS) (by constructor <;> (try simp only [Ak,Ez,seval]) <;> first | exact q1 | (intro j hj;rcases (show j=0 ∨ j=1 by omega) with rfl | rfl <;> simp only [Nat.one_ne_zero,C8,LY,seval])) ?_
 (simp only [Cj,Bw,A5,A3,z1,hp,seval])
 refine Aj ?_
 refine es 2000 ?_
 (simp only [hp,z1,LZ,seval])
 refine Al (hP) ?_
 (simp only [Cz,z1,LZ,seval])
 refine Aj ?_
 refine es 2000 ?_
 (simp only [z1,z2,hp1,hr1,hs1,ht1,LZ,seval])
 refine Al (hP2) ?_
 (simp only [Cz,z1,z2,hp1,hr1,hs1,ht1,LZ,seval])
 refine Ji [81,0,4,82,83] [81,82,83] (hH) (by constructor <;> (try simp only [CB,dg,seval]) <;> first | exact q1 | (intro j hj;rcases (show j=0 ∨ j=1 by omega) with rfl | rfl <;> simp only [Nat.one_ne_zero,hp1,hr1,hs1,ht1,C8,LY,seval])) ?_
 (simp only [z1,z2,hp1,hr1,hs1,ht1,B7,seval])
 repeat refine sd ?_
 refine WK (f:=257) fn rfl ?_
 refine Ji [4,5,6,7,8,9,10,11,12,13,14,15,16,81,0,82,83,1713] [4,5,6,7,8,9,10,11,12,14,15,16,81,1713] (hT) (by constructor <;> (try simp only [Ak,Ez,seval]) <;> first | exact q1 | (intro j hj;rcases (show j=0 ∨ j=1 by omega) with rfl | rfl <;> simp only [Nat.one_ne_zero,C8,LY,seval])) ?_
 (simp only [Lbj,Bw,A5,A3,z1,z2,seval])
 refine Aj ?_
 refine es 2000 ?_
 (simp only [z1,LZ,seval])
 refine Aq.mk hx [0,1,2,3,4,5,6,7,8,9,10,11,12,13,14,15,16,2369] [] (Ag (.sl 17 [] 0 1 151) .nili) _ 18 Am (by (simp only [Db,seval])) (by simp only [LV,BU,seval,LY]) ?_ ⟨rfl,rfl,rfl⟩
 simp only [Ez,Bw,Ak,Em,seval]
 refine ⟨fun j hj=>?_,fun j hj=>?_⟩
 ·rcases (show j=0 ∨ j=1 by omega) with rfl | rfl <;> simp only [Nat.one_ne_zero,C8,LN,LP,V.ren,AM,A4,BL,BQ,seval,LY]
 ·obtain rfl:j=0:=Aa
  simp only [if_true,Em,CB,seval]
theorem Ao7:Jn (d1 1#8)=C5 8 (fun k=>if k=0 then 1 else 0) 32:=Cp 8 32 (fun k hk=>by
 rw [d1,Dg.at_mk' _ _ hk]
 split <;> rfl)
theorem Aa1:Nat.beq (VW (1 <<< 120)) (C5 8 (fun k=>if k=0 then 1 else 0) 32)=false:=by kernel_rfl
theorem Afn:¬ BO.com=d1 1#8:=by
 intro h
 have h2:=Aa1
 rw [← W5,← Ao7,h,Nat.beq_refl] at h2
 cases h2
def hg0:Gs:=Gs.new 1 10#64 0#64 B0.com BO.com 0 0#64 (DX 50#64 8) (KX 50#64 8) 0#64 0#64
def hg1:Gs:=hg0.mT 0 false (d1 1#8) 1 2#64 1#64
theorem Acw:YC 1#64=0:=Am
theorem Acp:ixW 1#64=0:=Am
theorem Aij:hg0.mE 0 false (d1 1#8) 1 2#64 1#64=none:=by
 unfold Gs.mE
 rw [if_neg Am,if_neg Am]
 rw [show (hg0.c (0:Int).toNat).pos=1#64 from rfl,Acw,Acp]
 unfold mvE
 rw [if_neg Am,if_neg Am,if_neg Am,if_neg,if_neg Am,if_neg Am,if_neg Am,if_neg Am,if_neg Am]
 rintro ⟨j,_,h,_⟩
 exact absurd h (by show ¬ (-1:Int)=0;decide)
theorem An6:(hg1.c 1).pos=2#64:=by
 show anP (YC 1#64) (ixW 1#64) false=2#64
 rw [Acw,Acp];decide
theorem hgR:Ty 10#64 0#64:=⟨by decide,by decide,by decide⟩
structure OkHl (M:Seat):Prop where
 j:OkHj M
 f257:FJ M 257
 k122:Ar M 122 Akd=true
theorem Nu {M:Seat} (ok:OkHl M) (hne:¬ BO.com=B0.com) (hd1:¬ BO.com=d1 1#8):Ae M 122 [] [] 0 (Q3 (.bool true) [] 0):=by
 have okv:=ok.j.i.v
 have hLd:=KO ok.j.i
 have hRi:=Ku ok.j.i 50#64 Am zq7
 have hN:=J2 okv.a.r.n B0.f B0.g B0.pc B0.hl B0.xt (EC 16).pres 1 Am
 have hS:=PO okv.a 1
 have hA:=UH okv.a (EC 16).pres hL
 have hR:=IE ok.j.i 1 10#64 B0.com
 have hG:=JA okv.g.t.s.v 1 10#64 0#64 B0.com BO.com 0 0#64 (DX 50#64 8) (KX 50#64 8) 0#64 0#64 Am hgR Am Am Am
 have hAc:=Lf ok.j (EC 16).pres (oK BO.f hL 256) hg0 rfl rfl rfl rfl
 have hMv:=Ou okv.g hg0 (Yl 10#64 0#64 hgR 1 Am _ _ 0 Am _ _ _ _ _).w 0 false (d1 1#8) 1 2#64 1#64 Aij
 have hAd:=KU ok.j ok.f257 (EC 16).pres (oK BO.f hL 256) hg1 rfl rfl rfl rfl An6 rfl hd1 rfl rfl rfl rfl
 have hSt:=P0 okv.o.q.okA okv.o.q.ok.toOkS
 simp only [AK,NL] at hSt
 generalize (EC 16).pres=pres at *
 have e0:hg0.H=[(0,AB (1:Nat) 10#64 0#64 B0.com (.ptr 2 []) (.sl 1 [] 0 1 42)),(1,AJ 1 fun _=>RK BO.com (0:Nat) 0#64),(2,AA (fun j=>if j=0 then DX 50#64 8 0 - 1#64 else DX 50#64 8 j) (KX 50#64 8) 0#64 (.sl 3 [] 0 1 2) (0#64 + 1#64)),(3,Be 1 (fun _=>1#64) fun _=>false)]:=rfl
 have hL0:([Cg B0.f 0#64]:List Pf).length=1:=rfl
 simp only [show hg0.mT 0 false (d1 1#8) 1 2#64 1#64=hg1 from rfl] at hMv
 generalize oK BO.f hL 256=l1 at *
 generalize hL=l0 at *
 have hpt:pt2=fun j=>if j=0 then B2 0#64 4 5 else B2 1#64 10 11:=funext fun _=>rfl
 rw [hpt] at hA
 rw [e0] at hAc hMv
 unfold hC at hAc hAd
 clear e0
 generalize hg1=G1 at *
 rw [show ((hg0.n:Nat):Int)=1 from rfl] at hMv
 generalize BO.com=C1 at *
 generalize B0.com=C0 at *
 generalize (fun j=>if j=0 then DX 50#64 8 0 - 1#64 else DX 50#64 8 j)=b0 at *
 generalize DX 50#64 8=b1 at *
 generalize KX 50#64 8=sm at *
 generalize BV B0.f 13 0=R0 at *
 generalize [Cg B0.f 0#64]=L0 at *
 simp only [Gs.H,Gs.H2,AB,AH,Ah,AJ,RK,Cl.v,AA,Be,AU,hC,KG,Av,B2,CN,pt2,Mc.v,Mc.h,B0,BO,mach,UM,Hd.v,By,N1,CH] at hLd hRi hN hS hA hR hG hAc hMv hAd
 have hne':(C0=C1)=False:=eq_false fun h=>hne h.symm
 refine Ab ok.k122 rfl fun x hx=>?_
 refine es 2000 ?_;(simp only [Akd,Ak6,LZ,seval])
 have zz:=@mach.eq_1;refine PW (hLd) ?_
 (simp only [B7,seval])
 have zz:=@AA.eq_1;refine PW (hRi) ?_
 (simp only [B7,seval])
 have zz:=CX @Ba @FT @Cn;refine PW (hSt) ?_
 (simp only [A3,B7,seval])
 have zz:=@Cn;refine Co [16,192,193,194,196] [16,192,193] (hN) ?_
 (simp only [Cj,TB,A5,A3,seval])
 have zz:=@Ak;refine Co [208,211,209,210,212,213] [208,211,209,212] (hS) ?_
 (simp only [Cj,TB,A5,seval])
 have zz:=CX @TB.eq_1 @Ak @Cn;refine Co [208,211,209,210,212,213,214,194,215] [208,211,209,210,212,213,214] (hA) ?_
 (simp only [Cj,TB,A5,A3,Bw,hne',decide_false,seval])
 repeat refine sd ?_
 have zz:=@dg.eq_1;refine KZ (hR) ?_
 (simp only [LZ,seval])
 have zz:=@dg.eq_1;refine SI [48] (hG) ?_
 (simp only [Cj,seval])
 refine Ji [1057,1058,48,1056,208,211,544,210,212,213,545,546,214,194,215,547,548] [1057,1058,48,1056,208,211,544,210,212,213,545,546,214,215,547,548] (hAc) (by constructor <;> (try simp only [Ak,Ez,seval]) <;> first | exact q1 | (intro j hj;rcases (show j=0 ∨ j=1 by omega) with rfl | rfl <;> simp only [Nat.one_ne_zero,C8,LY,seval])) ?_
 (simp only [Cj,A5,A3,Bw,seval])
 refine Ji [1057,1058,48,1056] [1057,1058,48,1056] (hMv) (by constructor <;> (try simp only [dg,LY,seval]) <;> first | exact q1 | (intro j hj;rw [d1,Dg.at_mk' _ _ hj];split <;> simp only [LY,seval])) ?_
 (simp only [Cj,seval])
 refine Ji [1057,1408,48,1409,208,211,544,210,212,213,545,546,214,194,215,547,548] [1057,1408,48,1409,208,211,544,210,212,213,545,546,214,215,547,548] (hAd) (by constructor <;> (try simp only [Ak,Ez,seval]) <;> first | exact q1 | (intro j hj;rcases (show j=0 ∨ j=1 by omega) with rfl | rfl <;> simp only [Nat.one_ne_zero,C8,LY,seval])) ?_
 (simp only [Lbj,A5,A3,Bw,seval])
 exact Aq.mkZ hx [] ⟨rfl,rfl,rfl⟩
def c28:LC:=(sr [A1 6 (.mv (.c (.bool false)))] (sr [mt 13 1,
  Eh 14 .u64 13,
  aU 15 .rem 14 4,
  Eh 16 .i64 15,
  aJ 17 .add 1 16,mt 1 17] (sr [mt 18 0,mt 19 1,mt 20 2,kl 21 121 [(.t 18),(.t 19),(.t 20)],mt 7 21] (.seq (sr [mt 22 7,A1 23 (.eq false true .ptr (.t 22) (.c .nilp)),mt 24 23,⟨(some 25),.call 122 [],(some (24,false))⟩,A2 26 24 false (.un .not (.t 25)),
  Di 27 24 26] (.cond (.t 27) (sr [A1 6 (.mv (.c (.bool false)))] .ret) .skip)) (.seq (.regd [⟨0,0,mt 29 7⟩,⟨1,1,nc 30 29⟩,⟨2,3,fa 31 1 30⟩,⟨3,7,lb 32 1 31⟩,⟨4,0,mt 33 7⟩,⟨5,16,nc 34 33⟩,⟨6,48,fa 35 0 34⟩,⟨7,112,lb 36 1 35⟩,⟨8,255,kl 37 123 [(.t 32),(.t 36),(cI 0)]⟩,⟨9,511,mt 28 37⟩,⟨10,1023,ee 38 28 0⟩,⟨11,1023,ee 39 28 1⟩,⟨12,2047,mt 8 38⟩,⟨13,8191,mt 9 39⟩]) (.seq (.regd [⟨0,0,mt 41 7⟩,⟨1,1,nc 42 41⟩,⟨2,3,fa 43 1 42⟩,⟨3,7,lb 44 1 43⟩,⟨4,0,mt 45 7⟩,⟨5,16,nc 46 45⟩,⟨6,48,fa 47 0 46⟩,⟨7,112,lb 48 1 47⟩,⟨8,255,kl 49 124 [(.t 44),(.t 48)]⟩,⟨9,511,mt 40 49⟩,⟨10,1023,ee 50 40 0⟩,⟨11,1023,ee 51 40 1⟩,⟨12,2047,mt 10 50⟩,⟨13,8191,mt 11 51⟩]) (.seq (sr [mt 52 9,A1 53 (.eq true true (.iface [74]) (.t 52) (.c .nili)),mt 54 53,mg 55 54 false 11,A2 56 54 false (.eq true true (.iface [74]) (.t 55) (.c .nili)),
  Di 57 54 56,mt 58 57,mg 59 58 false 8,mg 60 58 false 10,A2 61 58 false (.len 0 (.t 60)),A2 62 58 false (.ari .eql (.t 61) (cI 0)),A2 63 58 false (.eq true false .bool (.t 59) (.t 62)),
  Di 64 58 63,mt 65 64,mg 66 65 false 10,A2 67 65 false (.len 0 (.t 66)),A2 68 65 false (.ari .gtr (.t 67) (cI 1)),
  Di 69 65 68,mt 70 69,mg 71 70 false 7,⟨(some 72),.call 125 [(.t 71)],(some (70,false))⟩,A2 73 70 false (.un .not (.t 72)),
  Di 74 70 73] (.cond (.t 74) (sr [A1 6 (.mv (.c (.bool false)))] .ret) .skip)) (sr [mt 76 7,nc 77 76,fa 78 2 77,lb 79 1 78,kl 80 126 [(.t 79),(cI 1)],mt 75 80,ee 81 75 0,ee 82 75 1,mt 12 81,mt 9 82] (sr [mt 83 9,A1 84 (.eq false true (.iface [74]) (.t 83) (.c .nili)),mt 85 84,mg 86 85 true 12,A2 87 85 true (.ari .eql (.t 86) (cU 1000)),
  HX 88 85 87,mt 89 88,mg 90 89 true 7,A2 91 89 true (.nilc (.t 90)),A2 92 89 true (.fadr 1 (.t 91)),A2 93 89 true (.load false 1 (.t 92)),⟨(some 94),.call 118 [(.t 93)],(some (89,true))⟩,A2 95 89 true (.ari .eql (.t 94) (cI 1)),
  HX 96 89 95,mt 6 96] .ret)))))))))
def f28:LF:=⟨c28,3,0,97,[.tmp 6]⟩
theorem VG (H:Hp):A4 H []=H:=by
 simp [A4]
theorem TC (m:List Nat) (h:m[5]?=some 165) (P:Pt):(Cm 5 P).ren m=Cm 165 P:=Jb 5 165 m h P
theorem Kc (m:List Nat) (h:m[4]?=some 165) (P:Pt):(Cm 4 P).ren m=Cm 165 P:=Jb 4 165 m h P
theorem Dr (H:Hp) (m z:List Nat) (h:m[4]?=some 165) (P:Pt):At H m z (Cm 4 P) (Cm 165 P)=True:=eq_true (Dy H m z 4 165 h P)
theorem Abo {M:Seat} {f:Nat} {us us0:List V} {H:Hp} {n:Nat} {K:V→Hp→Prop} {Q:V→Hp→Nat→Prop} (hr:Ae M f us0 [] 0 Q) (hus:AY H [] [] us0 us)
 (hK:∀ v H' k',Q v H' k'→k'≤16∧K (v.ren (AE [] n k')) (AM (AE [] n k') H' ++ H)):AQ M f us H n K:=by
 refine BY hr False [] [] List.nodup_nil BD rfl BD hus trivial ?_
 intro v' H' k' hq
 obtain ⟨h1,h4⟩:=hK v' H' k' hq
 refine ⟨⟨by simpa using h1,fun h=>h.elim⟩,?_⟩
 rw [Ie [] n k' BD,if_neg (fun h=>h)]
 rw [List.append_nil,VG]
 exact h4
structure OkHx (M:Seat):Prop where
 b:OkBg M
 p:OkEp M
 l:OkHl M
 m:OkM M
 kx:OkI75 M
 k28:Ar M 28 f28=true
 k125:Ar M 125 Ahn=true
theorem Afj (x:Int):∃ d:Nat,1≤d∧d≤4∧IntKind.i64.wrap (1 + (BitVec.ofInt 64 x % 4#64).toInt)=(d:Int):=by
 have h:(BitVec.ofInt 64 x % 4#64).toNat < 4:=by rw [BitVec.toNat_umod];exact Nat.mod_lt _ Am
 generalize BitVec.ofInt 64 x % 4#64=y at h
 refine ⟨1 + y.toNat,by omega,by omega,?_⟩
 have e:(BitVec.ofNat 64 y.toNat)=y:=BD
 rcases (show y.toNat=0 ∨ y.toNat=1 ∨ y.toNat=2 ∨ y.toNat=3 by omega) with q | q | q | q <;> rw [q] at e <;> rw [← e] <;> rfl
theorem H5 {M:Seat} (ok:OkHx M) (hne:¬ BO.com=B0.com) (hd1:¬ BO.com=d1 1#8) (l:List In) (v:V) (hv:Vz l v) (hl:l.length < 9223372036854775808) (dp root:Int) :
 Ae M 28 [v,.int .i64 dp,.int .i64 root] [] 0 (Q3 (.bool true) [] 0):=by
 have hvv:∀ H m z,Bl H m z v v:=by
  intro H m z
  rcases hv with rfl | ⟨rfl,-⟩
  ·simp only [T8,LY,seval]
  ·simp only [LY,seval]
 obtain ⟨d,hd0,hd4,ed⟩:=Afj dp
 have hB:=QW ok.b v hvv (TH l) (EC 16) (DX 1000#64 8) (KX 1000#64 8) d ⟨hd0,hd4⟩ root
  (M7 ok.m ok.b.pI ok.kx ok.b.i.k151 l v hv hl) (P0 ok.b.i.v.o.q.okA ok.b.i.v.o.q.ok.toOkS) (Lz 16) Am
  (Ku ok.b.i 1000#64 Am zq7)
 have hF:=Nu ok.l hne hd1
 refine Ab ok.k28 rfl fun x hx=>?_
 refine es 2000 ?_;(simp only [f28,c28,LZ,seval])
 rw [ed]
 refine Abo (us0:=[v,.int .i64 d,.int .i64 root]) hB ⟨hvv _ _ _,by simp only [AY,LY,seval]⟩ ?_
 rintro v' H' k' ⟨rfl,rfl,t,st,fi,ht,hp,rfl⟩
 refine ⟨by decide,?_⟩
 have hG:=Aky d ⟨hd0,hd4⟩ st fi (DX 1000#64 8) (KX 1000#64 8)
 have hE:=Ajt d st fi (DX 1000#64 8) (KX 1000#64 8)
 have hRs:=Af6 d st fi (DX 1000#64 8) (KX 1000#64 8)
 rw [show DX 1000#64 8 1=1000#64 from rfl] at hRs
 have hgD:(gB d st fi (DX 1000#64 8) (KX 1000#64 8)).D=d:=rfl
 have hgn:(gB d st fi (DX 1000#64 8) (KX 1000#64 8)).n=1:=rfl
 have hps:((gB d st fi (DX 1000#64 8) (KX 1000#64 8)).c 0).pos=1#64:=rfl
 have hpr:((gB d st fi (DX 1000#64 8) (KX 1000#64 8)).c 0).par = -1:=rfl
 have hrs:((gB d st fi (DX 1000#64 8) (KX 1000#64 8)).c 0).rs=false:=rfl
 generalize gB d st fi (DX 1000#64 8) (KX 1000#64 8)=G at *
 have hrt:decide (FH (TH l) (EC 16).pres (BitVec.ofNat 64 (2 ^ d - 1) + 1#64)=(G.c 0).val)=true ↔ FH (TH l) (EC 16).pres (BitVec.ofNat 64 (2 ^ d - 1) + 1#64)=(G.c 0).val:=decide_eq_true_iff
 generalize decide (FH (TH l) (EC 16).pres (BitVec.ofNat 64 (2 ^ d - 1) + 1#64)=(G.c 0).val)=rt at hrt
 obtain ⟨t',ht',hp',hR⟩:=W8 ok.b.i.v ok.b.s.a ok.b.i.k123 ok.p.e.k359 t Aa hp d ⟨hd0,hd4⟩ G hgD hgn hps rt hrt
 obtain ⟨hA1,hA2⟩:=Aes ok.p ok.b.s.a t' Aa hp' d ⟨hd0,hd4⟩ G hgD hgn hps hpr hrs rt hrt
 have hN:=O0 ok.b.i.v ok.k125 G hG.w hG.b hgn 0#64 (2 ^ d) hE hRs.1
 obtain ⟨hR1,hR2,hR3,hR4⟩:=hRs
 generalize G.rsv 0=G' at *
 have hBl:=Xg ok.b.i.v.g.t.s.le G'.b G'.i G'.o G'.n G'.k 1 Am
 have hSt:=M6 ok.b.i.v.g G' Aa
 rw [hR3] at hBl
 rw [hR2] at hSt
 simp only [Tr.H,Tr.Hp,Gs.T,edH,mkH,AB,AH,Ah,AJ,Cl.v,AA,Be,AU,Av,Aw,QC,hgn,hR1,CH] at hR hA1 hA2 hN hBl hSt ⊢
 generalize FH (TH l) (EC 16).pres=cm at *
 (simp only [B7,A5,Bb,TC,AC,seval])
 refine Al (hF) ?_
 (simp only [LZ,seval])
 rcases hR with hR | hR
 ·have zz:=GE @Ak @A8 @Dr @Cn @dg.eq_1;refine KI [161,162,163,164,165,166,167,168,169,170] [161,162,163,164,165,166,167,168,169,170] (hR) ?_
  (simp only [Cj,A5,Bb,Kc,AC,seval])
  cases rt with
  | true =>
    have hA:=hA1 rfl
    have zz:=GE @Ak @A8 @Dr @Cn @dg.eq_1;refine KI [161,162,163,164,165,166,167,168,169,170] [161,162,163,164,165,166,167,168,169,170] (hA) ?_
    (simp only [Cj,AC,seval])
    have zz:=@dg.eq_1;refine Co [160,167,168,169,170,161,171] [160,167,168,169,170] (hN) ?_
    (simp only [B7,AC,seval])
    refine Ji [169,170] [169] (hBl) (by constructor <;> (try simp only [LY,seval]) <;> exact q1) ?_
    (simp only [Cj,seval])
    have zz:=@dg.eq_1;refine Co [167,168,169] [167,168] (hSt) ?_
    (simp only [B7,AC,seval])
    exact Aq.mkZ hx [] ⟨rfl,rfl,rfl⟩
  | false =>
    have hA:=hA2 rfl
    have zz:=GE @Ak @A8 @Dr @Cn @dg.eq_1;refine KI [161,162,163,164,165,166,167,168,169,170] [161,162,163,164,165,166,167,168,169,170] (hA) ?_
    (simp only [Cj,AC,seval])
    have zz:=@dg.eq_1;refine Co [160,167,168,169,170,161,171] [160,167,168,169,170] (hN) ?_
    (simp only [B7,AC,seval])
    refine Ji [169,170] [169] (hBl) (by constructor <;> (try simp only [LY,seval]) <;> exact q1) ?_
    (simp only [Cj,seval])
    have zz:=@dg.eq_1;refine Co [167,168,169] [167,168] (hSt) ?_
    (simp only [B7,AC,seval])
    exact Aq.mkZ hx [] ⟨rfl,rfl,rfl⟩
 ·have zz:=GE @Ak @A8 @Dr @Cn @dg.eq_1;refine KI [161,162,163,164,165,166,167,168,169,170] [161,162,163,164,165,166,167,168,169,170] (hR) ?_
  (simp only [Cj,A5,Bb,Kc,AC,seval])
  cases rt with
  | true =>
    have hA:=hA1 rfl
    have zz:=GE @Ak @A8 @Dr @Cn @dg.eq_1;refine KI [161,162,640,164,165,166,167,168,169,170] [161,162,640,164,165,166,167,168,169,170] (hA) ?_
    (simp only [Cj,AC,seval])
    have zz:=@dg.eq_1;refine Co [160,167,168,169,170,161,171] [160,167,168,169,170] (hN) ?_
    (simp only [B7,AC,seval])
    refine Ji [169,170] [169] (hBl) (by constructor <;> (try simp only [LY,seval]) <;> exact q1) ?_
    (simp only [Cj,seval])
    have zz:=@dg.eq_1;refine Co [167,168,169] [167,168] (hSt) ?_
    (simp only [B7,AC,seval])
    exact Aq.mkZ hx [] ⟨rfl,rfl,rfl⟩
  | false =>
    have hA:=hA2 rfl
    have zz:=GE @Ak @A8 @Dr @Cn @dg.eq_1;refine KI [161,162,640,164,165,166,167,168,169,170] [161,162,640,164,165,166,167,168,169,170] (hA) ?_
    (simp only [Cj,AC,seval])
    have zz:=@dg.eq_1;refine Co [160,167,168,169,170,161,171] [160,167,168,169,170] (hN) ?_
    (simp only [B7,AC,seval])
    refine Ji [169,170] [169] (hBl) (by constructor <;> (try simp only [LY,seval]) <;> exact q1) ?_
    (simp only [Cj,seval])
    have zz:=@dg.eq_1;refine Co [167,168,169] [167,168] (hSt) ?_
    (simp only [B7,AC,seval])
    exact Aq.mkZ hx [] ⟨rfl,rfl,rfl⟩
end Mv
namespace Go.Proofs.YtlfkjfonpacelaaGreatDoor
open Go Go.RowKit Go.Extern.Stop Go.Stop Go.Extern
theorem isTypeOf (v:Value) (w:World):(Extern.ReflectliteType.typeOf #[.iface 68 v]).run Tryz.prog w = .ok (.iface 219 (.agg #[.pointer (some ⟨6,68,none⟩)])) w:=by kernel_rfl
def cmpM : Array Value → Sem Value := Extern.ReflectliteType.method fun t => do Extern.Rtype.noPackHeld "Comparable" t; pure (.bool (← typeInfo t).comparable)
theorem isComparable (w:World):(cmpM #[.agg #[.pointer (some ⟨6,68,none⟩)]]).run Tryz.prog w = .ok (.bool true) w:=by kernel_rfl
theorem isMethod (v : Value) (w : World) : (Go.method 468 219 v "Comparable").run Tryz.prog w = .ok (184, v) w := by kernel_rfl
theorem noIs (v:Value) (xT:TypeId) (w:World):(Instr.typeAssert (.iface 68 v) xT 221 true).run Tryz.prog w = .ok (.tuple #[.nilIface,.bool false]) w:=run_typeAssert_lacksB Tryz.underlying221 (by kernel_rfl) (by kernel_rfl) v xT w
theorem noUnwrap (v:Value) (xT:TypeId) (w:World):(Instr.typeAssert (.iface 68 v) xT 224 true).run Tryz.prog w = .ok (.tuple #[.nilIface,.bool false]) w:=run_typeAssert_lacksB Tryz.underlying224 (by kernel_rfl) (by kernel_rfl) v xT w
theorem noUnwraps (v:Value) (xT:TypeId) (w:World):(Instr.typeAssert (.iface 68 v) xT 226 true).run Tryz.prog w = .ok (.tuple #[.nilIface,.bool false]) w:=run_typeAssert_lacksB Tryz.underlying226 (by kernel_rfl) (by kernel_rfl) v xT w
theorem isComp:(Tryz.prog.info? 68).map (·.comparable)=some true:=by kernel_rfl
theorem eql_errno (a b:Int) (w:World):(binOp .eql 30 (.iface 68 (.int .i64 a)) (.iface 68 (.int .i64 b))).run Tryz.prog w = .ok (.bool (decide (a=b))) w:=by
 obtain ⟨i,hi,hcmp⟩:=Option.map_eq_some_iff.1 isComp
 have h1:∀ d:Nat,(Op.equalIn (d + 1) 68 (.int .i64 a) (.int .i64 b)).run Tryz.prog w = .ok (decide (a=b)) w:=fun d=>by
  simp only [Op.equalIn,Sem.run_bind,run_underlying Tryz.underlying68,Result.andThen_ok,if_true,Sem.run_pure]
  congr 1
 have h:∀ d:Nat,(Op.equalIn (d + 2) 30 (.iface 68 (.int .i64 a)) (.iface 68 (.int .i64 b))).run Tryz.prog w = .ok (decide (a=b)) w:=fun d=>by
  have:=h1 d
  simp [Op.equalIn,run_underlying Tryz.underlying30,typeInfo,hi,hcmp] at this ⊢
  exact this
 simp only [binOp]
 simp [Op.equal,Op.maxDepth,h 9998]
theorem is_errno' (a b:Int) (c:Bool) (hc:decide (a=b)=c) (w:World) :
 Calls Tryz.prog 20 #[.iface 68 (.int .i64 a),.iface 68 (.int .i64 b)] w fun e w'=>e = .returned (.bool c)∧w'=w:=by
 have h8:=@run_callFunc_extern Tryz.prog 60 _ Extern.ReflectliteType.typeOf Tryz.func60 (by kernel_rfl) (by kernel_rfl) (by kernel_rfl) (by kernel_rfl)
 have h32:=@run_callFunc_extern Tryz.prog 184 _ cmpM Tryz.func184 (by kernel_rfl) (by kernel_rfl) (by kernel_rfl) (by kernel_rfl)
 have tT:=isTypeOf
 have cT:=isComparable
 have mR:=isMethod
 have nE:=noIs
 have uE:=noUnwrap
 have vE:=noUnwraps
 have heq:=eql_errno a b w
 rw [hc] at heq
 clear hc
 cases c
 ·go_enter Tryz.func20,Tryz.ntmps20
  go_wp2
  refine wp_loop_rounds 1 ?_
  rw [rounds_succ]
  go_wp2
  go_ret
  exact ⟨rfl,rfl⟩
 ·go_enter Tryz.func20,Tryz.ntmps20
  go_wp2
  refine wp_loop_rounds 1 ?_
  rw [rounds_succ]
  go_wp2
  go_ret
  exact ⟨rfl,rfl⟩
end Go.Proofs.YtlfkjfonpacelaaGreatDoor
namespace Mv
open Go
def IY (M:Seat) (W:World):Env where
 ρ:=fun _=>0
 D:=fun _=>False
 im:=fun b=>∃ cells el fz,W.heap[b]?=some (.cells cells el fz)
 w:=W
 φ:=M.φ
 τ:=M.τ
theorem Inv.start (M:Seat) (W:World) (hg:GS M (IY M W)):Inv M ⟨IY M W,fun b=>∃ id,Af [] id=true∧(IY M W).ρ id=b,0⟩ (IY M W) [] where
 ev:=⟨rfl,rfl,rfl,Nat.le_refl _,fun _ _ _=>rfl,fun _=>Nat.le_refl _⟩
 blk:=fun id h=>by simp [Af] at h
 inj:=fun i j h=>by simp [Af] at h
 imo:=fun b h=>.inl h
 imb:=fun b h=>.inl h
 rb:=fun id h=>h.elim
 keep:=fun b h=>h
 low:=fun id h=>by simp at h
 gs:=hg
 φ:=rfl
 τ:=rfl
theorem T0 {M:Seat} {f:Nat} {us:List V} {vs:Array Value} {Q:V→Hp→Nat→Prop} (hr:Ae M f us [] 0 Q) (W:World) (hg:GS M (IY M W)) (ha:OQ (IY M W) us vs) :
 Calls M.P (M.φ f) vs W fun en W'=>∃ x v H' k' e',en = .returned x∧RV e' v x∧Q v H' k'∧RowKit.Below W.heap.size W W':=by
 refine (hr (IY M W) vs (Inv.start M W hg) (fun id _ h=>h) ha).mono ?_
 rintro en W' ⟨x,v,e',H',k',rfl,rfl,hI,hv,_,_,hQ⟩
 refine ⟨x,v,H',k',e',rfl,hv,hQ,hI.ev.os,hI.ev.tape,hI.ev.output,hI.ev.size,fun k hk=>hI.ev.frame k hk ?_⟩
 rintro ⟨id,h,_⟩
 simp [Af] at h
theorem Yr {M:Seat} {W:World} {name:String} {k:IntKind} {zs:List Int} {g:Nat} (h:Lib.TabIs M.P W name k zs) (hg:M.P.globalNamed name=some g) (hpos:0 < zs.length) :
 R (IY M W) (.imm (.ar 1 zs.length (fun i=>.int k (zs.getD i 0)))) [.pointer (some ⟨g,0,none⟩)]:=by
 have hc:∀ i,i < zs.length→W.cell? ⟨g,i,none⟩=some (.int k (zs.getD i 0)):=fun i hi=>h.cell hg i hi
 have h0:=hc 0 hpos
 simp only [R]
 cases hb:W.heap[g]? with
 | none=>simp [World.cell?,hb] at h0
 | some o =>
   cases o with
   | cells c el fz =>
     have hci:∀ i,i < zs.length→c[i]?=some (.int k (zs.getD i 0)):=fun i hi=>by simpa [World.cell?,hb] using hc i hi
     have hsz:zs.length≤c.size:=by
      have:=hci (zs.length - 1) Aa
      have:=(Array.getElem?_eq_some_iff.1 this).1
      omega
     refine ⟨g,0,c,el,fz,rfl,⟨c,el,fz,hb⟩,hb,by simp only [V.size];omega,by simp [V.size];omega,fun i hi=>⟨⟨rfl,rfl⟩,?_⟩⟩
     simp only [V.size,Nat.mul_one,List.drop_zero]
     have h1:=hci i hi
     have h2:c.toList[i]?=some (.int k (zs.getD i 0)):=by simpa using h1
     apply List.ext_getElem?
     intro j
     cases j with
     | zero=>simp [List.getElem?_take,List.getElem?_drop,hi,h1]
     | succ j=>simp [List.getElem?_take]
   | _=>simp [World.cell?,hb] at h0
end Mv
namespace Go.Proofs.YtlfkjfonpacelaaGreatDoor
open Go Mv
noncomputable def st:Seat where
 P:=Tryz.prog
 φ:=fun i=>match i with | 28=>4 | 49=>26 | 50=>179 | 51=>66 | 55=>65 | 59=>113 | 62=>73 | 68=>8 | 70=>30 | 71=>28 | 74=>40 | 75=>41 | 77=>83 | 79=>69 | 97=>29 | 110=>45 | 111=>54 | 112=>15 | 115=>36 | 117=>35 | 118=>24 | 119=>77 | 120=>52 | 121=>21 | 122=>9 | 123=>17 | 124=>18 | 125=>22 | 126=>23 | 130=>55 | 131=>94 | 132=>95 | 151=>7 | 152=>10 | 153=>11 | 154=>12 | 155=>13 | 156=>14 | 157=>16 | 167=>27 | 197=>42 | 198=>180 | 199=>98 | 200=>90 | 202=>132 | 207=>112 | 208=>139 | 212=>43 | 213=>44 | 214=>68 | 215=>70 | 216=>71 | 217=>72 | 220=>102 | 222=>48 | 223=>49 | 241=>67 | 246=>87 | 247=>88 | 248=>75 | 249=>50 | 250=>51 | 252=>76 | 253=>62 | 254=>53 | 255=>56 | 256=>57 | 257=>58 | 258=>63 | 259=>93 | 260=>129 | 274=>46 | 275=>47 | 276=>64 | 277=>145 | 308=>111 | 312=>127 | 315=>84 | 316=>128 | 317=>137 | 318=>138 | 319=>85 | 320=>86 | 321=>103 | 322=>104 | 323=>105 | 324=>106 | 325=>107 | 326=>108 | 327=>109 | 328=>110 | 346=>99 | 347=>100 | 348=>101 | 350=>122 | 351=>123 | 352=>124 | 353=>125 | 354=>126 | 355=>91 | 357=>115 | 358=>116 | 359=>92 | 363=>89 | 417=>150 | 418=>119 | 419=>120 | 420=>121 | 421=>134 | 423=>136 | 448=>133 | 452=>146 | 453=>147 | 455=>144 | 462=>154 | 463=>149 | 487=>153 | 595=>176 | 596=>177 | 597=>178 | 598=>198 | 599=>199 | 600=>200 | _=>0
 τ:=fun i=>match i with | 74=>68 | 145=>250 | 394=>249 | 147=>251 | 362=>112 | 422=>167 | 426=>308 | n=>n
 γ:=fun i=>match i with | 1=>3 | 2=>4 | 3=>5 | n=>n
 gl:=[1,2,3]
theorem fn220:FJ st 220:=⟨by decide,Tryz.f102,Tryz.func102,by kernel_rfl,by kernel_rfl⟩
theorem fn352:FJ st 352:=⟨by decide,Tryz.f124,Tryz.func124,by kernel_rfl,by kernel_rfl⟩
theorem fn256:FJ st 256:=⟨by decide,Tryz.f57,Tryz.func57,by kernel_rfl,by kernel_rfl⟩
theorem fn257:FJ st 257:=⟨by decide,Tryz.f58,Tryz.func58,by kernel_rfl,by kernel_rfl⟩
theorem mth422_0:CI st 422 0 596:=⟨⟨by decide,Tryz.f177,Tryz.func177,by kernel_rfl,by kernel_rfl⟩,fun v w=>by kernel_rfl⟩
theorem mth422_1:CI st 422 1 597:=⟨⟨by decide,Tryz.f178,Tryz.func178,by kernel_rfl,by kernel_rfl⟩,fun v w=>by kernel_rfl⟩
theorem mth422_2:CI st 422 2 595:=⟨⟨by decide,Tryz.f176,Tryz.func176,by kernel_rfl,by kernel_rfl⟩,fun v w=>by kernel_rfl⟩
theorem mth426_0:CI st 426 0 599:=⟨⟨by decide,Tryz.f199,Tryz.func199,by kernel_rfl,by kernel_rfl⟩,fun v w=>by kernel_rfl⟩
theorem mth426_1:CI st 426 1 600:=⟨⟨by decide,Tryz.f200,Tryz.func200,by kernel_rfl,by kernel_rfl⟩,fun v w=>by kernel_rfl⟩
theorem mth426_2:CI st 426 2 598:=⟨⟨by decide,Tryz.f198,Tryz.func198,by kernel_rfl,by kernel_rfl⟩,fun v w=>by kernel_rfl⟩
theorem okM:OkM st:=by constructor <;> kernel_rfl
theorem okHp:OkHp st:=⟨okM,by kernel_rfl,by kernel_rfl⟩
theorem okD:OkD st:=by constructor <;> kernel_rfl
theorem okHo:OkHo st:=⟨okHp,okD,by kernel_rfl⟩
theorem okH:OkH st:=by constructor <;> kernel_rfl
theorem okS:OkS st:=⟨okH,by kernel_rfl,by kernel_rfl,by kernel_rfl,by kernel_rfl,by kernel_rfl⟩
theorem okV:OkV st:=⟨okS,by kernel_rfl,by kernel_rfl,by kernel_rfl,by kernel_rfl,by kernel_rfl,by kernel_rfl,fn220⟩
theorem okI:OkI st:=⟨okV⟩
theorem okW:OkW st:=⟨okI,by kernel_rfl⟩
theorem okO:OkO st:=⟨okW,by kernel_rfl,by kernel_rfl,by kernel_rfl,by kernel_rfl⟩
theorem okP:OkP st:=by constructor <;> kernel_rfl
theorem okT:OkT st:=⟨okM,okO,okP⟩
theorem okPr:OkPr st:=⟨by kernel_rfl,by kernel_rfl,by kernel_rfl,by kernel_rfl,by kernel_rfl,mth422_0,mth422_1,mth422_2⟩
theorem okRc:OkRc st:=⟨okHo,okT,okPr,by kernel_rfl⟩
theorem okAx:OkAx st:=⟨okRc,by kernel_rfl⟩
theorem okAs:OkAs st:=⟨okAx,by kernel_rfl⟩
theorem okHn:OkHn st:=⟨okHo,okPr,by kernel_rfl⟩
theorem okHr:OkHr st:=⟨okHn,okV,by kernel_rfl⟩
theorem okHa:OkHa st:=⟨okHr,by kernel_rfl,by kernel_rfl⟩
theorem okNx:OkNx st:=by constructor <;> kernel_rfl
theorem okQ:OkQ st:=⟨okM,okO,okP,okNx⟩
theorem okCk:OkCk st:=⟨mth426_0,mth426_1,mth426_2⟩
theorem okOs:OkOs st:=⟨okQ,okD,okCk,okPr,by kernel_rfl⟩
theorem okGN:OkGN st:=by constructor <;> kernel_rfl
theorem okLd:OkLd st:=by constructor <;> kernel_rfl
theorem okPo:OkPo st:=⟨okP,by kernel_rfl,by kernel_rfl,by kernel_rfl,by kernel_rfl⟩
theorem okGm:OkGm st:=⟨okGN,okLd,okPo,by kernel_rfl,by kernel_rfl,by kernel_rfl,by kernel_rfl⟩
theorem okMv:OkMv st:=⟨okGm,by kernel_rfl,by kernel_rfl,by kernel_rfl,by kernel_rfl,by kernel_rfl,by kernel_rfl,by kernel_rfl,fn352⟩
theorem okCl:OkCl st:=⟨okMv,by kernel_rfl⟩
theorem okLe:OkLe st:=⟨okLd,by kernel_rfl,by kernel_rfl⟩
theorem okGs:OkGs st:=⟨okMv,okCl,okLe,by kernel_rfl,by kernel_rfl⟩
theorem okGt:OkGt st:=⟨okGs⟩
theorem okGr:OkGr st:=⟨okGt,by kernel_rfl⟩
theorem okHv:OkHv st:=⟨okHa,okOs,okGr,by kernel_rfl,by kernel_rfl⟩
theorem okHi:OkHi st:=⟨okHv,by kernel_rfl,by kernel_rfl,by kernel_rfl,by kernel_rfl,by kernel_rfl,by kernel_rfl⟩
theorem okBg:OkBg st:=⟨okAs,okHi,okI,by kernel_rfl,by kernel_rfl,by kernel_rfl,okMv⟩
theorem okEo:OkEo st:=⟨okHv,by kernel_rfl,by kernel_rfl⟩
theorem okEp:OkEp st:=⟨okEo,by kernel_rfl,by kernel_rfl,fn256⟩
theorem okHj:OkHj st:=⟨okHi,by kernel_rfl,by kernel_rfl,by kernel_rfl⟩
theorem okHl:OkHl st:=⟨okHj,fn257,by kernel_rfl⟩
theorem okI7:OkI7 st:=⟨by kernel_rfl⟩
theorem okI75:OkI75 st:=⟨okI7,by kernel_rfl⟩
theorem okHx:OkHx st:=⟨okBg,okEp,okHl,okM,okI75,by kernel_rfl,by kernel_rfl⟩
end Go.Proofs.YtlfkjfonpacelaaGreatDoor
namespace Mv
open Go
end Mv
namespace Mv
open Go Go.ChangeShapes Go.WideShapes
theorem Tc {n:Int} (h:(Lit.int .u64 n).wf=true):∃ w:BitVec 64,n=(w.toNat:Int):=by
 have hb:0≤n∧n≤18446744073709551615:=by simpa [Lit.wf,IntKind.min,IntKind.max,IntKind.signed,IntKind.bits] using h
 refine ⟨BitVec.ofNat 64 n.toNat,?_⟩
 rw [BitVec.toNat_ofNat,Nat.mod_eq_of_lt Aa]
 omega
end Mv
namespace Mv
open Go Go.ChangeShapes Go.WideShapes
theorem SG {H:Type} {enc:TypeId × Value→H} {M:Seat} {W:World} {t:TypeId} {k:IntKind} {v:Value} {d:DataW H} {ps:List MemPlace} (ht:M.P.underlying t=some (.int k))
 {base:Nat} (hok:Value.okWide M.P W .any base t v) (h:DataW.Trod enc M.P W 0 (fun _=>true) true t v d ps):∃ n:Int,(Lit.int k n).wf=true∧RV (IY M W) (.int k n) v:=by
 obtain ⟨n,rfl⟩:=okWide_int ht hok
 obtain ⟨m,hm⟩:=h
 obtain ⟨z,e0,_,wz⟩:=DataW.trod_int ht hm
 simp only [Value.cells,Fw,Value.int.injEq,true_and] at e0
 subst e0
 exact ⟨n,wz,by simp [RV,RS,V.isAgg,R]⟩
end Mv
namespace Mv
open Go Go.ChangeShapes Go.WideShapes
def ET (x:In):List Value:=[.int .i64 x.op,.int .i64 x.d,.int .i64 x.a,.int .i64 x.b,.int .i64 x.c,.int .i64 x.n,.int .u64 (x.raw.toNat:Int)]
theorem Y4 (e:Env) (x:In):R e (Qx x) (ET x):=by
 simp [Qx,ET,R,V.flo,V.chain,V.size,W,Value.oneCell']
theorem Sr {H:Type} {enc:TypeId × Value→H} {M:Seat} {W:World} {t e:TypeId} {f0 f1 f2 f3 f4 f5 f6:Field} {v:Value} {d:DataW H} {ps:List MemPlace} (ht:M.P.underlying t=some (.slice e))
 (he:M.P.underlying e=some (.struct #[f0,f1,f2,f3,f4,f5,f6])) (ce:M.P.cellsOf e=7)
 (o:f0.offset=0∧f1.offset=1∧f2.offset=2∧f3.offset=3∧f4.offset=4∧f5.offset=5∧f6.offset=6)
 (u0:M.P.underlying f0.type=some (.int .i64)) (u1:M.P.underlying f1.type=some (.int .i64)) (u2:M.P.underlying f2.type=some (.int .i64)) (u3:M.P.underlying f3.type=some (.int .i64)) (u4:M.P.underlying f4.type=some (.int .i64)) (u5:M.P.underlying f5.type=some (.int .i64)) (u6:M.P.underlying f6.type=some (.int .u64))
 (c0:M.P.cellsOf f0.type=1) (c1:M.P.cellsOf f1.type=1) (c2:M.P.cellsOf f2.type=1) (c3:M.P.cellsOf f3.type=1) (c4:M.P.cellsOf f4.type=1) (c5:M.P.cellsOf f5.type=1) (c6:M.P.cellsOf f6.type=1)
 {base:Nat} (hok:Value.okWide M.P W .any base t v) (h:DataW.Trod enc M.P W 0 (fun _=>true) true t v d ps):∃ l cv,Vz l cv∧l.length < 9223372036854775808∧RV (IY M W) cv v:=by
 obtain ⟨o0,o1,o2,o3,o4,o5,o6⟩:=o
 obtain ⟨a,len,cap,rfl⟩:=okWide_slice ht hok
 obtain ⟨n,hn⟩:=h
 rcases Deep.open_slice ht hn with ⟨h1,_⟩ | ⟨a,len,cap,m,n',D,P,hcs,_,hlc,hcm,hm,_,hx⟩
 ·simp [Value.cells] at h1
  obtain ⟨rfl,rfl,rfl⟩:=h1
  exact ⟨[],.nils,.inr ⟨rfl,rfl⟩,by simp,by simp [RV,RS,V.isAgg,R]⟩
 ·simp [Value.cells] at hcs
  obtain ⟨rfl,rfl,rfl⟩:=hcs
  simp only [if_true] at hm
  subst hm
  have hz:∀ i,i < m→∃ x:In,∀ j,j < 7→W.cell? ((a.add (i * 7)).add j)=(ET x)[j]?:=by
   intro i hi
   obtain ⟨cs',h1,h2⟩:=hx i hi
   rw [ce] at h1
   obtain ⟨_,hlen,hcell⟩:=World.cells?_some h1
   obtain ⟨xs,k,_,_,_,hxl,hf⟩:=DataW.trod_struct he h2
   match cs',hlen with
   | [v0, v1, v2, v3, v4, v5, v6], _ =>
     match xs,hxl with
     | [y0, y1, y2, y3, y4, y5, y6], _ =>
       have g0:=hf 0 f0 rfl
       have g1:=hf 1 f1 rfl
       have g2:=hf 2 f2 rfl
       have g3:=hf 3 f3 rfl
       have g4:=hf 4 f4 rfl
       have g5:=hf 5 f5 rfl
       have g6:=hf 6 f6 rfl
       simp [o0,c0] at g0
       simp [o1,c1] at g1
       simp [o2,c2] at g2
       simp [o3,c3] at g3
       simp [o4,c4] at g4
       simp [o5,c5] at g5
       simp [o6,c6] at g6
       obtain ⟨z0,e0,_,w0⟩:=DataW.trod_int u0 g0
       obtain ⟨z1,e1,_,w1⟩:=DataW.trod_int u1 g1
       obtain ⟨z2,e2,_,w2⟩:=DataW.trod_int u2 g2
       obtain ⟨z3,e3,_,w3⟩:=DataW.trod_int u3 g3
       obtain ⟨z4,e4,_,w4⟩:=DataW.trod_int u4 g4
       obtain ⟨z5,e5,_,w5⟩:=DataW.trod_int u5 g5
       obtain ⟨z6,e6,_,w6⟩:=DataW.trod_int u6 g6
       simp only [Fw] at e0 e1 e2 e3 e4 e5 e6
       obtain ⟨b6,rfl⟩:=Tc w6
       subst e0 e1 e2 e3 e4 e5 e6
       exact ⟨⟨z0,z1,z2,z3,z4,z5,b6⟩,fun j hj=>hcell j hj⟩
  obtain ⟨g,hg⟩:=Deep.choose_lt hz
  have hgl:∀ j,j < len→((List.range len).map g).getD j default=g j:=fun j hj=>by simp [List.getD,List.getElem?_map,List.getElem?_range hj]
  refine ⟨(List.range len).map g,_,.inl rfl,?_,?_⟩
  ·simp only [List.length_map,List.length_range]
   have:maxLen < 9223372036854775808:=Am
   omega
  ·simp only [Ha,List.length_map,List.length_range]
   rw [AR rfl]
   simp only [RS,V.isAgg,R]
   refine ⟨_,_,rfl,hlc,fun hpos=>?_⟩
   have h0:=hg 0 Aa 0 Aa
   obtain ⟨b,o,sp⟩:=a
   have ha0:((⟨b,o,sp⟩:Addr).add (0 * 7)).add 0=⟨b,o,sp⟩:=by simp [Addr.add]
   rw [ha0] at h0
   cases hb:W.heap[b]? with
   | none=>simp [World.cell?,hb,ET] at h0
   | some ob =>
     cases ob with
     | cells c el fz =>
       cases sp with
       | some s=>simp [World.cell?,hb,ET] at h0
       | none =>
         have hadd:∀ k,(⟨b,o,none⟩:Addr).add k=⟨b,o + k,none⟩:=by
          intro k
          unfold Addr.add
          split
          ·rename_i h;subst h;rfl
          ·rfl
         have hadd2:∀ k j,((⟨b,o,none⟩:Addr).add k).add j=⟨b,o + k + j,none⟩:=by
          intro k j
          rw [hadd]
          unfold Addr.add
          split
          ·rename_i h;subst h;rfl
          ·rfl
         simp only [hadd2] at hg
         have hc0:∀ i,i < m→∀ j,j < 7→c.toList[o + i * 7 + j]?=(ET (g i))[j]?:=fun i hi j hj=>by simpa [World.cell?,hb] using hg i hi j hj
         have hsz:o + len * 7≤c.size:=by
          have h6:=hc0 (len - 1) Aa 6 Aa
          have:o + (len - 1) * 7 + 6 < c.toList.length:=by
           rcases Nat.lt_or_ge (o + (len - 1) * 7 + 6) c.toList.length with h | h
           ·exact h
           ·rw [List.getElem?_eq_none h] at h6;simp [ET] at h6
          simp at this
          omega
         refine ⟨b,o,c,el,fz,rfl,⟨c,el,fz,hb⟩,hb,hsz,fun i hi=>⟨⟨rfl,rfl⟩,?_⟩⟩
         rw [hgl i hi]
         have e2:(c.toList.drop (o + i * 7)).take 7=ET (g i):=by
          apply List.ext_getElem?
          intro j
          by_cases hj:j < 7
          ·rw [List.getElem?_take,if_pos hj,List.getElem?_drop,hc0 i Aa j hj]
          ·rw [List.getElem?_take,if_neg hj,List.getElem?_eq_none (by show 7≤j;omega)]
         rw [e2]
         exact Y4 _ (g i)
     | _=>simp [World.cell?,hb,ET] at h0
end Mv
