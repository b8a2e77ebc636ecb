/- A part. -/
import Derived.Test.YtpcgkiecjakknaaGreatDoorDM
set_option linter.all false
set_option maxRecDepth 20000
set_option maxHeartbeats 16000000
namespace Mv
open Go
def Af7:LC:=(sr [bX 2 0,A1 4 (.mv (.c .nilp)),A1 5 (.mv (.c .nilp)),
 mU 6 0] (sr [kl 22 128 [(cI 3)],mt 21 22,ee 23 21 0,ee 24 21 1,A1 7 (.alloc (.st (.cons (.ar 32 (.int .u8)) (.cons .slice (.cons .slice .nil))))),sb 34 7 23,mt 8 24] (sr [kl 26 138 [(cU 500)],mt 25 26,ee 27 25 0,ee 28 25 1,mt 9 27,mt 10 28] (.seq (sr [mt 29 8,A1 30 (.un .not (.t 29)),mt 31 30,mg 32 31 false 9,A2 33 31 false (.eq false true .ptr (.t 32) (.c .nilp)),
  BV 34 31 33] (.cond (.t 34) (sr [A1 4 (.mv (.c .nilp)),A1 5 (.mv (.c .nilp)),
  mU 6 0] .ret) .skip)) (sr [fa 35 6 2,lb 36 1 35,
  aU 37 .rem 36 1000,mt 11 37] (.seq (.regd [⟨0,0,fa 39 3 2⟩,⟨1,1,lb 40 1 39⟩,⟨2,3,aU 41 .rem 40 60⟩,⟨3,7,aV 42 .add 1 41⟩,⟨4,0,fa 43 0 7⟩,⟨5,16,la 44 32 43⟩,⟨6,63,kl 45 113 [(cI 3),(.t 42),(cU 0),(.t 44)]⟩,⟨13,0,la 52 34 7⟩,⟨14,0,fa 53 2 2⟩,⟨15,256,lb 54 1 53⟩,⟨16,1023,kl 55 129 [(.t 52),(.t 54)]⟩,⟨7,0,mt 46 9⟩,⟨8,0,fa 47 1 2⟩,⟨9,4096,lb 48 1 47⟩,⟨10,12288,D0 49 .u64 48⟩,⟨11,28672,aU 50 .rem 49 8⟩,⟨12,61440,D0 51 .i64 50⟩,⟨17,0,mt 56 11⟩,⟨18,262143,kl 57 112 [(.t 45),(.t 46),(.t 51),(.t 55),(.t 56)]⟩,⟨19,524287,mt 38 57⟩,⟨20,1048575,ee 58 38 0⟩,⟨21,1048575,ee 59 38 1⟩,⟨22,2097151,mt 12 58⟩,⟨23,8388607,mt 13 59⟩]) (.seq (sr [mt 60 13,A1 61 (.eq true true (.iface [74]) (.t 60) (.c .nili))] (.cond (.t 61) (sr [A1 4 (.mv (.c .nilp)),A1 5 (.mv (.c .nilp)),
  mU 6 0] .ret) .skip)) (.seq (sr [mt 62 1,
  lN 63 0 62,
  mI 64 0] (.block 0 (.loop (sr [ak 65 .lss 64 63] (.seq (Dd 65 0) (.seq (.block 1 (sr [mt 66 64,ia 67 8 62 64,la 68 8 67,A1 15 (.alloc (.st (.cons (.int .i64) (.cons (.int .i64) (.cons .bool (.cons (.int .i64) (.cons (.int .i64) (.cons (.int .u64) (.cons (.int .u64) (.cons (.int .u64) .nil)))))))))),mt 14 66,sb 8 15 68] (.seq (sr [mt 69 14,aI 70 .geq 69 60] (.cond (.t 70) (.exit 0) .skip)) (sr [fa 71 0 15,lb 72 1 71] (.block 2 (sr [aI 74 .eql 72 1,mt 73 74] (.cond (.t 73) (sr [mt 76 12,fa 77 1 15,lb 78 1 77,kl 79 111 [(.t 76),(.t 78)],mt 75 79,ee 80 75 0,ee 81 75 1,A1 16 (.alloc (.st (.cons (.int .i64) (.cons (.int .u64) (.cons (.ar 32 (.int .u8)) (.cons (.int .i64) (.cons (.int .i64) (.cons (.st (.cons (.int .u64) (.cons (.int .u64) .nil))) (.cons .bool (.cons .bool (.cons .bool (.cons (.int .i64) .nil)))))))))))),sb 42 16 80,mt 17 81] (sr [fa 83 1 16,lb 84 1 83,kl 85 130 [(.t 84)],mt 82 85,ee 86 82 0,ee 87 82 1,ee 88 82 2,mt 18 86,mt 19 87,mt 20 88]
 (.regd [⟨5,0,la 94 34 7⟩,⟨6,0,fa 95 3 15⟩,⟨7,2,lb 96 1 95⟩,⟨8,7,kl 97 129 [(.t 94),(.t 96)]⟩,⟨14,0,mt 103 18⟩,⟨15,16,aI 104 .add 103 1⟩,⟨16,63,kl 105 120 [(.t 104)]⟩,⟨0,0,mt 89 12⟩,⟨1,0,fa 90 1 15⟩,⟨2,256,lb 91 1 90⟩,⟨3,0,fa 92 2 15⟩,⟨4,1024,lb 93 1 92⟩,⟨9,0,fa 98 4 15⟩,⟨10,4096,lb 99 1 98⟩,⟨11,12288,D0 100 .u64 99⟩,⟨12,28672,aU 101 .rem 100 8⟩,⟨13,61440,D0 102 .i64 101⟩,⟨17,0,mt 106 11⟩,⟨18,262143,kl 107 110 [(.t 89),(.t 91),(.t 93),(.t 97),(.t 102),(.t 105),(.t 106)]⟩]))) (sr [aI 109 .eql 72 2,mt 108 109] (.cond (.t 108) (.regd [⟨0,0,mt 110 12⟩,⟨1,0,fa 111 1 15⟩,⟨2,2,lb 112 1 111⟩,⟨3,0,fa 113 2 15⟩,⟨4,8,lb 114 1 113⟩,⟨5,0,fa 115 33 7⟩,⟨6,32,lb 116 1 115⟩,⟨7,0,fa 117 3 15⟩,⟨8,128,lb 118 1 117⟩,⟨9,384,D0 119 .u64 118⟩,⟨10,896,aU 120 .rem 119 8⟩,⟨11,1920,D0 121 .i64 120⟩,⟨12,4064,ia 122 116 116 121⟩,⟨13,8160,la 123 116 122⟩,⟨14,0,fa 124 4 15⟩,⟨15,16384,lb 125 1 124⟩,⟨16,49152,D0 126 .u64 125⟩,⟨17,114688,aU 127 .rem 126 8⟩,⟨18,245760,D0 128 .i64 127⟩,⟨19,0,mt 129 11⟩,⟨20,1048575,kl 130 114 [(.t 110),(.t 112),(.t 114),(.t 123),(.t 128),(.t 129)]⟩]) (sr [aI 132 .eql 72 3,mt 131 132] (.cond (.t 131) (.reg [mt 133 12,fa 134 1 15,lb 135 1 134,mt 136 11,kl 137 115 [(.t 133),(.t 135),(.t 136)]]) (sr [aI 139 .eql 72 4,mt 138 139] (.cond (.t 138) (.reg [mt 140 11,fa 141 7 15,lb 142 1 141,
  aU 143 .rem 142 20,ak 144 .add 140 143,mt 11 144]) .skip))))))))))))) (.reg [aI 145 .add 64 1,mt 64 145]))))))) (sr [mt 146 12,mt 147 9,mt 148 11,mt 4 146,mt 5 147,mt 6 148] .ret)))))))))
def Aee:LF:=⟨Af7,2,0,149,[.tmp 4,.tmp 5,.tmp 6]⟩
variable {M:Seat}
theorem NU (ok:OkPo M):Ag M 130 [W 0#64] [] 0 (Q3 (AS (.int .i64 0) (W 0#64) (er 2)) [] 0):=by
 refine Ab ok.k130 rfl fun x hx=>?_
 refine es 2000 ?_;(simp only [W7,Xl,LZ,seval])
 have zz:=@AS.eq_1;exact Bf hx [] ⟨rfl,rfl,rfl⟩
def clF (v:Dg) (p:Int) (t:BitVec 64):Cl:=⟨-1,1#64,v,p,0,0#64,t,false,false,false,p⟩
def Gs.new (D:Nat) (l g:BitVec 64) (s v:Dg) (p:Nat) (t:BitVec 64) (b:Nat→BitVec 64) (i o k:BitVec 64):Gs:=⟨D,l,g,s,1,fun _=>clF v p t,fun j=>if j=p then b p - 1#64 else b j,i,o,k + 1#64,fun _=>1#64,fun _=>false⟩
theorem O4 (ok:OkMv M) (D:Nat) (l g:BitVec 64) (s v:Dg) (p:Nat) (t:BitVec 64) (b:Nat→BitVec 64) (i o k:BitVec 64) (hD:1≤D∧D≤20) (hr:Oa l g) (hp:p < 8) (ht:¬ 1099511627776#64 < t) (hb:¬ b p < 1#64) :
 Ag M 112 [Al D l g s,.ptr 0 [],.int .i64 p,dg v,W t] [(0,Aq b i o .nils k)] 1 (Q3 (Ah (.ptr 2 []) .nili) [(0,Aq (fun j=>if j=p then b p - 1#64 else b j) i o (.sl 1 [] 0 1 2) (k + 1#64)),(1,A7 1 (fun _=>1#64) (fun _=>false)),(2,Ai D l g s (.ptr 0 []) (.sl 3 [] 0 1 42)),(3,Ap 1 fun _=>clF v p t)] 4):=by
 have hB:=Dh ok.g.n 0
 rw [show (if (0:Int) < 0 then 0#64 else BitVec.ofInt 64 0 + 1#64)=1#64 from rfl] at hB
 have hL:=J0 ok.g.l b i o k p hp 1#64 hb
 have hC:=Fc ok l g hr
 have d0:((D:Int) < 1)=False:=eq_false Aa
 have d1:((20:Int) < (D:Int))=False:=eq_false Aa
 refine Ab ok.g.n.k112 rfl fun x hx=>?_
 refine es 2000 ?_;(simp only [ZM,Acm,Al,Ac,d0,d1,LZ,seval])
 have zz:=@Ac.eq_1;refine Ce (hC) ?_
 (simp only [ht,LZ,seval])
 refine Ak (hB) ?_
 (simp only [LZ,seval])
 have zz:=Bb @Aq.eq_1 @A4.eq_1;refine SM [0] (hL) ?_
 (simp only [AH,Aq,A4,seval])
 refine Ar.mk hx [0,465,817,785] [] (Ah (.ptr 2 []) .nili) _ 4 Am (by (simp only [CU,seval])) (by simp only [LV,Ah,LY,seval]) ?_ ⟨rfl,rfl,rfl⟩
 simp only [Aq,A7,A4,Ap,Ai,Al,Ac,clF,Cl.v,dg,LY,seval,implies_true]
 intro j hj
 obtain rfl:j=0:=Aa
 simp only [if_true,LY,seval,implies_true]
def otD (n:Int):Dg:=Dg.mk' fun j=>if j=2 then BitVec.ofInt 8 (n.fdiv (2 ^ min 8 64)) else if j=1 then 7#8 else if j=0 then BitVec.ofInt 8 n else 0#8
def EI (K:Nat) (C:Nat→Dg) (n:Int):Dg:=if 0≤n∧n < K then C n.toNat else otD n
structure OkTv (M:Seat):Prop where
 k129:Au M 129 XP=true
theorem FN (ok:OkTv M) (s:Dg) (K:Nat) (C:Nat→Dg) (st:V) (hst:∃ f,st = .lst 116 K f) (n:Int):Ag M 129 [CY s (.lst 32 K fun j=>dg (C j)) st,.int .i64 n] [] 0 (Q3 (dg (EI K C n)) [] 0):=by
 obtain ⟨f,rfl⟩:=hst
 refine Ab ok.k129 rfl fun x hx=>?_
 by_cases h0:0≤n
 ·by_cases h1:n < K
  ·obtain ⟨p,rfl⟩:∃ p:Nat,n=p:=⟨n.toNat,by omega⟩
   rw [EI,if_pos ⟨h0,h1⟩,Int.toNat_natCast]
   refine es 2000 ?_;(simp only [XP,W1,CY,h0,h1,LZ,seval])
   repeat refine sd ?_
   have zz:=@dg.eq_1;exact Bf hx [] ⟨rfl,rfl,rfl⟩
  ·rw [EI,if_neg (fun h=>h1 h.2)]
   refine es 2000 ?_;(simp only [XP,W1,CY,h0,h1,LZ,seval])
   refine Ar.mk hx [] [] (dg (otD n)) [] 0 Am (by (simp only [CU,seval])) ?_ trivial ⟨rfl,rfl,rfl⟩
   simp only [OJ,otD,dg,seval]
   intro j hj
   rw [Dg.at_mk' _ j hj]
   by_cases h2:j=2 <;> by_cases h3:j=1 <;> by_cases h4:j=0 <;> simp only [h2,h3,h4,CL,LY,seval]
 ·rw [EI,if_neg (fun h=>h0 h.1)]
  refine es 2000 ?_;(simp only [XP,W1,CY,h0,LZ,seval])
  refine Ar.mk hx [] [] (dg (otD n)) [] 0 Am (by (simp only [CU,seval])) ?_ trivial ⟨rfl,rfl,rfl⟩
  simp only [OJ,otD,dg,seval]
  intro j hj
  rw [Dg.at_mk' _ j hj]
  by_cases h2:j=2 <;> by_cases h3:j=1 <;> by_cases h4:j=0 <;> simp only [h2,h3,h4,CL,LY,seval]
structure OkPl (M:Seat):Prop where
 g:OkGr M
 td:OkTd M
 tv:OkTv M
 ri:OkRi M
 k127:Au M 127 Aee=true
structure Ga where
 dp:Int
 pl:Int
 rt:Int
 lm:BitVec 64
 gr:BitVec 64
 rc:BitVec 64
 nw:BitVec 64
instance:Inhabited Ga:=⟨⟨0,0,0,0,0,0,0⟩⟩
def Ga.v (a:Ga):V:=.st 7 (.fcons 0 (.int .i64 a.dp) (.fcons 1 (.int .i64 a.pl) (.fcons 2 (.int .i64 a.rt) (.fcons 3 (W a.lm) (.fcons 4 (W a.gr) (.fcons 5 (W a.rc) (.fcons 6 (W a.nw) .fnil)))))))
def C3 (n:Nat) (l:Nat→Op):V:=.lst 8 n fun j=>(l j).v
def tC (i:Nat):Dg:=(tm (i + 1)).com
def Z8 (i:Nat) (C:Dg):Dg × Option Int:=vfy C (Dp (tm i).f 13 0) (tm i).h (CV (C7 16).pres (tm i)).2.1 (CV (C7 16).pres (tm i)).2.2
def He (a:Ga):Gs:=Gs.new 3 (1#64 + a.lm % 60#64) 0#64 (tm 0).com (EI 8 tC a.rt) (m8 a.pl) (a.nw % 1000#64) (DD 500#64 8) (HK 500#64 8) 0#64 0#64
def DF (a:Ga) (n:Nat) (l:Nat→Op):Gs × BitVec 64:=HQ (EI 8 tC) Z8 l (He a,a.nw % 1000#64) (min n 60)
theorem Qh (n:Int):IntKind.i64.wrap (m8 n:Int)=(m8 n:Int):=by have:=E7 n;rw [AY Aa]
theorem UO (u:BitVec 64):(1#64 + u % 60#64).toNat=u.toNat % 60 + 1:=by
 rw [BitVec.toNat_add,BitVec.toNat_umod]
 show (1 + u.toNat % 60) % 2 ^ 64=_
 omega
theorem EN (u:BitVec 64):Oa (1#64 + u % 60#64) 0#64:=by
 have:=UO u
 unfold Oa
 simp only [BitVec.lt_def,this]
 refine ⟨?_,?_,?_⟩
 ·show ¬ _ < 1;omega
 ·show ¬ 1099511627776 < _;omega
 ·show ¬ _ < 0;omega
theorem Td (u:BitVec 64):(u % 1000#64).toNat < 1000:=by rw [BitVec.toNat_umod];exact Nat.mod_lt _ Am
theorem FH (l g:BitVec 64) (hr:Oa l g) (D:Nat) (hD:D≤20) (s v:Dg) (p:Nat) (hp:p < 8) (t:BitVec 64) (b:Nat→BitVec 64) (i o k:BitVec 64):(Gs.new D l g s v p t b i o k).ok:=by
 refine ⟨⟨hD,(by show 1≤64;decide),hr,fun j hj=>?_,fun j hj=>?_⟩,⟨fun j hj=>?_,fun j hj=>?_,fun j hj=>?_⟩,(by show 0 < 1;decide)⟩
 all_goals
  have hj:j < 1:=hj
  obtain rfl:j=0:=Aa
 ·exact ⟨0,0,Nat.zero_le _,by decide,rfl⟩
 ·exact .inl rfl
 ·exact ⟨rfl,rfl⟩
 ·exact ⟨p,hp,rfl⟩
 ·exact ⟨p,hp,rfl⟩
theorem DX (ok:OkPl M) (a:Ga) (n:Nat) (l:Nat→Op) (sv:V) (hs:sv=C3 n l ∨ (sv = .nils∧n=0)) (hn:n < 9223372036854775808) :
 Ag M 127 [a.v,sv] [] 0 (Q3 (AS (.ptr 0 []) (.ptr 2 []) (W (DF a n l).2)) ((DF a n l).1.H) 4):=by
 have hTr:=H5 ok.td 3 Am
 have hRi:=K1 ok.ri 500#64 Am Am
 have hRu:=IU ok.g.t.s.v.g.n 3 (1#64 + a.lm % 60#64) 0#64 (tm 0).com
 have hVa:=fun st hst=>FN ok.tv (tm 0).com 8 tC st hst a.rt
 have hm8:=E7 a.pl
 have hNw:=O4 ok.g.t.s.v 3 (1#64 + a.lm % 60#64) 0#64 (tm 0).com (EI 8 tC a.rt) (m8 a.pl) (a.nw % 1000#64) (DD 500#64 8) (HK 500#64 8) 0#64 0#64 Am (EN a.lm) hm8 (by have:=Td a.nw;rw [BitVec.lt_def];show ¬ 1099511627776 < _;omega) (by rw [DD,if_pos hm8];decide)
 have hV:∀ i C,Ag M 98 [dg C,BI (Dp (tm i).f 13 0) (tm i).h (CV (C7 16).pres (tm i)).2.1 (CV (C7 16).pres (tm i)).2.2] [] 0 (Q3 (Ah (dg (Z8 i C).1) (B7 (Z8 i C).2)) [] 0):=fun i C=>H6 ok.td.o C _ _ _ _
 rw [show (2:Nat) ^ 3=8 from rfl] at hTr
 unfold DF He
 obtain ⟨L,P,hL,hPr⟩:∃ (L:Nat→List Pf) (P:Nat→Pr),(∀ i,(CV (C7 16).pres (tm i)).2.1=L i)∧∀ i,(CV (C7 16).pres (tm i)).2.2=P i:=⟨_,_,fun _=>rfl,fun _=>rfl⟩
 obtain ⟨R,hR⟩:∃ R:Nat→Dg,∀ i,Dp (tm i).f 13 0=R i:=⟨_,fun _=>rfl⟩
 obtain ⟨h,hh⟩:∃ h:Nat→Hd,∀ i,(tm i).h=h i:=⟨_,fun _=>rfl⟩
 have hC:∀ i,(tm (i + 1)).com=tC i:=fun _=>rfl
 simp only [hL,hPr,hR,hh,hC] at hTr hV
 clear hL hPr hR hh hC
 generalize tC=C at *
 generalize Z8=vf at *
 generalize (tm 0).com=s0 at *
 have hvv:∀ H m z,Bi H m z sv sv:=by
  intro H m z
  rcases hs with rfl | ⟨rfl,-⟩ <;> simp only [C3,Op.v,LY,seval]
 generalize hv0:EI 8 C a.rt=v0 at *
 have hRk:=EN a.lm
 generalize hlm:1#64 + a.lm % 60#64=lm at *
 generalize hnw:a.nw % 1000#64=nw at *
 refine Ab ok.k127 rfl fun x hx=>?_
 refine es 2000 ?_;(simp only [Aee,Af7,Ga.v,Qh,LZ,seval])
 have zz:=Db @CY.eq_1 @BI.eq_1 @Hd.v.eq_1 @AM.eq_1 @dg.eq_1 Fs;refine Bw [] [] (hTr) ?_
 (simp only [Oh,CY,BI,Hd.v,AM,seval])
 have zz:=C4 @Aq.eq_1 @D1.eq_1 @DY.eq_1;refine Kb (hRi) ?_
 (simp only [AH,Aq,D1,DY,hlm,hnw,seval])
 have zz:=C4 @Al.eq_1 @Ac.eq_1 @dg.eq_1;refine G0 (hRu) ?_
 (simp only [Al,Ac,LZ,seval])
 have zz:=Db @CY.eq_1 @BI.eq_1 @Hd.v.eq_1 @AM.eq_1 @dg.eq_1 Fs;refine G0 (hVa (.lst 116 8 fun i=>BI (R i) (h i) (L i) (P i)) ⟨_,rfl⟩) ?_
 (simp only [CB,LZ,seval])
 have zz:=Ho @Al.eq_1 @Ac.eq_1 @Aq.eq_1 @A7.eq_1 @A4.eq_1 @Ai.eq_1 @Ap.eq_1 @clF.eq_1 @Cl.v.eq_1 @dg.eq_1;refine omY [176] (hNw) ?_
 (simp only [AH,Aq,A7,A4,Ai,Al,Ac,Ap,Cl.v,clF,seval])
 have hG0:(Gs.new 3 lm 0#64 s0 v0 (m8 a.pl) nw (DD 500#64 8) (HK 500#64 8) 0#64 0#64).ok:=FH _ _ hRk 3 Am _ _ _ hm8 _ _ _ _ _
 have hA0:HQ (EI 8 C) vf l (Gs.new 3 lm 0#64 s0 v0 (m8 a.pl) nw (DD 500#64 8) (HK 500#64 8) 0#64 0#64,nw) 0=(Gs.new 3 lm 0#64 s0 v0 (m8 a.pl) nw (DD 500#64 8) (HK 500#64 8) 0#64 0#64,nw):=rfl
 have hA1:∀ i,HQ (EI 8 C) vf l (Gs.new 3 lm 0#64 s0 v0 (m8 a.pl) nw (DD 500#64 8) (HK 500#64 8) 0#64 0#64,nw) (i + 1)=Oi (EI 8 C) vf (l i) (HQ (EI 8 C) vf l (Gs.new 3 lm 0#64 s0 v0 (m8 a.pl) nw (DD 500#64 8) (HK 500#64 8) 0#64 0#64,nw) i):=fun _=>rfl
 have hOk:=Ig (tv:=EI 8 C) (vf:=vf) (l:=l) (S:=(Gs.new 3 lm 0#64 s0 v0 (m8 a.pl) nw (DD 500#64 8) (HK 500#64 8) 0#64 0#64,nw)) hG0
 generalize HQ (EI 8 C) vf l (Gs.new 3 lm 0#64 s0 v0 (m8 a.pl) nw (DD 500#64 8) (HK 500#64 8) 0#64 0#64,nw)=A at *
 have hlen:∀ H,O2 0 sv H=⟨True,.int .i64 n,H⟩:=by
  intro H
  rcases hs with rfl | ⟨rfl,rfl⟩ <;> rfl
 (simp only [hlen,LZ,seval])
 refine An (σ:=Nat) (fun i=>i≤n∧i≤60) (fun i=>fr 149 [(7,.ptr 4 []),(9,.ptr 2 []),(11,W (A i).2),(12,.ptr 0 []),(62,sv),(63,.int .i64 n),(64,.int .i64 i)]) (fun i=>(A i).1.H ++ [(4,CY s0 (.lst 32 8 fun j=>dg (C j)) (.lst 116 8 fun i=>BI (R i) (h i) (L i) (P i)))]) (fun _=>5) (fun i=>n - i) 0 ⟨by omega,by omega⟩ ?_ ?_
 ·rw [hA0]
  refine Ao.fr [1105,1106,176,1104,128] [] hx AQ Am ?_ ?_
  ·simp only [hvv,Int.natCast_zero,LY,seval]
  ·simp only [Gs.H,Gs.new,Ai,Al,Ac,Ap,Cl.v,clF,Aq,A7,A4,CY,BI,Hd.v,AM,dg,Be,Fz,B3,seval]
 ·rintro i ⟨hin,hi60⟩
  refine es 2000 ?_
  by_cases hx1:i=n
  ·have hm:min n 60=i:=Aa
   have w0:((i:Int) < (n:Int))=False:=eq_false Aa
   rw [hm]
   (simp only [w0,LZ,seval])
   have zz:=FU @AS.eq_1 @Gs.H.eq_1 @Ai.eq_1 @Al.eq_1 @Ac.eq_1 @Ap.eq_1 @Aq.eq_1 @A7.eq_1 @A4.eq_1 @Cl.v.eq_1 @dg.eq_1 B3;exact Bf hx [0,1,2,3] ⟨rfl,rfl,rfl⟩
  have w0:((i:Int) < (n:Int))=True:=eq_true Aa
  have w1:(0≤(i:Int))=True:=eq_true Aa
  have hsv:sv=C3 n l:=hs.resolve_right (fun h=>hx1 Aa)
  by_cases hx2:i=60
  ·have hm:min n 60=i:=Aa
   have w2:((60:Int)≤(i:Int))=True:=eq_true Aa
   rw [hm,hsv]
   (simp only [w0,w1,w2,C3,LZ,seval])
   repeat refine sd ?_
   have zz:=FU @AS.eq_1 @Gs.H.eq_1 @Ai.eq_1 @Al.eq_1 @Ac.eq_1 @Ap.eq_1 @Aq.eq_1 @A7.eq_1 @A4.eq_1 @Cl.v.eq_1 @dg.eq_1 B3;exact Bf hx [0,1,2,3] ⟨rfl,rfl,rfl⟩
  have w2:((60:Int)≤(i:Int))=False:=eq_false Aa
  have z0:IntKind.i64.wrap ((i:Int) + 1)=((i + 1:Nat):Int):=AZ
  have hvs:∀ H m z,Bi H m z sv sv:=hvv
  have hG:=hOk i
  have hAi:=hA1 i
  have hVl:=FN ok.tv s0 8 C
  rw [hsv] at hvs ⊢
  generalize A i=S at hG hAi ⊢
  obtain ⟨G,t⟩:=S
  dsimp only at hG hAi ⊢
  have hw:=hG.w
  have hb:=hG.b
  have hn64:=hw.hn
  have hE:∀ G:Gs,G.H=[(0,Ai G.D G.l G.g G.s (.ptr 2 []) (.sl 1 [] 0 G.n 42)),(1,Ap G.n G.c),(2,Aq G.b G.i G.o (.sl 3 [] 0 G.n 2) G.k),(3,A7 G.n G.v G.gv)]:=fun _=>rfl
  by_cases k4:(l i).kd=4
  ·have e:Oi (EI 8 C) vf (l i) (G,t)=(G,t + (l i).wt % 20#64):=by unfold Oi;rw [if_neg Aa,if_neg Aa,if_neg Aa,if_pos k4]
   rw [e] at hAi
   (simp only [w0,w1,w2,C3,Op.v,k4,z0,seval,LZ,reduceCtorEq])
   repeat refine sd ?_
   refine ⟨i + 1,by omega,by omega,by omega,?_⟩
   rw [hAi]
   refine Ao.fr [0,1,2,3,4] [] hx AQ Am ?_ ?_
   ·simp only [C3,Op.v,LY,seval]
   ·simp only [Gs.H,Ai,Al,Ac,Ap,Cl.v,Aq,A7,A4,CY,BI,Hd.v,AM,dg,Be,Fz,B3,seval]
  by_cases k3:(l i).kd=3
  ·have hR:=DE ok.g G hw hb (l i).cl t
   have e:Oi (EI 8 C) vf (l i) (G,t)=(match G.rE (l i).cl t with | none=>(G.rsv (l i).cl.toNat,t) | some _=>(G,t)):=by unfold Oi;rw [if_neg Aa,if_neg Aa,if_pos k3];rfl
   rw [e] at hAi
   cases hE:G.rE (l i).cl t with
   | some e =>
     have hR:=hR.1 e hE
     rw [hE] at hAi
     dsimp only at hAi
     simp only [Gs.H,Ai,Al,Ac,B3] at hR
     (simp only [w0,w1,w2,C3,Op.v,k3,z0,seval,Gs.H,Ai,Al,Ac,Ap,Aq,A7,A4,Cl.v,B3,LZ,reduceCtorEq])
     repeat refine sd ?_
     have zz:=Ho @Ai.eq_1 @Al.eq_1 @Ac.eq_1 @Ap.eq_1 @Aq.eq_1 @A7.eq_1 @A4.eq_1 @Cl.v.eq_1 @Bt.eq_1 @dg.eq_1;refine Om [0,1,2,3] [0,1,2,3] (hR) ?_
     (simp only [z0,Bt,Ai,Al,Ac,Ap,Aq,A7,A4,Cl.v,LZ,seval])
     refine ⟨i + 1,by omega,by omega,by omega,?_⟩
     rw [hAi]
     refine Ao.fr [0,1,2,3,4] [] hx AQ Am ?_ ?_
     ·simp only [C3,Op.v,LY,seval]
     ·simp only [Gs.H,Ai,Al,Ac,Ap,Cl.v,Aq,A7,A4,CY,BI,Hd.v,AM,dg,Be,Fz,B3,seval]
   | none =>
     have hR:=hR.2 hE
     rw [hE] at hAi
     dsimp only at hAi
     generalize G.rsv (l i).cl.toNat=X at *
     simp only [Gs.H,Ai,Al,Ac,B3] at hR
     (simp only [w0,w1,w2,C3,Op.v,k3,z0,seval,Gs.H,Ai,Al,Ac,Ap,Aq,A7,A4,Cl.v,B3,LZ,reduceCtorEq])
     repeat refine sd ?_
     have zz:=SN @Ai.eq_1 @Al.eq_1 @Ac.eq_1 @Ap.eq_1 @Aq.eq_1 @A7.eq_1 @A4.eq_1 @Cl.v.eq_1 @dg.eq_1;refine Om [0,1,2,3] [0,1,2,3] (hR) ?_
     (simp only [z0,Ai,Al,Ac,Ap,Aq,A7,A4,Cl.v,LZ,seval])
     refine ⟨i + 1,by omega,by omega,by omega,?_⟩
     rw [hAi]
     refine Ao.fr [0,1,2,3,4] [] hx AQ Am ?_ ?_
     ·simp only [C3,Op.v,LY,seval]
     ·simp only [Gs.H,Ai,Al,Ac,Ap,Cl.v,Aq,A7,A4,CY,BI,Hd.v,AM,dg,Be,Fz,B3,seval]
  by_cases k2:(l i).kd=2
  ·have hR:=JK ok.g G hw (vf (m8 (l i).vl)) (R (m8 (l i).vl)) (h (m8 (l i).vl)) (L (m8 (l i).vl)) (P (m8 (l i).vl)) (hV (m8 (l i).vl)) (l i).cl (l i).df (m8 (l i).pl) t
   have e:Oi (EI 8 C) vf (l i) (G,t)=(match G.tE (vf (m8 (l i).vl)) (l i).cl (l i).df (m8 (l i).pl) t with | none=>(G.tT (l i).cl (m8 (l i).pl),t) | some _=>(G,t)):=by unfold Oi;rw [if_neg Aa,if_pos k2];rfl
   rw [e] at hAi
   have h8:=E7 (l i).vl
   have j0:(0≤(m8 (l i).vl:Int))=True:=eq_true Aa
   have j1:((m8 (l i).vl:Int) < 8)=True:=eq_true Aa
   simp only [BI,Hd.v,AM] at hR
   cases hE:G.tE (vf (m8 (l i).vl)) (l i).cl (l i).df (m8 (l i).pl) t with
   | some e =>
     have hR:=hR.1 e hE
     rw [hE] at hAi
     dsimp only at hAi
     simp only [Gs.H,Ai,Al,Ac,B3] at hR
     (simp only [w0,w1,w2,C3,Op.v,k2,z0,seval,Gs.H,Ai,Al,Ac,Ap,Aq,A7,A4,Cl.v,CY,BI,Hd.v,CR,CB,j0,j1,B3,reduceCtorEq])
     repeat refine sd ?_
     have zz:=BT @Ai.eq_1 @Al.eq_1 @Ac.eq_1 @Ap.eq_1 @Aq.eq_1 @A7.eq_1 @A4.eq_1 @Cl.v.eq_1 @Bt.eq_1 @dg.eq_1 Fs;refine Xs [0,1,2,3] [0,1,2,3] (hR) ?_
     (simp only [z0,Bt,Ai,Al,Ac,Ap,Aq,A7,A4,Cl.v,LZ,seval])
     refine ⟨i + 1,by omega,by omega,by omega,?_⟩
     rw [hAi]
     refine Ao.fr [0,1,2,3,4] [] hx AQ Am ?_ ?_
     ·simp only [C3,Op.v,LY,seval]
     ·simp only [Gs.H,Ai,Al,Ac,Ap,Cl.v,Aq,A7,A4,CY,BI,Hd.v,AM,dg,Be,Fz,B3,seval]
   | none =>
     have hR:=hR.2 hE
     rw [hE] at hAi
     dsimp only at hAi
     generalize G.tT (l i).cl (m8 (l i).pl)=X at *
     simp only [Gs.H,Ai,Al,Ac,B3] at hR
     (simp only [w0,w1,w2,C3,Op.v,k2,z0,seval,Gs.H,Ai,Al,Ac,Ap,Aq,A7,A4,Cl.v,CY,BI,Hd.v,CR,CB,j0,j1,B3,reduceCtorEq])
     repeat refine sd ?_
     have zz:=Ho @Ai.eq_1 @Al.eq_1 @Ac.eq_1 @Ap.eq_1 @Aq.eq_1 @A7.eq_1 @A4.eq_1 @Cl.v.eq_1 @dg.eq_1 Fs;refine Xs [0,1,2,3] [0,1,2,3] (hR) ?_
     (simp only [z0,Ai,Al,Ac,Ap,Aq,A7,A4,Cl.v,LZ,seval])
     refine ⟨i + 1,by omega,by omega,by omega,?_⟩
     rw [hAi]
     refine Ao.fr [0,1,2,3,4] [] hx AQ Am ?_ ?_
     ·simp only [C3,Op.v,LY,seval]
     ·simp only [Gs.H,Ai,Al,Ac,Ap,Cl.v,Aq,A7,A4,CY,BI,Hd.v,AM,dg,Be,Fz,B3,seval]
  by_cases k1:(l i).kd=1
  case neg =>
   have e:Oi (EI 8 C) vf (l i) (G,t)=(G,t):=by unfold Oi;rw [if_neg k1,if_neg k2,if_neg k3,if_neg k4]
   rw [e] at hAi
   have k1:=eq_false k1
   have k2:=eq_false k2
   have k3:=eq_false k3
   have k4:=eq_false k4
   (simp only [w0,w1,w2,C3,Op.v,k1,k2,k3,k4,z0,Gs.H,Ai,Al,Ac,Ap,Aq,A7,A4,Cl.v,B3,LZ,seval])
   repeat refine sd ?_
   refine ⟨i + 1,by omega,by omega,by omega,?_⟩
   rw [hAi]
   refine Ao.fr [0,1,2,3,4] [] hx AQ Am ?_ ?_
   ·simp only [C3,Op.v,LY,seval]
   ·simp only [Gs.H,Ai,Al,Ac,Ap,Cl.v,Aq,A7,A4,CY,BI,Hd.v,AM,dg,Be,Fz,B3,seval]
  have hB0:=Dh ok.g.t.s.v.g.n 1
  rw [show (if (1:Int) < 0 then 0#64 else BitVec.ofInt 64 1 + 1#64)=2#64 from rfl] at hB0
  have e:Oi (EI 8 C) vf (l i) (G,t)=(match G.mE (l i).cl (l i).df (EI 8 C (l i).vl) (m8 (l i).pl) (BitVec.ofNat 64 (G.dep (l i).cl + 2)) t with | none=>(G.mT (l i).cl (l i).df (EI 8 C (l i).vl) (m8 (l i).pl) (BitVec.ofNat 64 (G.dep (l i).cl + 2)) t,t) | some _=>(G,t)):=by unfold Oi;rw [if_pos k1];rfl
  rw [e] at hAi
  have hv1:=hVl (.lst 116 8 fun i=>BI (R i) (h i) (L i) (P i)) ⟨_,rfl⟩ (l i).vl
  have hR1:=fun bd e he=>HG ok.g G hw (l i).cl (l i).df (EI 8 C (l i).vl) (m8 (l i).pl) bd t e he
  have hR2:=fun bd he=>HF ok.g G hw (l i).cl (l i).df (EI 8 C (l i).vl) (m8 (l i).pl) bd t he
  simp only [CY,BI,Hd.v,AM] at hv1
  generalize EI 8 C (l i).vl=vv at *
  simp only [Gs.H,Ai,Al,Ac,B3] at hR1
  have z1:IntKind.i64.wrap 1=1:=rfl
  by_cases hrng:(l i).cl < 0 ∨ (G.n:Int)≤(l i).cl
  ·have hC:=MZ ok.g G.D G.l G.g G.s G.n (l i).cl hrng
   rw [show G.dep (l i).cl=0 from if_pos hrng] at hAi
   have hP:=NU ok.g.t.s.v.g.p
   have he:G.mE (l i).cl (l i).df vv (m8 (l i).pl) (BitVec.ofNat 64 (0 + 2)) t=some 4:=by unfold Gs.mE;rw [if_pos hrng]
   rw [he] at hAi
   dsimp only at hAi
   have hR:=hR1 _ _ he
   (simp only [w0,w1,w2,C3,Op.v,k1,z0,Gs.H,Ai,Al,Ac,Ap,Aq,A7,A4,Cl.v,CY,BI,Hd.v,CR,B3,seval])
   repeat refine sd ?_
   have zz:=Db @Ai.eq_1 @Al.eq_1 @Ac.eq_1 @Cl.v.eq_1 @Cl.zero.eq_1 @dg.eq_1;refine Bw [0,1,2] [0] (hC) ?_
   (simp only [AH,Ai,Al,Ac,Cl.v,Cl.zero,seval])
   refine Ak (hP) ?_
   (simp only [AS,LZ,seval])
   have zz:=Bb @dg.eq_1 Fs;refine L9 [] [] (hv1) ?_
   (simp only [z1,CB,Qh,LZ,seval])
   refine Bq (hB0) ?_
   (simp only [CB,LZ,seval])
   have zz:=Ho @Ai.eq_1 @Al.eq_1 @Ac.eq_1 @Ap.eq_1 @Aq.eq_1 @A7.eq_1 @A4.eq_1 @Cl.v.eq_1 @Bt.eq_1 @dg.eq_1;refine Xs [0,1,2,3] [0,1,2,3] (hR) ?_
   (simp only [AH,z0,Bt,Ai,Al,Ac,Ap,Aq,A7,A4,Cl.v,seval])
   refine ⟨i + 1,by omega,by omega,by omega,?_⟩
   rw [hAi]
   refine Ao.fr [0,1,2,3,4] [] hx AQ Am ?_ ?_
   ·simp only [C3,Op.v,LY,seval]
   ·simp only [Gs.H,Ai,Al,Ac,Ap,Cl.v,Aq,A7,A4,CY,BI,Hd.v,AM,dg,Be,Fz,B3,seval]
  obtain ⟨p,hp⟩:∃ p:Nat,(l i).cl=p:=⟨(l i).cl.toNat,by omega⟩
  rw [hp] at hAi hrng hR1 hR2
  have hpn:p < G.n:=Aa
  have hC:=BW ok.g G.D G.l G.g G.s G.n G.c p hpn
  obtain ⟨k,q,hk,hq,hpos⟩:=hw.pls p hpn
  have hD20:=hw.hD
  rw [show G.dep (p:Int)=k by unfold Gs.dep;rw [if_neg hrng,Int.toNat_natCast,hpos,Cr Aa hq]] at hAi
  have hP:=Bc ok.g.t.s.v.g.p (show k≤24 by omega) hq
  have hB:=LQ ok.g.t.s.v.g k Aa
  have z2:IntKind.i64.wrap ((k:Int) + 1)=((k + 1:Nat):Int):=AZ
  (simp only [w0,w1,w2,C3,Op.v,k1,z0,hp,Gs.H,Ai,Al,Ac,Ap,Aq,A7,A4,Cl.v,CY,BI,Hd.v,CR,B3,seval])
  repeat refine sd ?_
  have zz:=Db @Ai.eq_1 @Al.eq_1 @Ac.eq_1 @Ap.eq_1 @Cl.v.eq_1 @dg.eq_1;refine Bw [0,1,2] [0,1] (hC) ?_
  (simp only [AH,Ai,Al,Ac,Ap,Cl.v,hpos,seval])
  refine Ak (hP) ?_
  (simp only [AS,LZ,seval])
  have zz:=Bb @dg.eq_1 Fs;refine L9 [] [] (hv1) ?_
  (simp only [z2,CB,LZ,seval])
  refine Bq (hB) ?_
  (simp only [CB,LZ,seval])
  cases hE:G.mE p (l i).df vv (m8 (l i).pl) (BitVec.ofNat 64 (k + 2)) t with
  | some e =>
    have hR:=hR1 _ _ hE
    rw [hE] at hAi
    dsimp only at hAi
    have zz:=Ho @Ai.eq_1 @Al.eq_1 @Ac.eq_1 @Ap.eq_1 @Aq.eq_1 @A7.eq_1 @A4.eq_1 @Cl.v.eq_1 @Bt.eq_1 @dg.eq_1;refine Xs [0,1,2,3] [0,1,2,3] (hR) ?_
    (simp only [AH,z0,Bt,Ai,Al,Ac,Ap,Aq,A7,A4,Cl.v,seval])
    refine ⟨i + 1,by omega,by omega,by omega,?_⟩
    rw [hAi]
    refine Ao.fr [0,1,2,3,4] [] hx AQ Am ?_ ?_
    ·simp only [C3,Op.v,LY,seval]
    ·simp only [Gs.H,Ai,Al,Ac,Ap,Cl.v,Aq,A7,A4,CY,BI,Hd.v,AM,dg,Be,Fz,B3,seval]
  | none =>
    have hR:=hR2 _ hE
    rw [hE] at hAi
    dsimp only at hAi
    generalize G.mT p (l i).df vv (m8 (l i).pl) (BitVec.ofNat 64 (k + 2)) t=X at *
    simp only [Gs.H,Gs.H2,Ai,Al,Ac] at hR
    have zz:=SN @Ai.eq_1 @Al.eq_1 @Ac.eq_1 @Ap.eq_1 @Aq.eq_1 @A7.eq_1 @A4.eq_1 @Cl.v.eq_1 @dg.eq_1;refine Xs [0,1,2,3] [0,1,2,3] (hR) ?_
    (simp only [AH,z0,Ai,Al,Ac,Ap,Aq,A7,A4,Cl.v,seval])
    refine ⟨i + 1,by omega,by omega,by omega,?_⟩
    rw [hAi]
    refine Ao.fr [0,1125,2,1126,4] [] hx AQ Am ?_ ?_
    ·simp only [C3,Op.v,LY,seval]
    ·simp only [Gs.H,Ai,Al,Ac,Ap,Cl.v,Aq,A7,A4,CY,BI,Hd.v,AM,dg,Be,Fz,B3,seval]
variable {M:Seat}
theorem ON (ok:OkMv M) (s v w:Dg) (pl:Int):Ag M 247 [.ptr 0 [],(cl2 w pl).v,(Ct v).v,.bool true,W 2#64,W 3#64] [(0,Ai 2 10#64 0#64 s (.ptr 2 []) (.sl 1 [] 0 1 42))] 3 (Q3 (Ah (.int .i64 0) (er 45)) [(0,Ai 2 10#64 0#64 s (.ptr 2 []) (.sl 1 [] 0 1 42))] 3):=by
 refine Ab ok.k247 rfl fun x hx=>?_
 refine es 2000 ?_;(simp only [Ot,Ol,Ai,Al,Ac,Ct,cl2,Cl.v,LZ,seval])
 have zz:=Db @Ai.eq_1 @Al.eq_1 @Ac.eq_1 @Ct.eq_1 @Cl.v.eq_1 @dg.eq_1;refine Bw [0,1,2] [0] (MD ok.g 10#64 0#64 s v) ?_
 (simp only [AS,Ai,Al,Ac,LZ,seval])
 have zz:=Bb @Ah.eq_1 @dg.eq_1;exact Bf hx [0,1,2] ⟨rfl,rfl,rfl⟩
theorem PC (ok:OkMv M) (s v w:Dg) (pl:Int):Ag M 110 [.ptr 0 [],.int .i64 0,.bool true,dg w,.int .i64 pl,W 2#64,W 3#64] [(0,Ai 2 10#64 0#64 s (.ptr 2 []) (.sl 1 [] 0 1 42)),(1,.ar 42 1 fun _=>(Ct v).v)] 3 (Q3 (Ah (.int .i64 0) (.ifc 145 (.ptr 3 []))) [(0,Ai 2 10#64 0#64 s (.ptr 2 []) (.sl 1 [] 0 1 42)),(1,.ar 42 1 fun _=>(Ct v).v),(3,Bt 0 45)] 4):=by
 have hm:=ON ok s v w pl
 simp only [Ct,cl2,Cl.v,Ac,Ai,Al] at hm
 refine Ab ok.g.n.k110 rfl fun x hx=>?_
 refine es 2000 ?_;(simp only [P9,Oz,Ai,Al,Ac,Ct,Cl.v,LZ,seval])
 have zz:=Db @Ai.eq_1 @Al.eq_1 @Ac.eq_1 @Ct.eq_1 @Cl.v.eq_1 @dg.eq_1;refine Bw [0,1,2] [0,1] (KM ok.g 2 10#64 0#64 s v (.ptr 2 []) rfl) ?_
 (simp only [AH,Ai,Al,Ac,Ct,Cl.v,seval])
 have zz:=@dg.eq_1;refine Bw [0,1,2] [0] (hm) ?_
 (simp only [AH,seval])
 have zz:=@Bt.eq_1;refine Kb (Fn ok.g 0 45) ?_
 (simp only [AH,Bt,seval])
 refine Ar.mk hx [0,1,2,531] [] (Ah (.int .i64 0) (.ifc 145 (.ptr 3 []))) [(0,Ai 2 10#64 0#64 s (.ptr 2 []) (.sl 1 [] 0 1 42)),(1,.ar 42 1 fun _=>(Ct v).v),(3,Bt 0 45)] 4 Am (by (simp only [CU,seval])) (by simp only [LV,Ah,LY,seval]) (by simp only [Ai,Al,Ac,Ct,Cl.v,Bt,dg,LY,seval]) ⟨rfl,rfl,rfl⟩
def IR (v:Dg) (pl:Int):Cl:=⟨0,2#64,v,pl,1,3#64,3#64,false,false,false,pl⟩
def clq (v:Dg) (pl:Int):Cl:=⟨0,2#64,v,pl,0,0#64,0#64,false,false,false,pl⟩
theorem P7 (ok:OkMv M) (s v w:Dg) (b:Nat→BitVec 64) (i o k:BitVec 64) (hb:¬ b 1 < 2#64) :
 Ag M 247 [.ptr 0 [],(cl2 w 1).v,(Ct v).v,.bool false,W 2#64,W 3#64] [(0,Ai 2 10#64 0#64 s (.ptr 2 []) (.sl 1 [] 0 1 42)),(1,.ar 42 1 fun _=>(Ct v).v),(2,Aq b i o (.sl 3 [] 0 1 2) k),(3,.ar 2 1 fun _=>A4 1#64 false)] 4
  (Q3 (Ah (.int .i64 1) .nili) [(0,Ai 2 10#64 0#64 s (.ptr 2 []) (.sl 4 [] 0 2 42)),(2,Aq (fun j=>if j=1 then b 1 - 2#64 else b j) i o (.sl 5 [] 0 2 2) (k + 2#64)),(4,.ar 42 2 fun j=>if j < 1 then (Ct v).v else (IR w 1).v),(5,.ar 2 2 fun j=>if j < 1 then A4 1#64 false else A4 2#64 false)] 6):=by
 have hB:=Dh ok.g.n 1
 rw [show (if (1:Int) < 0 then 0#64 else BitVec.ofInt 64 1 + 1#64)=2#64 from rfl] at hB
 have hC:=Kq ok v (clq w 1) rfl 2#64
 have hN:=Sq ok
 have hL:=J6 ok.g.l b i o k 1 Am 2#64 hb 1 Am (fun _=>A4 1#64 false) (fun _=>⟨_,_,rfl⟩)
 have hF:=Od ok.g v
 have z1:IntKind.i64.wrap 1=1:=rfl
 simp only [clq,Ct,Cl.v,Ac] at hC hF hN
 simp only [Int.cast_ofNat_Int] at hL
 refine Ab ok.k247 rfl fun x hx=>?_
 refine es 2000 ?_;(simp only [Ot,Ol,Ai,Al,Ac,Ct,cl2,Cl.v,LZ,seval])
 have zz:=Db @Ai.eq_1 @Al.eq_1 @Ac.eq_1 @Ct.eq_1 @Cl.v.eq_1 @dg.eq_1;refine Bw [0,1,2] [0] (N0 ok.g 10#64 0#64 s v) ?_
 (simp only [AS,Ai,Al,Ac,LZ,seval])
 refine Ak (hB) ?_
 (simp only [LZ,seval])
 have zz:=@dg.eq_1;refine Ce (hC) ?_
 (simp only [LZ,seval])
 have zz:=@dg.eq_1;refine L9 [0] [] (hF) ?_
 (simp only [LZ,seval])
 refine Bq (hN) ?_
 (simp only [AH,seval])
 have zz:=Bb @Aq.eq_1 @A4.eq_1;refine L9 [2,3] [2,3] (hL) ?_
 (simp only [AH,Aq,A4,z1,Nat.testBit,List.map_nil,List.map_cons,B3,seval])
 refine Ar.mk hx [0,1,2,3,1988,1572] [] (Ah (.int .i64 1) .nili) [(0,Ai 2 10#64 0#64 s (.ptr 2 []) (.sl 4 [] 0 2 42)),(2,Aq (fun j=>if j=1 then b 1 - 2#64 else b j) i o (.sl 5 [] 0 2 2) (k + 2#64)),(4,.ar 42 2 fun j=>if j < 1 then (Ct v).v else (IR w 1).v),(5,.ar 2 2 fun j=>if j < 1 then A4 1#64 false else A4 2#64 false)] 6 Am (by (simp only [CU,seval])) (by simp only [LV,Ah,LY,seval]) ?_ ⟨rfl,rfl,rfl⟩
 simp only [Ai,Al,Ac,Ct,IR,Cl.v,Aq,A4,dg,LY,seval]
 (repeat' apply And.intro)
 all_goals
  intro j hj
  by_cases h:j < 1
  ·simp only [h,if_true,V.ren,W,LY,seval]
  ·have h0:j - 1=0:=Aa
   simp only [h,h0,CL,V.ren,W,LY,seval]
end Mv
