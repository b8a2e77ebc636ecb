/- A part. -/
import Derived.Test.YtlfkjfonpacelaaGreatDoorHS
import Derived.KernelRfl
set_option linter.all false
set_option maxRecDepth 20000
set_option maxHeartbeats 8000000
namespace Mv
open Go
theorem M7 {M:Seat} (okA:OkM M) (ok:OkI M) (kx:OkI75 M) (k151:Ar M 151 XL=true) (l:List In) (v:V) (hv:Vz l v) (hl:l.length < 9223372036854775808) :
 Ae M 151 [v] [] 0 (Q3 (.ptr 0 []) [(0,mach (TH l).f (TH l).g (TH l).pc (TH l).hl (TH l).xt)] 1):=by
 rcases Nat.eq_zero_or_pos l.length with h0 | h0
 ·obtain rfl:l=[]:=List.length_eq_zero_iff.1 h0
  have hW:=Lo ok kx v (by rcases hv with h | ⟨h,_⟩ <;> simp [h])
  have hL:=LW okA
  have hvv:∀ H m z,Bl H m z v v:=by
   intro H m z
   rcases hv with rfl | ⟨rfl,-⟩ <;> simp only [T8,List.length_nil,LY,seval]
  refine Ab k151 rfl fun x hx=>?_
  refine es 2000 ?_;(simp only [XL,Abm,LZ,seval])
  refine Al (hW) ?_ (hus:=⟨hvv _ _ _,trivial⟩)
  (simp only [LZ,seval])
  have zz:=@mach.eq_1;refine PW (hL) ?_
  (simp only [BU,mach,seval])
  have zz:=EH @mach.eq_1 @TH.eq_1 @Ws.eq_1 @List.length_nil.{0};exact Bu hx [48] ⟨rfl,rfl,rfl⟩
 ·obtain rfl:v=Ha l:=by
   rcases hv with h | ⟨_,h⟩
   ·exact h
   ·subst h;exact absurd h0 (Nat.lt_irrefl _)
  have hW:=QD ok kx l h0 hl
  have hL:=Ru okA (min l.length 8192) Aa (fun j=>G0 (l.getD j default))
  refine Ab k151 rfl fun x hx=>?_
  simp only [T8] at hW ⊢
  refine es 2000 ?_;(simp only [XL,Abm,LZ,seval])
  refine DG (hW) ?_
  (simp only [LZ,seval])
  have zz:=@mach.eq_1;refine PW (hL) ?_
  (simp only [BU,mach,seval])
  have zz:=Bo @mach.eq_1 @TH.eq_1;exact Bu hx [48] ⟨rfl,rfl,rfl⟩
theorem UA {M:Seat} (ok:OkHv M) (k359:Ar M 359 IV=true) (pres:List (Dg × Pr)) (l:List (Nat→BitVec 64)) (G:Gs) (hD:G.D=1) (hn:G.n=2) (hp:(G.c 0).pos=1#64) (hv:(G.c 0).val=BO.com) (hp1:(G.c 1).pos=2#64) (hv1:(G.c 1).val=d1 1#8) (hne:¬ BO.com=d1 1#8) :
 Ae M 254 [.ptr 0 [],.ptr 4 []] (G.H ++ hC pres l) 17 (Q3 (Ag (.ptr 17 []) .nili) (G.H ++ hC pres l ++ [(17,vwV 2 0),(18,AJ 2 G.c),(19,.ar 1 2 fun j=>.bool (decide (j=0)))]) 20):=by
 have hRu:=CW ok.g G.D G.l G.g G.s G.n
 have hLn:=Dw ok.g G.D G.l G.g G.s G.n
 have hC0:=B5 ok.g G.D G.l G.g G.s G.n G.c 0 Aa
 have hC1:=B5 ok.g G.D G.l G.g G.s G.n G.c 1 Aa
 have hT:=Cd ok.g.t.s.v.g.p k359 (D:=1) (k:=0) (i:=0) Am Am Am
 rw [show pw 0 0=1#64 by decide,show BitVec.ofNat 64 (LI 1 0 0)=1#64 by decide] at hT
 have hT1:=Cd ok.g.t.s.v.g.p k359 (D:=1) (k:=1) (i:=0) Am Am Am
 rw [show pw 1 0=2#64 by decide,show BitVec.ofNat 64 (LI 1 1 0)=0#64 by decide] at hT1
 have hA:=K7 ok.a pres l
 have hA1:=RD ok.a pres l
 rw [hD,hn] at hRu hLn hC0 hC1
 unfold hC
 unfold hB at hA hA1
 generalize BO.com=C1 at *
 simp only [Mc.v,B0,BO,mach,Av,B2,CN] at hA hA1
 generalize hy:d1 1#8=y at *
 refine Ab ok.k254 rfl fun x hx=>?_
 refine es 2000 ?_;(simp only [Qg,Q6,Gs.H,hD,hn,AB,AH,Ah,AJ,Cl.v,AA,Be,AU,Av,B2,CN,Mc.v,B0,BO,C7,CH,seval])
 have z1:IntKind.i64.wrap 1=1:=rfl
 have z2:IntKind.i64.wrap 2=2:=rfl
 have hne:=eq_false hne
 have zz:=EH @AB.eq_1 @AH.eq_1 @Ah.eq_1 @dg.eq_1;refine KI [0,1,2] [0] (hRu) ?_
 (simp only [AB,AH,Ah,AJ,Cl.v,AA,Be,AU,Av,B2,CN,LZ,seval])
 have zz:=EH @AB.eq_1 @AH.eq_1 @Ah.eq_1 @dg.eq_1;refine Co [0,1,2] [0] (hLn) ?_
 (simp only [AB,AH,Ah,AJ,Cl.v,AA,Be,AU,Av,B2,CN,LZ,seval])
 refine Aj ?_
 refine es 2000 ?_
 (simp only [AB,AH,Ah,AJ,Cl.v,AA,Be,AU,Av,B2,CN,LZ,seval])
 have zz:=Va @AB.eq_1 @AH.eq_1 @Ah.eq_1 @AJ.eq_1 @Cl.v.eq_1 @dg.eq_1;refine Co [0,1,2] [0,1] (hC0) ?_
 (simp only [BU,hp,hv,AB,AH,Ah,AJ,Cl.v,AA,Be,AU,Av,B2,CN,seval])
 refine Bh (hT) ?_
 (simp only [BU,AB,AH,Ah,AJ,Cl.v,AA,Be,AU,Av,B2,CN,seval])
 refine Ji [4,5,6,7,8,9,10,11,12,13,14,15,16] [4,5,6,7,8,9,10,11,12,14,15,16] (hA) (by constructor <;> (try simp only [KG,Ak,Ez,seval]) <;> first | exact q1 | (intro j hj;rcases (show j=0 ∨ j=1 by omega) with rfl | rfl <;> simp only [Nat.one_ne_zero,C8,LY,seval])) ?_
 (simp only [Cj,Bw,A5,A3,decide_true,z1,KG,Nat.testBit,List.map_nil,List.map_cons,CH,AB,AH,Ah,AJ,Cl.v,AA,Be,AU,Av,B2,CN,seval])
 repeat refine sd ?_
 refine Aj ?_
 refine es 2000 ?_
 (simp only [z1,AB,AH,Ah,AJ,Cl.v,AA,Be,AU,Av,B2,CN,LZ,seval])
 have zz:=Va @AB.eq_1 @AH.eq_1 @Ah.eq_1 @AJ.eq_1 @Cl.v.eq_1 @dg.eq_1;refine Co [0,1,2] [0,1] (hC1) ?_
 (simp only [BU,hp1,hv1,AB,AH,Ah,AJ,Cl.v,AA,Be,AU,Av,B2,CN,seval])
 refine Bh (hT1) ?_
 (simp only [BU,AB,AH,Ah,AJ,Cl.v,AA,Be,AU,Av,B2,CN,seval])
 refine Ji [4,5,6,7,8,9,10,11,12,13,14,15,16] [4,5,6,7,8,9,10,11,12,14,15,16] (hA1) (by constructor <;> (try simp only [KG,Ak,Ez,seval]) <;> first | exact q1 | (intro j hj;rcases (show j=0 ∨ j=1 by omega) with rfl | rfl <;> simp only [Nat.one_ne_zero,C8,LY,seval])) ?_
 (simp only [Cj,Bw,A5,A3,hne,decide_false,decide_true,z1,z2,KG,Nat.testBit,List.map_nil,List.map_cons,CH,AB,AH,Ah,AJ,Cl.v,AA,Be,AU,Av,B2,CN,seval])
 repeat refine sd ?_
 refine Aj ?_
 refine es 2000 ?_
 (simp only [z1,AB,AH,Ah,AJ,Cl.v,AA,Be,AU,Av,B2,CN,LZ,seval])
 repeat refine sd ?_
 refine Aq.mk hx [0,1,2,3,4,5,6,7,8,9,10,11,12,13,14,15,16,497,3473,3633] [] (Ag (.ptr 17 []) .nili) _ 20 Am (by (simp only [Db,seval])) (by simp only [LV,BU,seval,LY]) ?_ ⟨rfl,rfl,rfl⟩
 simp only [vwV,KG,Ez,Bw,Ak,AB,AH,Ah,AJ,Cl.v,AA,Be,AU,Av,B2,CN,seval]
 refine ⟨fun j hj=>?_,fun j hj=>?_,fun j hj=>?_⟩
 ·rcases (show j=0 ∨ j=1 by omega) with rfl | rfl <;> simp only [Nat.one_ne_zero,C8,LN,LP,V.ren,AM,A4,BL,BQ,seval,LY]
 ·rcases (show j=0 ∨ j=1 by omega) with rfl | rfl <;> simp only [hp,hv,hp1,hv1,dg,Nat.one_ne_zero,Nat.lt_irrefl,Nat.zero_lt_one,Nat.sub_self,C8,LN,LP,V.ren,AM,A4,BL,BQ,seval,LY]
 ·rcases (show j=0 ∨ j=1 by omega) with rfl | rfl <;> simp only [Nat.one_ne_zero,Nat.lt_irrefl,Nat.zero_lt_one,Nat.sub_self,C8,decide_true,decide_false,LN,LP,V.ren,AM,A4,BL,BQ,seval,LY]
theorem FQ:∀ h q,BV (fun _=>0#64) h q=Au h
 | 0,q=>by simp only [BV,show CF 0#64=Dg.zero from SV,ite_self];rfl
 | h + 1,q=>by rw [BV,FQ h,FQ h];rfl
theorem XR (w:Nat→BitVec 64) (hw:∀ j,j < 4→w j=0#64):Jn (AT w)=0:=by
 have h:Jn (AT w)=C5 8 (fun _=>0) 32:=Cp 8 32 (fun k hk=>by
  rw [AT,Dg.at_mk' _ _ hk,AW,hw _ Aa]
  have:∀ k,k < 32→(Vc (0#64) (k % 8)).toNat=0:=Am
  exact this k hk)
 rw [h];decide
theorem Am5:Jn (AT (w4 0#64 1#64 0#64 0#64))=1 <<< 120:=by
 have h:Jn (AT (w4 0#64 1#64 0#64 0#64))=C5 8 (fun k=>if k=15 then 1 else 0) 32:=Cp 8 32 (fun k hk=>by
  rw [AT,Dg.at_mk' _ _ hk]
  have:∀ k,k < 32→(AW (w4 0#64 1#64 0#64 0#64) k).toNat=if k=15 then 1 else 0:=Am
  exact this k hk)
 rw [h];decide
def Apo:Nat:=I2 (I2 0 0) (I2 0 0)
def VW (x:Nat):Nat:=I2 (HE 13) (I2 Apo x)
theorem Ag8:Jn B0.com=VW 0:=by
 show Jn (BX (BV (fun _=>0#64) 13 0) (BX (BX (BX (AT fun _=>0#64) (AT fun _=>0#64)) (BX (AT fun _=>0#64) (AT fun _=>0#64))) (AT (w4 0#64 0#64 0#64 0#64))))=_
 rw [EV,FQ,JG,EV,EV,EV,XR _ (fun _ _=>rfl),XR _ Am];rfl
theorem W5:Jn BO.com=VW (1 <<< 120):=by
 show Jn (BX (BV (fun _=>0#64) 13 0) (BX (BX (BX (AT fun _=>0#64) (AT fun _=>0#64)) (BX (AT fun _=>0#64) (AT fun _=>0#64))) (AT (w4 0#64 1#64 0#64 0#64))))=_
 rw [EV,FQ,JG,EV,EV,EV,XR _ (fun _ _=>rfl),Am5];rfl
theorem Rb:Nat.beq (VW (1 <<< 120)) (VW 0)=false:=by kernel_rfl
theorem Aep:¬ BO.com=B0.com:=by
 intro h
 have h2:=Rb
 rw [← W5,← Ag8,h,Nat.beq_refl] at h2
 cases h2
def Ak6:LC:=(sr [A1 0 (.mv (.c (.bool false)))] (sr [kl 13 151 [(.c .nils)],mt 1 13] (sr [kl 14 156 [(cU 50)],mt 2 14] (.seq (sr [mt 15 1,A1 16 (.eq false true .ptr (.t 15) (.c .nilp)),mt 17 16,mg 18 17 false 2,A2 19 17 false (.eq false true .ptr (.t 18) (.c .nilp)),
  Di 20 17 19] (.cond (.t 20) (sr [A1 0 (.mv (.c (.bool false)))] .ret) .skip)) (sr [mt 22 1,kl 23 68 [],kl 24 152 [(.t 22),(.t 23),(cI 1)],mt 21 24,ee 25 21 0,ee 26 21 1,mt 3 25,mt 4 26] (.seq (sr [mt 27 4,A1 28 (.eq true true (.iface [74]) (.t 27) (.c .nili)),mt 29 28,mg 30 29 false 3,A2 31 29 false (.eq false true .ptr (.t 30) (.c .nilp)),
  Di 32 29 31] (.cond (.t 32) (sr [A1 0 (.mv (.c (.bool false)))] .ret) .skip)) (sr [mt 34 3,kl 35 153 [(.t 34)],mt 33 35,ee 36 33 0,ee 37 33 1,
  aB 5 32,sb 32 5 36,mt 4 37] (sr [mt 39 3,kl 40 154 [(.t 39),(cU 0)],mt 38 40,ee 41 38 0,ee 42 38 1,
  aB 6 32,sb 32 6 41,mt 7 42] (.seq (sr [mt 43 4,A1 44 (.eq true true (.iface [74]) (.t 43) (.c .nili)),mt 45 44,mg 46 45 false 7,A2 47 45 false (.eq true true (.iface [74]) (.t 46) (.c .nili)),
  Di 48 45 47,mt 49 48,A2 50 49 false (.load true 32 (.t 5)),A2 51 49 false (.load true 32 (.t 6)),A2 52 49 false (.eq false false (.ar 32 1 false .int) (.t 50) (.t 51)),
  Di 53 49 52] (.cond (.t 53) (sr [A1 0 (.mv (.c (.bool false)))] .ret) .skip)) (.seq (.regd [⟨0,0,la 55 32 5⟩,⟨1,1,kl 56 157 [(cI 1),(cU 10),(.t 55)]⟩,⟨2,0,mt 57 2⟩,⟨3,0,la 58 32 6⟩,⟨4,15,kl 59 112 [(.t 56),(.t 57),(cI 0),(.t 58),(cU 0)]⟩,⟨5,31,mt 54 59⟩,⟨6,63,ee 60 54 0⟩,⟨7,63,ee 61 54 1⟩,⟨8,127,mt 8 60⟩,⟨9,511,mt 4 61⟩]) (.seq (sr [mt 62 4,A1 63 (.eq true true (.iface [74]) (.t 62) (.c .nili)),mt 64 63,mg 65 64 false 8,A2 66 64 false (.eq false true .ptr (.t 65) (.c .nilp)),
  Di 67 64 66] (.cond (.t 67) (sr [A1 0 (.mv (.c (.bool false)))] .ret) .skip)) (sr [mt 69 8,mt 70 3,kl 71 124 [(.t 69),(.t 70)],mt 68 71,ee 72 68 0,ee 73 68 1,mt 9 72,mt 4 73] (sr [mt 75 8,A1 76 (.build (.ar 32 (.int .u8)) [(.i 1 0,1,(.c (.int .u8 1)))]),kl 77 110 [(.t 75),(cI 0),(.c (.bool false)),(.t 76),(cI 1),(cU 2),(cU 1)],mt 74 77,ee 78 74 0,ee 79 74 1,mt 10 78,mt 7 79] (sr [mt 81 8,mt 82 3,kl 83 124 [(.t 81),(.t 82)],mt 80 83,ee 84 80 0,ee 85 80 1,mt 11 84,mt 12 85] (sr [mt 86 4,A1 87 (.eq false true (.iface [74]) (.t 86) (.c .nili)),mt 88 87,mg 89 88 true 7,A2 90 88 true (.eq false true (.iface [74]) (.t 89) (.c .nili)),
  HX 91 88 90,mt 92 91,mg 93 92 true 12,A2 94 92 true (.eq false true (.iface [74]) (.t 93) (.c .nili)),
  HX 95 92 94,mt 96 95,mg 97 96 true 10,A2 98 96 true (.ari .eql (.t 97) (cI 1)),
  HX 99 96 98,mt 100 99,mg 101 100 true 9,A2 102 100 true (.len 0 (.t 101)),A2 103 100 true (.ari .eql (.t 102) (cI 0)),
  HX 104 100 103,mt 105 104,mg 106 105 true 11,A2 107 105 true (.len 0 (.t 106)),A2 108 105 true (.ari .eql (.t 107) (cI 1)),
  HX 109 105 108,mt 110 109,mg 111 110 true 11,A2 112 110 true (.isl 151 (.t 111) (cI 0)),A2 113 110 true (.fadr 0 (.t 112)),A2 114 110 true (.load false 1 (.t 113)),A2 115 110 true (.ari .eql (.t 114) (cI 1)),
  HX 116 110 115,mt 117 116,mg 118 117 true 11,A2 119 117 true (.isl 151 (.t 118) (cI 0)),A2 120 117 true (.fadr 1 (.t 119)),A2 121 117 true (.load false 1 (.t 120)),
  HX 122 117 121,mt 123 122,mg 124 123 true 11,A2 125 123 true (.isl 151 (.t 124) (cI 0)),A2 126 123 true (.fadr 2 (.t 125)),A2 127 123 true (.load false 1 (.t 126)),A2 128 123 true (.un .not (.t 127)),
  HX 129 123 128,mt 0 129] .ret)))))))))))))))
def Akd:LF:=⟨Ak6,0,0,130,[.tmp 0]⟩
def WJ:LC:=(sr [A1 6 (.mv (.c (.bool false))),mn 7] (sr [mt 13 0,mt 14 1,kl 15 254 [(.t 13),(.t 14)],mt 12 15,ee 16 12 0,ee 17 12 1,mt 8 16,mt 9 17] (.seq (sr [mt 18 9,A1 19 (.eq true true (.iface [74]) (.t 18) (.c .nili))] (.cond (.t 19) (sr [mt 20 9,A1 6 (.mv (.c (.bool false))),mt 7 20] .ret) .skip)) (.seq (sr [mt 22 0,mt 23 2,kl 24 111 [(.t 22),(.t 23)],mt 21 24,ee 25 21 0,ee 26 21 1,A1 10 (.alloc (.st (.cons (.int .i64) (.cons (.int .u64) (.cons (.ar 32 (.int .u8)) (.cons (.int .i64) (.cons (.int .i64) (.cons (.st (.cons (.int .u64) (.cons (.int .u64) .nil))) (.cons .bool (.cons .bool (.cons .bool (.cons (.int .i64) .nil)))))))))))),sb 42 10 25,mt 11 26] (sr [mt 27 11,A1 28 (.eq true true (.iface [74]) (.t 27) (.c .nili))] (.cond (.t 28) (sr [mt 29 11,A1 6 (.mv (.c (.bool false))),mt 7 29] .ret) .skip))) (sr [mt 30 8,nc 31 30,fa 32 3 31,lb 33 1 32,mt 34 2,ia 35 1 33 34,lb 36 1 35,mt 6 36,mn 7] .ret)))))
def KL:LF:=⟨WJ,3,0,37,[.tmp 6,.tmp 7]⟩
def Rs:LC:=(sr [A1 4 (.mv (.c .nils)),mn 5] (sr [mt 19 0,mt 20 1,kl 21 254 [(.t 19),(.t 20)],mt 18 21,ee 22 18 0,ee 23 18 1,mt 6 22,mt 7 23] (.seq (sr [mt 24 7,A1 25 (.eq true true (.iface [74]) (.t 24) (.c .nili))] (.cond (.t 25) (sr [mt 26 7,A1 4 (.mv (.c .nils)),mt 5 26] .ret) .skip)) (sr [A1 8 (.mv (.c .nils))] (.seq (sr [mt 27 6,nc 28 27,fa 29 2 28,lb 30 1 29,
  lN 31 0 30,
  mI 32 0] (.block 0 (.loop (sr [ak 33 .lss 32 31] (.seq (Ew 33 0) (.seq (.block 1 (sr [mt 34 32,ia 35 42 30 32,la 36 42 35,A1 10 (.alloc (.st (.cons (.int .i64) (.cons (.int .u64) (.cons (.ar 32 (.int .u8)) (.cons (.int .i64) (.cons (.int .i64) (.cons (.st (.cons (.int .u64) (.cons (.int .u64) .nil))) (.cons .bool (.cons .bool (.cons .bool (.cons (.int .i64) .nil)))))))))))),mt 9 34,sb 42 10 36] (sr [fa 38 1 10,lb 39 1 38,kl 40 130 [(.t 39)],mt 37 40,ee 41 37 0,ee 42 37 1,ee 43 37 2,mt 11 41,mt 12 42,mt 13 43] (.seq (sr [mt 44 11,aI 45 .rem 44 2,mt 46 6,nc 47 46,fa 48 4 47,lb 49 1 48,ak 50 .eql 45 49,mt 51 50,A2 52 51 false (.fadr 39 (.t 10)),A2 53 51 false (.load false 1 (.t 52)),
  Di 54 51 53,mt 55 54,mg 56 55 false 6,A2 57 55 false (.fadr 0 (.t 10)),A2 58 55 false (.load false 1 (.t 57)),⟨(some 59),.call 255 [(.t 56),(.t 58)],(some (55,false))⟩,A2 60 55 false (.un .not (.t 59)),
  Di 61 55 60] (.cond (.t 61) (.exit 1) .skip)) (.seq (.regd [⟨0,0,mt 62 9⟩,⟨1,0,mt 63 11⟩,⟨2,0,mt 64 1⟩,⟨3,4,nc 65 64⟩,⟨4,12,fa 66 1 65⟩,⟨5,28,lb 67 1 66⟩,⟨6,62,ak 68 .eql 63 67⟩,⟨7,0,mt 69 6⟩,⟨8,128,nc 70 69⟩,⟨9,384,fa 71 3 70⟩,⟨10,896,lb 72 1 71⟩,⟨11,0,mt 73 9⟩,⟨12,3968,ia 74 1 72 73⟩,⟨13,8064,lb 75 1 74⟩,⟨14,16383,A1 76 (.build (.st (.cons (.int .i64) (.cons .bool (.cons .bool (.cons (.ar 32 (.int .u8)) (.cons (.st (.cons (.ar 32 (.int .u8)) (.cons (.st (.cons (.ar 16 (.int .u64)) (.cons (.int .u64) (.cons .bool (.cons (.int .u64) .nil))))) (.cons .slice (.cons (.ar 64 (.int .u8)) .nil))))) .nil)))))) [(.f 0,1,(.t 62)),(.f 1,1,(.t 68)),(.f 2,1,(.t 75))])⟩,⟨15,0,A1 14 (.alloc (.st (.cons (.int .i64) (.cons .bool (.cons .bool (.cons (.ar 32 (.int .u8)) (.cons (.st (.cons (.ar 32 (.int .u8)) (.cons (.st (.cons (.ar 16 (.int .u64)) (.cons (.int .u64) (.cons .bool (.cons (.int .u64) .nil))))) (.cons .slice (.cons (.ar 64 (.int .u8)) .nil))))) .nil)))))))⟩,⟨16,65535,sb 151 14 76⟩]) (sr [mt 77 6,A1 78 (.mkfn 2000256 [(.t 77)]),mt 15 78] (.seq (sr [fa 79 1 14,lb 80 1 79] (.cond (.t 80) (.reg [mt 81 6,A1 82 (.mkfn 2000257 [(.t 81)]),mt 15 82]) .skip)) (sr [mt 84 15,la 85 42 10,⟨(some 86),.dyn (.t 84) [(.t 14),(.t 85)],none⟩,mt 83 86,ee 87 83 0,ee 88 83 1,mt 16 87,mt 17 88] (.seq (sr [mt 89 17,A1 90 (.eq true true (.iface [74]) (.t 89) (.c .nili))] (.cond (.t 90) (sr [mt 91 17,A1 4 (.mv (.c .nils)),mt 5 91] .ret) .skip)) (sr [mt 92 16] (.cond (.t 92) (.reg [mt 93 8,la 94 151 14,A1 95 (.bsl 151 1 (.st (.cons (.int .i64) (.cons .bool (.cons .bool (.cons (.ar 32 (.int .u8)) (.cons (.st (.cons (.ar 32 (.int .u8)) (.cons (.st (.cons (.ar 16 (.int .u64)) (.cons (.int .u64) (.cons .bool (.cons (.int .u64) .nil))))) (.cons .slice (.cons (.ar 64 (.int .u8)) .nil))))) .nil)))))) [(.i 151 0,151,(.t 94))]),
  aP 96 151 320 93 95,mt 8 96]) .skip))))))))))) (.reg [aI 97 .add 32 1,mt 32 97]))))))) (sr [mt 98 8,mt 4 98,mn 5] .ret))))))
def f124:LF:=⟨Rs,2,0,99,[.tmp 4,.tmp 5]⟩
variable {M:Seat}
structure OkHi (M:Seat):Prop where
 v:OkHv M
 k75:Ar M 75 f75=true
 k123:Ar M 123 KL=true
 k124:Ar M 124 f124=true
 k151:Ar M 151 XL=true
 k156:Ar M 156 Akb=true
 k157:Ar M 157 Aji=true
theorem KO (ok:OkHi M):Ae M 151 [.nils] [] 0 (Q3 (.ptr 0 []) [(0,B0.v)] 1):=by
 have hW:Ae M 75 [.nils] [] 0 (Q3 .nils [] 0):=by
  refine Ab ok.k75 rfl fun x hx=>?_
  refine es 2000 ?_;(simp only [f75,c75,LZ,seval])
  refine Aj ?_
  refine es 2000 ?_
  (simp only [LZ,seval])
  exact Aq.mkZ hx [] ⟨rfl,rfl,rfl⟩
 have hL:=LW ok.v.o.q.okA
 refine Ab ok.k151 rfl fun x hx=>?_
 refine es 2000 ?_;(simp only [XL,Abm,LZ,seval])
 refine Al (hW) ?_
 (simp only [LZ,seval])
 have zz:=@mach.eq_1;refine PW (hL) ?_
 (simp only [BU,mach,seval])
 have zz:=CX @Mc.v.eq_1 @B0.eq_1 @mach.eq_1;exact Bu hx [48] ⟨rfl,rfl,rfl⟩
theorem IE (ok:OkHi M) (d:Int) (l:BitVec 64) (s:Dg):Ae M 157 [.int .i64 d,W l,dg s] [] 0 (Q3 (AH d l 0#64 s) [] 0):=by
 refine Ab ok.k157 rfl fun x hx=>?_
 refine es 2000 ?_;(simp only [Aji,Alu,LZ,seval])
 have zz:=CX @AH.eq_1 @Ah.eq_1 @dg.eq_1;exact Bu hx [] ⟨rfl,rfl,rfl⟩
theorem Ku (ok:OkHi M) (v:BitVec 64) (hv:¬ 281474976710656#64 < v) (hs:∀ n,n < 8→¬ 281474976710656#64 < KX v n + v):Ae M 156 [W v] [] 0 (Q3 (.ptr 0 []) [(0,AA (DX v 8) (KX v 8) 0#64 .nils 0#64)] 1):=by
 have okL:=ok.v.g.t.s.v.g.l
 refine Ab ok.k156 rfl fun x hx=>?_
 refine es 2000 ?_;(simp only [Akb,Ajd,LZ,seval])
 have zz:=@AA.eq_1;refine PW (OE okL) ?_
 (simp only [AA,LZ,seval])
 refine An (σ:=Nat) (fun n=>n≤8) (fun n=>fr 20 [(0,W v),(3,.ptr 0 []),(6,.int .i64 n)]) (fun n=>[(0,AA (DX v n) (KX v n) 0#64 .nils 0#64)]) (fun _=>1) (fun n=>8 - n) 0 Aa ?_ ?_
 ·refine Ao.fr [16] [] hx AX Am ?_ ?_
  ·simp only [Int.natCast_zero,LY,seval]
  ·simp only [AA,KX,DX,Nat.not_lt_zero,if_false,LY,seval]
 ·intro n h8
  refine es 2000 ?_
  by_cases hn:n=8
  ·subst hn
   have d0:(((8:Nat):Int) < 8)=False:=eq_false Aa
   (simp only [AA,d0,LZ,seval])
   have zz:=@AA.eq_1;exact Bu hx [0] ⟨rfl,rfl,rfl⟩
  ·have hn:n < 8:=Aa
   have d0:((n:Int) < 8)=True:=eq_true Aa
   have w0:IntKind.i64.wrap ((n:Int) + 1)=((n + 1:Nat):Int):=Br
   have hp:=Rw okL (DX v n) (KX v n) 0#64 0#64 n hn v hv (hs n hn)
   (simp only [AA,d0,LZ,seval])
   have zz:=@AA.eq_1;refine G2 [0] (hp) ?_
   (simp only [AA,w0,LZ,seval])
   refine ⟨n + 1,by omega,by omega,?_⟩
   refine Ao.fr [0] [] hx AX Am ?_ ?_
   ·simp only [LY,seval]
   ·simp only [AA,KX,LY,seval]
    intro j hj
    unfold DX
    by_cases h:j=n
    ·rw [if_pos h,if_neg (show ¬ n < n by omega),if_pos (show j < n + 1 by omega),BitVec.zero_add]
    ·rw [if_neg h]
     by_cases h2:j < n
     ·rw [if_pos h2,if_pos (show j < n + 1 by omega)]
     ·rw [if_neg h2,if_neg (show ¬ j < n + 1 by omega)]
def Akv:LC:=(sr [A1 6 (.mv (.c .nilp))] (sr [mt 20 0,kl 21 151 [(.t 20)],kl 22 68 [],mt 7 21,mt 8 22] (sr [kl 23 156 [(cU 1000)],mt 9 23] (.seq (sr [mt 24 7,A1 25 (.eq false true .ptr (.t 24) (.c .nilp)),mt 26 25,mg 27 26 false 8,A2 28 26 false (.eq false true .ptr (.t 27) (.c .nilp)),
  Di 29 26 28,mt 30 29,mg 31 30 false 9,A2 32 30 false (.eq false true .ptr (.t 31) (.c .nilp)),
  Di 33 30 32] (.cond (.t 33) (sr [A1 6 (.mv (.c .nilp))] .ret) .skip)) (sr [mt 35 7,mt 36 8,mt 37 1,kl 38 152 [(.t 35),(.t 36),(.t 37)],mt 34 38,ee 39 34 0,ee 40 34 1,mt 10 39,mt 11 40] (.seq (sr [mt 41 11,A1 42 (.eq true true (.iface [74]) (.t 41) (.c .nili)),mt 43 42,mg 44 43 false 10,A2 45 43 false (.eq false true .ptr (.t 44) (.c .nilp)),
  Di 46 43 45] (.cond (.t 46) (sr [A1 6 (.mv (.c .nilp))] .ret) .skip)) (sr [mt 47 10,mt 48 9,A1 49 (.build (.st (.cons .ptr (.cons .ptr (.cons .ptr (.cons .slice (.cons (.int .u64) .nil)))))) [(.f 0,1,(.t 47)),(.f 2,1,(.t 48))]),
  bX 50 49,mt 12 50] (.seq (sr [mt 51 1,
  Eh 52 .u64 51,
  aV 53 .shl 1 52,
  mU 54 0] (.block 0 (.loop (sr [ak 55 .lss 54 53] (.seq (Ew 55 0) (.seq (.block 1 (sr [mt 56 54,mt 13 56] (sr [mt 58 10,mt 59 13,kl 60 154 [(.t 58),(.t 59)],mt 57 60,ee 61 57 0,ee 62 57 1,
  aB 14 32,sb 32 14 61,mt 15 62] (.seq (sr [mt 63 15,A1 64 (.eq true true (.iface [74]) (.t 63) (.c .nili))] (.cond (.t 64) (sr [A1 6 (.mv (.c .nilp))] .ret) .skip))
 (.regd [⟨1,0,mt 66 12⟩,⟨2,1,nc 67 66⟩,⟨3,3,fa 68 3 67⟩,⟨4,7,lb 69 1 68⟩,⟨5,0,la 70 32 14⟩,⟨6,16,A1 71 (.bsl 32 1 (.ar 32 (.int .u8)) [(.i 32 0,32,(.t 70))])⟩,⟨7,63,aP 72 32 32 69 71⟩,⟨0,0,mt 65 12⟩,⟨8,255,nc 73 65⟩,⟨9,511,fa 74 3 73⟩,⟨10,1023,sb 1 74 72⟩]))))) (.reg [aU 75 .add 54 1,mt 54 75]))))))) (sr [mt 77 10,kl 78 153 [(.t 77)],mt 76 78,ee 79 76 0,ee 80 76 1,
  aB 16 32,sb 32 16 79,mt 11 80] (.seq (.regd [⟨0,0,mt 81 12⟩,⟨1,1,nc 82 81⟩,⟨2,3,fa 83 3 82⟩,⟨3,7,lb 84 1 83⟩,⟨4,0,mt 85 12⟩,⟨5,16,nc 86 85⟩,⟨6,48,fa 87 3 86⟩,⟨7,112,lb 88 1 87⟩,⟨8,240,lN 89 0 88⟩,⟨9,496,aI 90 .sub 89 1⟩,⟨10,1023,ia 91 32 84 90⟩,⟨11,2047,la 92 32 91⟩,⟨12,0,aB 17 32⟩,⟨13,8191,sb 32 17 92⟩]) (.seq (sr [mt 93 2,aI 94 .geq 93 0] (.cond (.t 94) (.reg [mt 95 12,mt 96 2,aI 97 .rem 96 20,kl 98 253 [(.t 95),(.t 97)],sb 32 17 98]) .skip)) (.seq (.regd [⟨0,0,mt 100 1⟩,⟨1,0,la 101 32 16⟩,⟨2,3,kl 102 157 [(.t 100),(cU 5000),(.t 101)]⟩,⟨3,0,mt 103 9⟩,⟨4,0,la 104 32 17⟩,⟨5,31,kl 105 112 [(.t 102),(.t 103),(cI 1),(.t 104),(cU 0)]⟩,⟨6,63,mt 99 105⟩,⟨7,127,ee 106 99 0⟩,⟨8,127,ee 107 99 1⟩,⟨9,255,mt 18 106⟩,⟨10,1023,mt 19 107⟩]) (.seq (sr [mt 108 11,A1 109 (.eq true true (.iface [74]) (.t 108) (.c .nili)),mt 110 109,mg 111 110 false 19,A2 112 110 false (.eq true true (.iface [74]) (.t 111) (.c .nili)),
  Di 113 110 112,mt 114 113,mg 115 114 false 18,A2 116 114 false (.eq false true .ptr (.t 115) (.c .nilp)),
  Di 117 114 116] (.cond (.t 117) (sr [A1 6 (.mv (.c .nilp))] .ret) .skip)) (sr [mt 118 12,mt 119 18,nc 120 118,fa 121 1 120,sb 1 121 119] (sr [mt 122 12,mt 6 122] .ret)))))))))))))))
def Anr:LF:=⟨Akv,3,0,123,[.tmp 6]⟩
def An4:LC:=(sr [A1 2 (.mv (.c (.bool false)))] (sr [mt 4 0,nc 5 4,fa 6 4 5,lb 7 1 6,
  aU 8 .add 7 10000,nc 9 4,fa 10 4 9,sb 1 10 8] (.seq (sr [mt 11 0,nc 12 11,fa 13 1 12,lb 14 1 13,kl 15 117 [(.t 14)],aI 16 .sub 15 1,mt 3 16] (.block 0 (.loop (.seq (sr [mt 17 3,aI 18 .geq 17 0]
 (Ew 18 0)) (.seq (.block 1 (.seq (.regd [⟨0,0,mt 21 0⟩,⟨1,1,nc 22 21⟩,⟨2,3,fa 23 1 22⟩,⟨3,7,lb 24 1 23⟩,⟨4,0,mt 25 3⟩,⟨5,0,mt 26 0⟩,⟨6,32,nc 27 26⟩,⟨7,96,fa 28 4 27⟩,⟨8,224,lb 29 1 28⟩,⟨9,511,kl 30 115 [(.t 24),(.t 25),(.t 29)]⟩,⟨10,1023,A1 31 (.eq true true (.iface [74]) (.t 30) (.c .nili))⟩]) (.cond (.t 31) (sr [A1 2 (.mv (.c (.bool false)))] .ret) .skip))) (.reg [mt 19 3,aI 20 .sub 19 1,mt 3 20])))))) (sr [A1 2 (.mv (.c (.bool true)))] .ret))))
def Ahn:LF:=⟨An4,1,0,32,[.tmp 2]⟩
def Aem:LC:=(sr [aB 4 32] (.seq (sr [mt 5 1,aI 6 .geq 5 0,mt 7 6,mg 8 7 true 1,mg 9 7 true 0,A2 10 7 true (.nilc (.t 9)),A2 11 7 true (.fadr 3 (.t 10)),A2 12 7 true (.load false 1 (.t 11)),A2 13 7 true (.len 0 (.t 12)),A2 14 7 true (.ari .lss (.t 8) (.t 13)),
  HX 15 7 14] (.cond (.t 15) (sr [mt 16 0,nc 17 16,fa 18 3 17,lb 19 1 18,mt 20 1,ia 21 32 19 20,la 22 32 21,sb 32 4 22] .ret) .skip)) (sr [mt 23 1,
  Eh 24 .u8 23,A1 25 (.build (.ar 32 (.int .u8)) [(.i 1 0,1,(.t 24)),(.i 1 1,1,(.c (.int .u8 3)))]),sb 32 4 25] .ret)))
def Zg:LF:=⟨Aem,2,0,26,[.cell 4 true 32]⟩
end Mv
