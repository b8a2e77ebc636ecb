/- A part. -/
import Derived.Test.YtlfkjfonpacelaaGreatDoorHQ
set_option linter.all false
set_option maxRecDepth 20000
set_option maxHeartbeats 8000000
namespace Mv
open Go
def Q6:LC:=(sr [A1 4 (.mv (.c .nilp)),mn 5] (.seq (.block 0 (sr [mt 14 0,A1 15 (.eq false true .ptr (.t 14) (.c .nilp)),mt 16 15,mg 17 16 false 1,A2 18 16 false (.eq false true .ptr (.t 17) (.c .nilp)),
  Di 19 16 18,mt 13 19] (.cond (.t 13) (sr [A1 20 (.mkif 74 (cI 1)),A1 4 (.mv (.c .nilp)),mt 5 20] .ret) (.seq (.regd [⟨0,0,mt 22 0⟩,⟨1,1,kl 23 119 [(.t 22)]⟩,⟨2,3,A1 24 (.fld 0 1 false (.t 23))⟩,⟨3,0,mt 25 1⟩,⟨4,8,nc 26 25⟩,⟨5,24,fa 27 1 26⟩,⟨6,56,lb 28 1 27⟩,⟨7,127,ak 29 .neq 24 28⟩,⟨8,255,mt 21 29⟩]) (.cond (.t 21) (sr [A1 30 (.mkif 74 (cI 3)),A1 4 (.mv (.c .nilp)),mt 5 30] .ret) .skip))))) (sr [mt 31 0,mt 32 1,A1 33 (.build (.st (.cons .ptr (.cons .ptr (.cons .slice (.cons .slice (.cons (.int .i64) .nil)))))) [(.f 0,1,(.t 31)),(.f 1,1,(.t 32))]),
  bX 34 33,mt 6 34] (.seq (sr [mt 35 0,kl 36 117 [(.t 35)],
  mI 37 0] (.block 1 (.loop (sr [ak 38 .lss 37 36] (.seq (Ew 38 1) (.seq (.block 2 (sr [mt 39 37,mt 7 39] (sr [mt 41 0,mt 42 7,kl 43 111 [(.t 41),(.t 42)],mt 40 43,ee 44 40 0,ee 45 40 1,A1 8 (.alloc (.st (.cons (.int .i64) (.cons (.int .u64) (.cons (.ar 32 (.int .u8)) (.cons (.int .i64) (.cons (.int .i64) (.cons (.st (.cons (.int .u64) (.cons (.int .u64) .nil))) (.cons .bool (.cons .bool (.cons .bool (.cons (.int .i64) .nil)))))))))))),sb 42 8 44,mt 9 45] (.seq (sr [mt 46 9,A1 47 (.eq true true (.iface [74]) (.t 46) (.c .nili))] (.cond (.t 47) (sr [mt 48 9,A1 4 (.mv (.c .nilp)),mt 5 48] .ret) .skip)) (.seq (.regd [⟨0,0,fa 50 1 8⟩,⟨1,1,lb 51 1 50⟩,⟨2,0,mt 52 1⟩,⟨3,4,nc 53 52⟩,⟨4,12,fa 54 1 53⟩,⟨5,28,lb 55 1 54⟩,⟨6,63,kl 56 359 [(.t 51),(.t 55)]⟩,⟨7,127,mt 49 56⟩,⟨8,255,ee 57 49 0⟩,⟨9,255,ee 58 49 1⟩,⟨10,511,mt 10 57⟩,⟨11,2047,mt 11 58⟩]) (sr [mt 60 1,mt 61 10,kl 62 154 [(.t 60),(.t 61)],mt 59 62,ee 63 59 0,ee 64 59 1,
  aB 12 32,sb 32 12 63,mt 9 64] (.seq (sr [mt 65 9,A1 66 (.eq true true (.iface [74]) (.t 65) (.c .nili))] (.cond (.t 66) (sr [mt 67 9,A1 4 (.mv (.c .nilp)),mt 5 67] .ret) .skip))
 (.regd [⟨2,0,mt 70 6⟩,⟨3,1,nc 71 70⟩,⟨4,3,fa 72 2 71⟩,⟨5,7,lb 73 1 72⟩,⟨6,0,la 74 42 8⟩,⟨7,16,A1 75 (.bsl 42 1 (.st (.cons (.int .i64) (.cons (.int .u64) (.cons (.ar 32 (.int .u8)) (.cons (.int .i64) (.cons (.int .i64) (.cons (.st (.cons (.int .u64) (.cons (.int .u64) .nil))) (.cons .bool (.cons .bool (.cons .bool (.cons (.int .i64) .nil))))))))))) [(.i 42 0,42,(.t 74))])⟩,⟨8,63,aP 76 42 96 73 75⟩,⟨9,0,mt 77 6⟩,⟨10,128,nc 78 77⟩,⟨11,384,fa 79 3 78⟩,⟨12,896,lb 80 1 79⟩,⟨13,0,la 81 32 12⟩,⟨14,0,fa 82 2 8⟩,⟨15,4096,la 83 32 82⟩,⟨16,14336,A1 84 (.eq false false (.ar 32 1 false .int) (.t 81) (.t 83))⟩,⟨17,30720,A1 85 (.bsl 1 1 .bool [(.i 1 0,1,(.t 84))])⟩,⟨18,65535,aP 86 1 1 80 85⟩,⟨0,0,mt 68 6⟩,⟨19,262143,nc 87 68⟩,⟨20,524287,fa 88 2 87⟩,⟨21,1048575,sb 1 88 76⟩,⟨1,0,mt 69 6⟩,⟨22,4194303,nc 89 69⟩,⟨23,8388607,fa 90 3 89⟩,⟨24,16777215,sb 1 90 86⟩])))))))) (.reg [aI 91 .add 37 1,mt 37 91]))))))) (.seq (sr [mt 92 6,nc 93 92,fa 94 3 93,lb 95 1 94,
  iJ 96 1 95 0,lb 97 1 96,A1 98 (.un .not (.t 97))] (.cond (.t 98) (.reg [mt 99 6,nc 100 99,fa 101 4 100,A0 (.store 1 (.t 101) (cI 1))]) .skip)) (sr [mt 102 6,mt 4 102,mn 5] .ret))))))
def Qg:LF:=⟨Q6,2,0,103,[.tmp 4,.tmp 5]⟩
def Aip:LC:=(sr [A1 4 (.mv (.c (.bool false)))] (.seq (.block 0 (.loop (.seq (sr [mt 8 1,aI 9 .geq 8 0]
 (Ew 9 0)) (.seq (.block 1 (sr [mt 25 0,nc 26 25,fa 27 2 26,lb 28 1 27,mt 29 1,ia 30 42 28 29,la 31 42 30,A1 5 (.alloc (.st (.cons (.int .i64) (.cons (.int .u64) (.cons (.ar 32 (.int .u8)) (.cons (.int .i64) (.cons (.int .i64) (.cons (.st (.cons (.int .u64) (.cons (.int .u64) .nil))) (.cons .bool (.cons .bool (.cons .bool (.cons (.int .i64) .nil)))))))))))),sb 42 5 31] (.seq (sr [mt 32 0,nc 33 32,fa 34 3 33,lb 35 1 34,mt 36 1,ia 37 1 35 36,lb 38 1 37,A1 39 (.un .not (.t 38))] (.cond (.t 39) (sr [A1 4 (.mv (.c (.bool false)))] .ret) .skip)) (.seq (sr [fa 40 0 5,lb 41 1 40,aI 42 .lss 41 0] (.cond (.t 42) (sr [A1 4 (.mv (.c (.bool true)))] .ret) .skip)) (.seq (.regd [⟨0,0,mt 44 0⟩,⟨1,1,nc 45 44⟩,⟨2,3,fa 46 2 45⟩,⟨3,7,lb 47 1 46⟩,⟨4,0,fa 48 0 5⟩,⟨5,16,lb 49 1 48⟩,⟨6,63,ia 50 42 47 49⟩,⟨7,127,fa 51 1 50⟩,⟨8,255,lb 52 1 51⟩,⟨9,511,kl 53 131 [(.t 52)]⟩,⟨10,1023,mt 43 53⟩,⟨11,2047,ee 54 43 0⟩,⟨12,2047,ee 55 43 1⟩,⟨13,4095,mt 6 54⟩,⟨14,16383,mt 7 55⟩]) (.seq (.seq (.regd [⟨0,0,mt 56 0⟩,⟨1,1,nc 57 56⟩,⟨2,3,fa 58 3 57⟩,⟨3,7,lb 59 1 58⟩,⟨4,0,fa 60 0 5⟩,⟨5,16,lb 61 1 60⟩,⟨6,63,ia 62 1 59 61⟩,⟨7,127,lb 63 1 62⟩]) (.cond (.t 63) (.regd [⟨0,0,mt 65 0⟩,⟨1,1,nc 66 65⟩,⟨2,3,fa 67 2 66⟩,⟨3,7,lb 68 1 67⟩,⟨4,0,fa 69 0 5⟩,⟨5,16,lb 70 1 69⟩,⟨6,63,ia 71 42 68 70⟩,⟨7,127,fa 72 1 71⟩,⟨8,255,lb 73 1 72⟩,⟨9,511,kl 74 132 [(.t 73)]⟩,⟨10,1023,mt 64 74⟩,⟨11,2047,ee 75 64 0⟩,⟨12,2047,ee 76 64 1⟩,⟨13,4095,mt 6 75⟩]) .skip)) (sr [fa 77 1 5,lb 78 1 77,mt 79 6,ak 80 .neq 78 79] (.cond (.t 80) (sr [A1 4 (.mv (.c (.bool false)))] .ret) .skip))))))))
 (.regd [⟨0,0,mt 10 0⟩,⟨1,1,nc 11 10⟩,⟨2,3,fa 12 2 11⟩,⟨3,7,lb 13 1 12⟩,⟨4,0,mt 14 0⟩,⟨5,16,nc 15 14⟩,⟨6,48,fa 16 2 15⟩,⟨7,112,lb 17 1 16⟩,⟨8,0,mt 18 1⟩,⟨9,496,ia 19 42 17 18⟩,⟨10,1008,fa 20 0 19⟩,⟨11,2032,lb 21 1 20⟩,⟨12,4095,ia 22 42 13 21⟩,⟨13,8191,fa 23 0 22⟩,⟨14,16383,lb 24 1 23⟩,⟨15,32767,mt 1 24⟩]))))) (sr [A1 4 (.mv (.c (.bool true)))] .ret)))
def WA:LF:=⟨Aip,2,0,81,[.tmp 4]⟩
def Afx:LC:=(sr [bX 5 2,A1 6 (.mv (.c (.bool false))),mn 7] (sr [fa 15 1 5,lb 16 1 15,kl 17 131 [(.t 16)],mt 14 17,ee 18 14 0,ee 19 14 1,mt 8 18,mt 9 19] (.seq (sr [mt 20 1,nc 21 20,fa 22 2 21,lb 23 1 22] (.cond (.t 23) (.reg [fa 25 1 5,lb 26 1 25,kl 27 132 [(.t 26)],mt 24 27,ee 28 24 0,ee 29 24 1,mt 8 28,mt 9 29]) .skip)) (.seq (sr [mt 30 9,A1 31 (.eq true true (.iface [74]) (.t 30) (.c .nili))] (.cond (.t 31) (sr [mt 32 9,A1 6 (.mv (.c (.bool false))),mt 7 32] .ret) .skip)) (sr [mt 34 8,mt 35 0,nc 36 35,fa 37 1 36,lb 38 1 37,nc 39 38,fa 40 1 39,lb 41 1 40,kl 42 359 [(.t 34),(.t 41)],mt 33 42,ee 43 33 0,ee 44 33 1,mt 10 43,mt 11 44] (.seq (sr [mt 46 1,mt 47 0,nc 48 47,fa 49 1 48,lb 50 1 49,mt 51 10,kl 52 154 [(.t 50),(.t 51)],mt 45 52,ee 53 45 0,ee 54 45 1,nc 55 46,fa 56 3 55,sb 32 56 53,mt 9 54] (sr [mt 57 9,A1 58 (.eq true true (.iface [74]) (.t 57) (.c .nili))] (.cond (.t 58) (sr [mt 59 9,A1 6 (.mv (.c (.bool false))),mt 7 59] .ret) .skip))) (.seq (sr [mt 60 0,nc 61 60,fa 62 2 61,lb 63 1 62,
  lN 64 0 63,
  mI 65 0] (.block 0 (.loop (sr [ak 66 .lss 65 64] (.seq (Ew 66 0) (.seq (.block 1 (sr [ia 67 42 63 65,la 68 42 67,A1 13 (.alloc (.st (.cons (.int .i64) (.cons (.int .u64) (.cons (.ar 32 (.int .u8)) (.cons (.int .i64) (.cons (.int .i64) (.cons (.st (.cons (.int .u64) (.cons (.int .u64) .nil))) (.cons .bool (.cons .bool (.cons .bool (.cons (.int .i64) .nil)))))))))))),sb 42 13 68] (.seq (.regd [⟨0,0,fa 69 0 13⟩,⟨1,1,lb 70 1 69⟩,⟨2,0,mt 71 1⟩,⟨3,4,nc 72 71⟩,⟨4,12,fa 73 0 72⟩,⟨5,28,lb 74 1 73⟩,⟨6,63,ak 75 .eql 70 74⟩,⟨7,127,mt 76 75⟩,⟨8,255,A2 77 76 true (.fadr 1 (.t 13))⟩,⟨9,511,A2 78 76 true (.load false 1 (.t 77))⟩,⟨10,255,mg 79 76 true 8⟩,⟨11,2047,A2 80 76 true (.ari .eql (.t 78) (.t 79))⟩,⟨12,4095,HX 81 76 80⟩,⟨13,8191,mt 82 81⟩,⟨14,16383,A2 83 82 true (.fadr 2 (.t 13))⟩,⟨15,32767,A2 84 82 true (.load true 32 (.t 83))⟩,⟨16,16383,mg 85 82 true 1⟩,⟨17,81919,A2 86 82 true (.nilc (.t 85))⟩,⟨18,212991,A2 87 82 true (.fadr 3 (.t 86))⟩,⟨19,475135,A2 88 82 true (.load true 32 (.t 87))⟩,⟨20,1048575,A2 89 82 true (.eq false false (.ar 32 1 false .int) (.t 84) (.t 88))⟩,⟨21,2097151,HX 90 82 89⟩]) (.cond (.t 90) (sr [A1 6 (.mv (.c (.bool false))),mn 7] .ret) .skip)))) (.reg [aI 91 .add 65 1,mt 65 91]))))))) (sr [A1 6 (.mv (.c (.bool true))),mn 7] .ret))))))))
def Ahy:LF:=⟨Afx,3,0,92,[.tmp 6,.tmp 7]⟩
def Amb:LC:=(sr [bX 5 2,A1 6 (.mv (.c (.bool false))),mn 7] (.seq (sr [fa 10 38 5,lb 11 1 10] (.cond (.t 11) (sr [A1 6 (.mv (.c (.bool false))),mn 7] .ret) .skip)) (.seq (.regd [⟨0,0,fa 13 1 5⟩,⟨1,1,lb 14 1 13⟩,⟨2,0,mt 15 0⟩,⟨3,4,nc 16 15⟩,⟨4,12,fa 17 1 16⟩,⟨5,28,lb 18 1 17⟩,⟨6,60,nc 19 18⟩,⟨7,124,fa 20 1 19⟩,⟨8,252,lb 21 1 20⟩,⟨9,511,kl 22 359 [(.t 14),(.t 21)]⟩,⟨10,1023,mt 12 22⟩,⟨11,2047,ee 23 12 0⟩,⟨12,2047,ee 24 12 1⟩,⟨13,4095,mt 8 23⟩,⟨14,16383,mt 9 24⟩]) (.seq (sr [mt 25 9,A1 26 (.eq true true (.iface [74]) (.t 25) (.c .nili))] (.cond (.t 26) (sr [mt 27 9,A1 6 (.mv (.c (.bool false))),mt 7 27] .ret) .skip)) (.seq (sr [mt 28 1,nc 29 28,fa 30 2 29,lb 31 1 30] (.cond (.t 31) (.reg [mt 32 8,
  aU 33 .add 32 1,mt 8 33]) .skip)) (sr [mt 35 1,mt 36 0,nc 37 36,fa 38 1 37,lb 39 1 38,mt 40 8,kl 41 155 [(.t 39),(.t 40)],mt 34 41,ee 42 34 0,ee 43 34 1,nc 44 35,fa 45 35 44,sb 116 45 42,mt 9 43] (sr [mt 46 9,A1 6 (.mv (.c (.bool true))),mt 7 46] .ret)))))))
def f257:LF:=⟨Amb,3,0,47,[.tmp 6,.tmp 7]⟩
structure OkHv (M:Seat):Prop where
 a:OkHa M
 o:OkOs M
 g:OkGr M
 k155:Ar M 155 Ak5=true
 k254:Ar M 254 Qg=true
theorem MG {M:Seat} (ok:OkHv M) (pres:List (Dg × Pr)) (l:List (Nat→BitVec 64)) :
 Ae M 155 [.ptr 0 [],W 0#64] (hB pres l) 13 (Q3 (Ag (UM (BV B0.f 13 0) B0.h [Cg B0.f 0#64] Pr.zero) .nili) (hB pres l) 13):=by
 have hR:=P3 ok.a.r 1
 have hP:=UE ok.o B0 pres 0
 rw [Amg] at hP
 dsimp only at hP
 have hpv:pvR B0 none [Cg B0.f 0#64] Pr.zero=Ag (UM (BV B0.f 13 0) B0.h [Cg B0.f 0#64] Pr.zero) .nili:=rfl
 rw [hpv] at hP
 unfold hB
 generalize BO.com=C1 at *
 generalize BV B0.f 13 0=R0 at *
 generalize [Cg B0.f 0#64]=L0 at *
 simp only [Mc.v,BO,mach] at hR
 simp only [Mc.v,Mc.h,B0,mach,UM,Hd.v,By] at hP
 refine Ab ok.k155 rfl fun x hx=>?_
 refine es 2000 ?_;(simp only [Ak5,Ajg,Av,B2,CN,Mc.v,B0,BO,C7,seval])
 refine Ji [0,1,2,3,4,5,6,7] [0,2,6] (hR) (by constructor <;> (try simp only [Av,B2,LY,seval]) <;> first | exact q1 | (intro j hj;rcases (show j=0 ∨ j=1 by omega) with rfl | rfl <;> simp only [Nat.one_ne_zero,C8,LY,seval])) ?_
 (simp only [Av,B2,Bw,B7,seval])
 repeat refine sd ?_
 have zz:=Bo @OU.eq_1 @Cn;refine Co [4,5,8,9,10] [4,5,8] (hP) ?_
 (simp only [Lbj,OU,seval])
 refine Aq.mk hx [0,1,2,3,4,5,6,7,8,9,10,11,12] [] (Ag (UM R0 B0.h L0 Pr.zero) .nili) _ 13 Am (by (simp only [Db,seval])) (by simp only [LV,BU,UM,Mc.h,B0,Hd.v,By,dg,Em,CB,seval]) ?_ ⟨rfl,rfl,rfl⟩
 simp only [KG,Ez,Bw,Ak,seval]
 intro j hj
 rcases (show j=0 ∨ j=1 by omega) with rfl | rfl <;> simp only [Nat.one_ne_zero,C8,LN,LP,V.ren,AM,A4,BL,BQ,seval,LY]
def hC (pres:List (Dg × Pr)) (l:List (Nat→BitVec 64)):Hp:=[(4,Av (.sl 6 [] 0 2 3) 1 (.map 7) (.map 5)),(5,DI l),(6,.ar 3 2 fun j=>if j=0 then B2 0#64 8 9 else B2 1#64 10 11),(7,KG BO.com),(8,B0.v),(9,CN 12 13 14),(10,BO.v),(11,CN 15 13 16),(12,Bv AF Pr.zero pres),(14,BW []),(15,Bv AF Pr.zero pres),(16,BW [])]
def vwV (n:Nat) (own:Int):V:=.st 5 (.fcons 0 (.ptr 0 []) (.fcons 1 (.ptr 4 []) (.fcons 2 (.sl 18 [] 0 n 42) (.fcons 3 (.sl 19 [] 0 n 1) (.fcons 4 (.int .i64 own) .fnil)))))
theorem T5 {M:Seat} (ok:OkHv M) (k359:Ar M 359 IV=true) (pres:List (Dg × Pr)) (l:List (Nat→BitVec 64)) (G:Gs) (hD:G.D=1) (hn:G.n=1) (hp:(G.c 0).pos=1#64) (hv:(G.c 0).val=BO.com) :
 Ae M 254 [.ptr 0 [],.ptr 4 []] (G.H ++ hC pres l) 17 (Q3 (Ag (.ptr 17 []) .nili) (G.H ++ hC pres l ++ [(17,vwV 1 0),(18,AJ 1 G.c),(19,.ar 1 1 fun _=>.bool true)]) 20):=by
 have hRu:=CW ok.g G.D G.l G.g G.s G.n
 have hLn:=Dw ok.g G.D G.l G.g G.s G.n
 have hC0:=B5 ok.g G.D G.l G.g G.s G.n G.c 0 Aa
 have hT:=Cd ok.g.t.s.v.g.p k359 (D:=1) (k:=0) (i:=0) Am Am Am
 rw [show pw 0 0=1#64 by decide,show BitVec.ofNat 64 (LI 1 0 0)=1#64 by decide] at hT
 have hA:=K7 ok.a pres l
 rw [hD,hn] at hRu hLn hC0
 unfold hC
 unfold hB at hA
 generalize BO.com=C1 at *
 simp only [Mc.v,B0,BO,mach,Av,B2,CN] at hA
 refine Ab ok.k254 rfl fun x hx=>?_
 refine es 2000 ?_;(simp only [Qg,Q6,Gs.H,hD,hn,AB,AH,Ah,AJ,Cl.v,AA,Be,AU,Av,B2,CN,Mc.v,B0,BO,C7,CH,seval])
 have z1:IntKind.i64.wrap 1=1:=rfl
 have zz:=EH @AB.eq_1 @AH.eq_1 @Ah.eq_1 @dg.eq_1;refine KI [0,1,2] [0] (hRu) ?_
 (simp only [AB,AH,Ah,AJ,Cl.v,AA,Be,AU,Av,B2,CN,LZ,seval])
 have zz:=EH @AB.eq_1 @AH.eq_1 @Ah.eq_1 @dg.eq_1;refine Co [0,1,2] [0] (hLn) ?_
 (simp only [AB,AH,Ah,AJ,Cl.v,AA,Be,AU,Av,B2,CN,LZ,seval])
 refine Aj ?_
 refine es 2000 ?_
 (simp only [AB,AH,Ah,AJ,Cl.v,AA,Be,AU,Av,B2,CN,LZ,seval])
 have zz:=Va @AB.eq_1 @AH.eq_1 @Ah.eq_1 @AJ.eq_1 @Cl.v.eq_1 @dg.eq_1;refine Co [0,1,2] [0,1] (hC0) ?_
 (simp only [BU,hp,hv,AB,AH,Ah,AJ,Cl.v,AA,Be,AU,Av,B2,CN,seval])
 refine Bh (hT) ?_
 (simp only [BU,AB,AH,Ah,AJ,Cl.v,AA,Be,AU,Av,B2,CN,seval])
 refine Ji [4,5,6,7,8,9,10,11,12,13,14,15,16] [4,5,6,7,8,9,10,11,12,14,15,16] (hA) (by constructor <;> (try simp only [KG,Ak,Ez,seval]) <;> first | exact q1 | (intro j hj;rcases (show j=0 ∨ j=1 by omega) with rfl | rfl <;> simp only [Nat.one_ne_zero,C8,LY,seval])) ?_
 (simp only [Cj,Bw,A5,A3,decide_true,z1,KG,Nat.testBit,List.map_nil,List.map_cons,CH,AB,AH,Ah,AJ,Cl.v,AA,Be,AU,Av,B2,CN,seval])
 repeat refine sd ?_
 refine Aj ?_
 refine es 2000 ?_
 (simp only [z1,AB,AH,Ah,AJ,Cl.v,AA,Be,AU,Av,B2,CN,LZ,seval])
 repeat refine sd ?_
 refine Aq.mk hx [0,1,2,3,4,5,6,7,8,9,10,11,12,13,14,15,16,497,1857,2017] [] (Ag (.ptr 17 []) .nili) _ 20 Am (by (simp only [Db,seval])) (by simp only [LV,BU,seval,LY]) ?_ ⟨rfl,rfl,rfl⟩
 simp only [vwV,KG,Ez,Bw,Ak,AB,AH,Ah,AJ,Cl.v,AA,Be,AU,Av,B2,CN,seval]
 refine ⟨fun j hj=>?_,fun j hj=>?_,fun j hj=>?_⟩
 ·rcases (show j=0 ∨ j=1 by omega) with rfl | rfl <;> simp only [Nat.one_ne_zero,C8,LN,LP,V.ren,AM,A4,BL,BQ,seval,LY]
 ·obtain rfl:j=0:=Aa
  simp only [if_true,hp,hv,LY,seval]
 ·rw [if_pos Aa]
def Gg {α:Type} (g:α→V) (d:α) (l:List (Dg × α)):V:=.fm l.length (fun j=>dg (l.getD j (Dg.zero,d)).1) (fun j=>g (l.getD j (Dg.zero,d)).2)
theorem SZ {α:Type} (H:Hp) (m z:List Nat) (g:α→V) (hg:∀ x,At H m z (g x) (g x)) (d:α) (l:List (Dg × α)):At H m z (Gg g d l) (Gg g d l) :=
 ⟨rfl,fun i _=>⟨(AN _ _ _ _ _).mpr rfl,hg _⟩⟩
theorem Tg {α:Type} (H:Hp) (m z:List Nat) (i:Nat) (g:α→V) (hg:∀ x,At H m z (g x) (g x)) (d:α) (l:List (Dg × α)) (h1:z.contains i=true) (h2:Af H i=true) (h3:hget H i=Bv g d l):At H m z (Gg g d l) (.map i):=by
 unfold Gg
 simp only [At]
 refine ⟨?_,?_⟩
 ·unfold Qh
  rw [h1,h2,h3];rfl
 ·rw [h3]
  exact ⟨rfl,fun i _=>⟨(AN _ _ _ _ _).mpr rfl,hg _⟩⟩
theorem SR {α:Type} (m:List Nat) (g:α→V) (hg:∀ x,(g x).ren m=g x) (d:α) (l:List (Dg × α)):(Gg g d l).ren m=Gg g d l:=by
 simp only [Gg,V.ren]
 congr 1
 funext j;exact hg _
theorem BZ (H:Hp) (m z:List Nat) (l:List (Dg × Pr)):At H m z (Gg AF Pr.zero l) (Gg AF Pr.zero l)=True:=eq_true (SZ H m z AF (fun _=>(Er _ _ _ _ _).mpr rfl) Pr.zero l)
theorem CR (H:Hp) (m z:List Nat) (l:List (Dg × Bool)):At H m z (Gg V.bool false l) (Gg V.bool false l)=True:=eq_true (SZ H m z V.bool (fun _=>rfl) false l)
theorem O3 (m:List Nat) (l:List (Dg × Pr)):(Gg AF Pr.zero l).ren m=Gg AF Pr.zero l:=SR m AF (fun _=>rfl) Pr.zero l
theorem So (m:List Nat) (l:List (Dg × Bool)):(Gg V.bool false l).ren m=Gg V.bool false l:=SR m V.bool (fun _=>rfl) false l
theorem Tt (H:Hp) (m z:List Nat) (l:List (Dg × Pr)):Bl H m z (Gg AF Pr.zero l) (Gg AF Pr.zero l)=True:=BZ H m z l
theorem Bd {α:Type} (g:α→V) (d:α) (l:List (Dg × α)):(Gg g d l).solid=true:=rfl
theorem Bp {α:Type} (g:α→V) (d:α) (l:List (Dg × α)):(Gg g d l).size=1:=rfl
theorem BH {α:Type} (g:α→V) (d:α) (l:List (Dg × α)):(Gg g d l).isAgg=false:=rfl
theorem Ad8 (c:Bool) (l:List (Dg × Pr)):AL c (.nils 1) (Gg AF Pr.zero l) .nilm=True:=by simp [AL,Gg]
theorem Afy (l:List (Dg × Pr)):AP (.nils 1) (Gg AF Pr.zero l) .nilm=false:=rfl
theorem VV (t n:Nat) (l:List (Dg × Pr)) (H:Hp):ZT (.ifc t (Gg AF Pr.zero l)) n H=⟨True,.ifc t (.map n),(n,Bv AF Pr.zero l) :: H⟩:=rfl
theorem S8 {α:Type} (g:α→V) (d:α) (l:List (Dg × α)):Gw (Gg g d l)=True:=by simp [Gw,Gg,V.solid]
theorem Sl {α:Type} (g:α→V) (d:α) (l:List (Dg × α)) (i:Nat) (r:V):IP (Gg g d l) i r = .fcons i (Gg g d l) r:=rfl
def FK (pres:List (Dg × Pr)) (K:Nat) (sl:List (Dg × Bool)) (n:Nat) (q:Nat→Dg):V:=.st 4 (.fcons 0 (Gg AF Pr.zero pres) (.fcons 1 (.ptr K []) (.fcons 2 (Gg V.bool false sl) (.fcons 3 (.lst 32 n fun i=>dg (q i)) .fnil))))
theorem IR {M:Seat} (ok:OkPr M) (l:List (Dg × Pr)) :
 Ae M 276 [Gg AF Pr.zero l] [] 0 (Q3 (.map 0) [(0,Bv AF Pr.zero l)] 1):=by
 refine Ab ok.k276 rfl fun x hx=>?_
 refine es 2000 ?_;(simp only [Ae5,Aii,Ad8,Afy,VV,Bd,Bp,BH,S8,Sl,LZ,seval])
 have zz:=@Cn;exact Bu hx [80] ⟨rfl,rfl,rfl⟩
theorem NT {M:Seat} (ok:OkPr M) (pres:List (Dg × Pr)) (sl:List (Dg × Bool)) (n:Nat) (q:Nat→Dg) :
 Ae M 167 [.imm (FK pres 0 sl n q)] [] 1
  (Q3 (.ptr 1 []) [(1,.st 4 (.fcons 0 (.map 2) (.fcons 1 (.ptr 0 []) (.fcons 2 (.map 3) (.fcons 3 .nils .fnil))))),(2,Bv AF Pr.zero pres),(3,BW [])] 4):=by
 refine Ab ok.k167 rfl fun x hx=>?_
 refine es 2000 ?_;(simp only [Afu,Ahc,FK,Bd,Bp,BH,S8,Sl,LZ,seval])
 have zz:=CX @Tt @BZ @Cn;refine ofY (IR ok pres) ?_
 (simp only [B7,seval])
 have zz:=Bo @BW.eq_1 @Cn;exact Bu hx [0,225,321,193] ⟨rfl,rfl,rfl⟩
theorem J8 {M:Seat} (ok:OkHo M) (f g:Nat→BitVec 64) (pc:BitVec 64) (hl:Bool) (xt:BitVec 64) (n:Nat) (d:Int) (l:List (Nat→BitVec 64)) :
 Ae M 274 [.ptr 0 [],.imm (mach f g pc hl xt)] [(0,Av (.sl 2 [] 0 n 3) d (.map 3) (.map 1)),(1,DI l)] 4 (Q3 (Ag (dg (BX (BV f 13 0) (Ea g pc hl xt))) .nili) [(0,Av (.sl 2 [] 0 n 3) d (.map 3) (.map 1)),(1,DI (oK f l 256))] 4):=by
 have hP:=fun i=>Mn ok.p (TM f i) n d (oK f l i)
 have hR:=Ge ok.p.m 8 Am (rtL f) (by rw [FN];decide)
 rw [Je f 8 0 Am] at hR
 have hH:=E7 ok.d f g pc hl xt
 have hJ:=Mk ok.p.m ok.d (BV f (5 + 8) 0) g pc hl xt
 simp only [mach,By] at hH hJ
 refine Ab ok.k274 rfl fun x hx=>?_
 refine es 2000 ?_;(simp only [Aeu,Ac9,Av,C7,seval])
 have w32:IntKind.i64.wrap 32=32:=rfl
 have hP0:=hP 0
 have e00:∀ j,TM f 0 j=f (0 + j):=fun j=>by rw [TM,Nat.mul_zero]
 refine Aj ?_
 refine es 2000 ?_
 (simp only [w32,Av,C7,seval])
 repeat refine sd ?_
 have zz:=W7 @Av.eq_1 @Gx.eq_1 @TM.eq_1 @oK.eq_1 @oK.eq_2 Nat.mul_zero @Nat.zero_add @Ak;refine Co [0,1,2,3] [0,1] (hP0) ?_
 (simp only [Av,A5,w32,B7,seval])
 repeat refine sd ?_
 refine An (σ:=Nat) (fun i=>1≤i∧i≤256) (fun i=>fr 44 [(0,.ptr 0 []),(1,.imm (mach f g pc hl xt)),(4,.ptr 4 []),(5,.nili),(6,.sl 5 [] 0 i 32),(7,.int .i64 ((32 * i:Nat):Int))])
  (fun i=>[(0,Av (.sl 2 [] 0 n 3) d (.map 3) (.map 1)),(1,DI (oK f l i)),(4,dg Dg.zero),(5,.ar 32 i fun j=>dg (BV f 5 j))]) (fun _=>6) (fun i=>256 - i) 1 ⟨by omega,by omega⟩ ?_ ?_
 ·refine Ao.fr [0,1,2,3,4,308] [] hx AX Am ?_ ?_
  ·simp only [mach,Nat.mul_one,seval,Int.cast_ofNat_Int,LY,reduceCtorEq]
  ·simp only [Av,oK,Ak,mach,Jk f 0 Am,dg,Dg.at_zero,LY,seval]
   intro j hj
   obtain rfl:j=0:=Aa
   simp only [if_true,LY,seval]
 ·rintro i ⟨h1,hi⟩
  refine es 2000 ?_
  by_cases h256:i=256
  ·subst h256
   have d0:(((32 * 256:Nat):Int) < 8192)=False:=eq_false Aa
   (simp only [d0,Av,C7,seval])
   refine cpK (hR) (by (try simp only [row,FN,Iu,dg,LY,seval]) <;> first | exact q1 | (intro j hj q _;rw [RF f j hj])) (by simp only [row,FN,Iu,dg,LX]) ?_
   (simp only [BU,Av,mach,seval])
   have zz:=EX @dg.eq_1 @A7.eq_1 @A7.eq_2 @A7.eq_3 @A7.eq_4 @A7.eq_5 @A7.eq_6 @A7.eq_7 @A7.eq_8 @A7.eq_9 @A7.eq_10 @A7.eq_11;refine DJ (hH) ?_
   (simp only [BU,Av,mach,seval])
   have zz:=@dg.eq_1;refine DJ (hJ) ?_
   (simp only [Av,C7,seval])
   have zz:=EH @Av.eq_1 @Ak @dg.eq_1 @Ag.eq_1;exact Bu hx [0,1,2,3] ⟨rfl,rfl,rfl⟩
  ·have d0:(((32 * i:Nat):Int) < 8192)=True:=eq_true Aa
   have d1:(0≤((32 * i:Nat):Int))=True:=eq_true Aa
   have w3:IntKind.i64.wrap (((32 * i:Nat):Int) + 32)=((32 * (i + 1):Nat):Int):=Br
   have hPi:=hP i
   (simp only [d0,d1,w3,Av,C7,seval])
   repeat refine sd ?_
   have zz:=EH @Av.eq_1 @Gx.eq_1 @TM.eq_1 @Ak;refine Co [0,1,2,3] [0,1] (hPi) ?_
   (simp only [w3,Av,A5,B7,seval])
   repeat refine sd ?_
   refine ⟨i + 1,by omega,by omega,by omega,?_⟩
   refine Ao.fr [0,1,2,3,4,246] [] hx AX Am ?_ ?_
   ·simp only [mach,LY,seval]
   ·simp only [Av,oK,Ak,mach,Jk f i Aa,dg,LY,seval]
    intro j hj
    by_cases hji:j < i
    ·simp only [hji,if_true,LY,seval]
    ·obtain rfl:j=i:=Aa
     simp only [Nat.lt_irrefl,Nat.sub_self,C8,LY,seval]
structure Pt where
 a:BitVec 64
 m:Mc
 p:List (Dg × Pr)
 sl:List (Dg × Bool)
 n:Nat
 q:Nat→Dg
def Cm (K:Nat) (P:Pt):V:=.st 3 (.fcons 0 (W P.a) (.fcons 1 (.imm (mach P.m.f P.m.g P.m.pc P.m.hl P.m.xt)) (.fcons 2 (.imm (FK P.p K P.sl P.n P.q)) .fnil)))
theorem Jb (K K':Nat) (m:List Nat) (h:m[K]?=some K') (P:Pt):(Cm K P).ren m=Cm K' P:=by
 simp only [Cm,FK,V.ren,h,O3,So,BC,W,dg,B]
theorem Dy (H:Hp) (m z:List Nat) (K K':Nat) (h:m[K]?=some K') (P:Pt):At H m z (Cm K P) (Cm K' P):=by
 simp only [Cm,FK,At,h,BZ,CR,FC,W,and_self,N9]
 exact fun i _=>(AN _ _ _ _ _).mpr rfl
theorem Mf (K:Nat) (P:Pt):(Cm K P).solid=true:=rfl
theorem Oy (K:Nat) (P:Pt):(Cm K P).size=3:=rfl
theorem SH (K:Nat) (P:Pt):(Cm K P).isAgg=true:=rfl
def bi (ps:Nat→Pt) (s:BitVec 64):Nat→Nat
 | 0=>0
 | i + 1=>if (ps i).a≤s∧(ps (bi ps s i)).a < (ps i).a then i else bi ps s i
theorem Acn (ps:Nat→Pt) (s:BitVec 64) (n:Nat) (hn:0 < n):∀ i,i≤n→bi ps s i < n
 | 0,_=>hn
 | i + 1, h => by
   rw [bi]
   split
   ·omega
   ·exact Acn ps s n hn i Aa
theorem Xt (ps:Nat→Pt) (s:BitVec 64) (h0:(ps 0).a≤s):∀ i,(ps (bi ps s i)).a≤s
 | 0=>h0
 | i + 1 => by
   rw [bi]
   split
   ·rename_i h;exact h.1
   ·exact Xt ps s h0 i
def tH (n:Nat) (ps:Nat→Pt) (d:Int) (w:WS):Hp:=[(0,Av (.sl 2 [] 0 n 3) d (.map 3) (.map 1)),(2,.ar 3 n fun j=>Cm 4 (ps j)),(4,Aw 5 w.a w.b w.met),(5,Bv AF Pr.zero w.ever)]
structure OkRc (M:Seat):Prop where
 o:OkHo M
 t:OkT M
 p:OkPr M
 k275:Ar M 275 O4=true
theorem I4 {M:Seat} (ok:OkRc M) (n:Nat) (hn:0 < n) (hn2:n < 32) (ps:Nat→Pt) (d:Int) (w:WS) (s:BitVec 64) (h:(ps (bi ps s n)).a=s ∨ (ps (bi ps s n)).m.hl=true) :
 Ae M 275 [.ptr 0 [],W s] (tH n ps d w) 6 (Q3 (Cm 4 (ps (bi ps s n))) (tH n ps d w) 6):=by
 refine Ab ok.k275 rfl fun x hx=>?_
 unfold tH
 refine es 2000 ?_;(simp only [O4,Qr,Av,Aw,Mf,Oy,SH,LZ,seval])
 refine ⟨by omega,by omega,?_⟩
 refine An (σ:=Nat) (fun i=>i≤n) (fun i=>fr 95 [(0,.ptr 0 []),(1,W s),(4,.ptr 6 []),(5,.ptr 7 []),(20,.sl 2 [] 0 n 3),(21,.int .i64 n),(22,.int .i64 i)])
  (fun i=>[(0,Av (.sl 2 [] 0 n 3) d (.map 3) (.map 1)),(2,.ar 3 n fun j=>Cm 4 (ps j)),(4,Aw 5 w.a w.b w.met),(5,Bv AF Pr.zero w.ever),(6,.st 3 (.fcons 0 (W 0#64) (.fcons 1 .nilp (.fcons 2 .nilp .fnil)))),(7,Cm 4 (ps (bi ps s i)))]) (fun _=>8) (fun i=>n - i) 0 Aa ?_ ?_
 ·refine Ao.fr [0,1,2,3,4,5,6,118] [] hx AX Am ?_ ?_
  ·simp only [Int.natCast_zero,LY,seval]
  ·simp only [Av,Aw,CB,bi,seval]
   exact ⟨fun j _=>Dy _ _ _ 4 4 rfl _,Dy _ _ _ 4 4 rfl _⟩
 ·intro i hi
  refine es 2000 ?_
  by_cases hin:i=n
  ·subst hin
   have d0:((i:Int) < (i:Int))=False:=eq_false Aa
   generalize bi ps s i=b at *
   rcases h with h | h
   ·(simp only [d0,h,Av,Aw,Cm,FK,Bd,Bp,BH,LZ,seval])
    have zz:=W7 @Av.eq_1 @Aw.eq_1 @Cm.eq_1 @FK.eq_1 @Cn @BZ @CR @dg.eq_1;exact Bu hx [0,1,2,3,4,5] ⟨rfl,rfl,rfl⟩
   ·by_cases h2:(ps b).a=s
    ·(simp only [d0,h2,Av,Aw,Cm,FK,Bd,Bp,BH,LZ,seval])
     have zz:=W7 @Av.eq_1 @Aw.eq_1 @Cm.eq_1 @FK.eq_1 @Cn @BZ @CR @dg.eq_1;exact Bu hx [0,1,2,3,4,5] ⟨rfl,rfl,rfl⟩
    ·(simp only [d0,h2,h,C7,Av,Aw,Cm,FK,Bd,Bp,BH,seval])
     have zz:=Aoa @mach.eq_1 h @Av.eq_1 @Aw.eq_1 @Cm.eq_1 @FK.eq_1 @Cn @BZ @CR @dg.eq_1;exact Bu hx [0,1,2,3,4,5] ⟨rfl,rfl,rfl⟩
  ·have d0:((i:Int) < (n:Int))=True:=eq_true Aa
   have d1:(0≤(i:Int))=True:=eq_true Aa
   have w1:IntKind.i64.wrap ((i:Int) + 1)=((i + 1:Nat):Int):=Br
   by_cases c1:(ps i).a≤s
   ·by_cases c2:(ps (bi ps s i)).a < (ps i).a
    ·have e3:bi ps s (i + 1)=i:=by rw [bi,if_pos ⟨c1,c2⟩]
     (simp only [d0,d1,w1,c1,c2,Av,Aw,Cm,FK,Bd,Bp,BH,LZ,seval])
     refine ⟨by omega,i + 1,by omega,by omega,?_⟩
     refine Ao.fr [0,1,2,3,4,5,6,7] [] hx AX Am ?_ ?_
     ·simp only [LY,seval]
     ·simp only [Av,Aw,Cm,FK,e3,CB,BZ,CR,dg,seval]
    ·have e3:bi ps s (i + 1)=bi ps s i:=by rw [bi,if_neg (fun h=>c2 h.2)]
     (simp only [d0,d1,w1,c1,c2,Av,Aw,Cm,FK,Bd,Bp,BH,LZ,seval])
     refine ⟨by omega,i + 1,by omega,by omega,?_⟩
     refine Ao.fr [0,1,2,3,4,5,6,7] [] hx AX Am ?_ ?_
     ·simp only [LY,seval]
     ·simp only [Av,Aw,Cm,FK,e3,CB,BZ,CR,dg,seval]
   ·have e3:bi ps s (i + 1)=bi ps s i:=by rw [bi,if_neg (fun h=>c1 h.1)]
    (simp only [d0,d1,w1,c1,Av,Aw,Cm,FK,Bd,Bp,BH,LZ,seval])
    refine ⟨by omega,i + 1,by omega,by omega,?_⟩
    refine Ao.fr [0,1,2,3,4,5,6,7] [] hx AX Am ?_ ?_
    ·simp only [LY,seval]
    ·simp only [Av,Aw,Cm,FK,e3,CB,BZ,CR,dg,seval]
end Mv
