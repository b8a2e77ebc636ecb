/- A part. -/
import Derived.Test.YtlfkjfonpacelaaGreatDoorJH
set_option linter.all false
set_option maxRecDepth 20000
set_option maxHeartbeats 8000000
namespace Mv
open Go
def Abs:LC:=(sr [bX 10 3,
 mI 14 0,mn 15] (sr [mt 20 0,mt 21 1,kl 22 246 [(.t 20),(.t 21)],mt 19 22,ee 23 19 0,ee 24 19 1,A1 16 (.alloc zC),sb 42 16 23,mt 17 24] (.seq (sr [mt 25 17,A1 26 (.eq true true (.iface [74]) (.t 25) (.c .nili))] (.cond (.t 26) (sr [mt 27 17,
  mI 14 0,mt 15 27] .ret) .skip)) (sr [mt 29 0,mt 30 1,la 31 32 10,mt 32 4,mt 33 4,A1 34 (.build zC [(.f 0,1,(.t 30)),(.f 2,32,(.t 31)),(.f 34,1,(.t 32)),(.f 41,1,(.t 33))]),la 35 42 16,mt 36 2,mt 37 5,mt 38 6,kl 39 247 [(.t 29),(.t 34),(.t 35),(.t 36),(.t 37),(.t 38)],mt 28 39,ee 40 28 0,ee 41 28 1,mt 18 40,mt 17 41] (sr [mt 42 18,mt 43 1,mt 44 17,kl 45 248 [(.t 43),(.t 44)],mt 14 42,mt 15 45] .ret)))))
def Zs:LF:=⟨Abs,7,0,46,[.tmp 14,.tmp 15]⟩
def Adg:LC:=(sr [A1 4 (.alloc zC),mn 5] (.seq (.block 0 (sr [mt 7 0,A1 8 (.eq false true .ptr (.t 7) (.c .nilp)),mt 6 8] (.cond (.t 6) (sr [A1 9 (.build zC []),A1 10 (.mkif 74 (cI 1)),sb 42 4 9,mt 5 10] .ret) (sr [mt 12 1,aI 13 .lss 12 0,mt 14 13,mg 15 14 false 1,mg 16 14 false 0,A2 17 14 false (.nilc (.t 16)),A2 18 14 false (.fadr 36 (.t 17)),A2 19 14 false (.load false 1 (.t 18)),A2 20 14 false (.len 0 (.t 19)),A2 21 14 false (.ari .geq (.t 15) (.t 20)),
  CQ 22 14 21,mt 11 22] (.cond (.t 11) (sr [A1 23 (.build zC []),A1 24 (.mkif 74 (cI 4)),sb 42 4 23,mt 5 24] .ret) .skip))))) (sr [mt 25 0,nc 26 25,fa 27 36 26,lb 28 1 27,mt 29 1,ia 30 42 28 29,la 31 42 30,sb 42 4 31,mn 5] .ret)))
def Af4:LF:=⟨Adg,2,0,32,[.cell 4 true 42,.tmp 5]⟩
def Ase:LC:=(sr [bX 5 0,
 bX 8 3,A1 10 (.mv (.c .nilp)),mn 11] (.seq (.block 0 (sr [mt 16 1,A1 17 (.eq false true .ptr (.t 16) (.c .nilp)),mt 15 17] (.cond (.t 15) (sr [A1 18 (.mkif 74 (cI 1)),A1 10 (.mv (.c .nilp)),mt 11 18] .ret) (sr [fa 20 0 5,lb 21 1 20,aI 22 .lss 21 1,mt 23 22,A2 24 23 false (.fadr 0 (.t 5)),A2 25 23 false (.load false 1 (.t 24)),A2 26 23 false (.ari .gtr (.t 25) (cI 20)),
  CQ 27 23 26,mt 28 27,A2 29 28 false (.fadr 1 (.t 5)),A2 30 28 false (.load true 2 (.t 29)),⟨(some 31),.call 249 [(.t 30)],(some (28,false))⟩,A2 32 28 false (.eq true true (.iface [74]) (.t 31) (.c .nili)),
  CQ 33 28 32,mt 34 33,mg 35 34 false 4,A2 36 34 false (.ari .gtr (.t 35) (cU 1099511627776)),
  CQ 37 34 36,mt 19 37] (.cond (.t 19) (sr [A1 38 (.mkif 74 (cI 2)),A1 10 (.mv (.c .nilp)),mt 11 38] .ret) .skip))))) (sr [mt 40 1,mt 41 2,kl 42 120 [(cI 0)],kl 43 250 [(.t 40),(.t 41),(.t 42)],mt 39 43,ee 44 39 0,ee 45 39 1,mt 12 44,mt 13 45] (.seq (sr [mt 46 13,A1 47 (.eq true true (.iface [74]) (.t 46) (.c .nili))] (.cond (.t 47) (sr [mt 48 13,A1 10 (.mv (.c .nilp)),mt 11 48] .ret) .skip)) (sr [la 49 32 8,mt 50 2,mt 51 12,mt 52 4,A1 53 (.build zK [(.f 1,1,(.t 52))]),mt 54 2,A1 55 (.build zC [(.f 0,1,(.c (.int .i64 (-1)))),(.f 1,1,(cU 1)),(.f 2,32,(.t 49)),(.f 34,1,(.t 50)),(.f 35,1,(.t 51)),(.f 36,2,(.t 53)),(.f 41,1,(.t 54))]),A1 14 (.alloc zC),sb 42 14 55] (sr [la 56 35 5,mt 57 1,la 58 42 14,A1 59 (.bsl 42 1 zC [(.i 42 0,42,(.t 58))]),A1 60 (.build (.st (.cons (.st (.cons zI (.cons zK (.cons zD .nil)))) (.cons .ptr (.cons .slice .nil)))) [(.f 0,35,(.t 56)),(.f 35,1,(.t 57)),(.f 36,1,(.t 59))]),
  bX 61 60,mt 10 61,mn 11] .ret))))))
def Asl:LF:=⟨Ase,5,0,62,[.tmp 10,.tmp 11]⟩
def Y0:LC:=(sr [bX 9 3,mn 12] (sr [mt 16 0,mt 17 1,kl 18 246 [(.t 16),(.t 17)],mt 15 18,ee 19 15 0,ee 20 15 1,A1 13 (.alloc zC),sb 42 13 19,mt 14 20] (.seq (sr [mt 21 14,A1 22 (.eq true true (.iface [74]) (.t 21) (.c .nili))] (.cond (.t 22) (sr [mt 23 14,mt 12 23] .ret) .skip)) (.seq (sr [mt 24 0,mt 25 1,la 26 42 13,mt 27 2,la 28 116 9,mt 29 4,mt 30 5,kl 31 251 [(.t 24),(.t 25),(.t 26),(.t 27),(.t 28),(.t 29),(.t 30)],mt 14 31] (sr [mt 32 14,A1 33 (.eq true true (.iface [74]) (.t 32) (.c .nili))] (.cond (.t 33) (sr [mt 34 1,mt 35 14,kl 36 248 [(.t 34),(.t 35)],mt 12 36] .ret) .skip))) (.seq (.regd [⟨0,0,mt 37 0⟩,⟨1,1,nc 38 37⟩,⟨2,3,fa 39 36 38⟩,⟨3,7,lb 40 1 39⟩,⟨4,0,mt 41 1⟩,⟨5,0,mt 42 0⟩,⟨6,32,nc 43 42⟩,⟨7,96,fa 44 36 43⟩,⟨8,224,lb 45 1 44⟩,⟨11,511,ia 48 42 40 41⟩,⟨12,1023,fa 49 38 48⟩,⟨13,2047,A0 (.store 1 (.t 49) (.c (.bool true)))⟩,⟨9,0,mt 46 1⟩,⟨10,0,mt 47 4⟩,⟨14,16383,ia 50 42 45 46⟩,⟨15,32767,fa 51 41 50⟩,⟨16,65535,sb 1 51 47⟩]) (sr [mn 12] .ret))))))
def Zv:LF:=⟨Y0,6,0,52,[.tmp 12]⟩
def Aop:LC:=(sr [mn 6] (.seq (sr [mt 7 0,A1 8 (.eq false true .ptr (.t 7) (.c .nilp))] (.cond (.t 8) (sr [A1 9 (.mkif 74 (cI 1)),mt 6 9] .ret) .skip)) (sr [mt 10 1,mt 11 0,mt 12 1,mt 13 2,kl 14 252 [(.t 11),(.t 12),(.t 13)],kl 15 248 [(.t 10),(.t 14)],mt 6 15] .ret)))
def Aoe:LF:=⟨Aop,3,0,16,[.tmp 6]⟩
def As8:LC:=(sr [mI 2 0] (.seq (sr [mt 3 0,A1 4 (.eq false true .ptr (.t 3) (.c .nilp))] (.cond (.t 4) (sr [mI 2 0] .ret) .skip)) (sr [mt 5 0,nc 6 5,fa 7 36 6,lb 8 1 7,
  lN 9 0 8,mt 2 9] .ret)))
def Arg:LF:=⟨As8,1,0,10,[.tmp 2]⟩
def Aua:LC:=(sr [A1 2 (.alloc (.st (.cons zI (.cons zK (.cons zD .nil)))))] (.seq (sr [mt 3 0,A1 4 (.eq false true .ptr (.t 3) (.c .nilp))] (.cond (.t 4) (sr [A1 5 (.build (.st (.cons zI (.cons zK (.cons zD .nil)))) []),sb 35 2 5] .ret) .skip)) (sr [mt 6 0,nc 7 6,fa 8 0 7,la 9 35 8,sb 35 2 9] .ret)))
def Ao2:LF:=⟨Aua,1,0,10,[.cell 2 true 35]⟩
def Atz:LC:=(sr [mU 2 0] (.seq (sr [mt 3 0,aI 4 .lss 3 0] (.cond (.t 4) (sr [mU 2 0] .ret) .skip)) (sr [mt 5 0,
  DL 6 .u64 5,
  aU 7 .add 6 1,mt 2 7] .ret)))
def Api:LF:=⟨Atz,1,0,8,[.tmp 2]⟩
def Aod:LC:=(sr [mI 2 0,
 mU 3 0,mn 4] (.seq (sr [mt 6 0,
  aU 7 .eql 6 0,mt 8 7,mg 9 8 false 0,A2 10 8 false (.ari .geq (.t 9) (cU 33554432)),
  CQ 11 8 10] (.cond (.t 11) (sr [A1 12 (.mkif 74 (cI 2)),
  mI 2 0,
  mU 3 0,mt 4 12] .ret) .skip)) (sr [mt 13 0,kl 14 259 [(.t 13)],aI 15 .sub 14 1,mt 5 15] (.seq (.regd [⟨0,0,mt 16 5⟩,⟨1,0,mt 17 0⟩,⟨2,0,mt 18 5⟩,⟨3,4,aV 19 .shl 1 18⟩,⟨4,14,ak 20 .sub 17 19⟩,⟨5,1,mt 2 16⟩,⟨6,63,mt 3 20⟩,⟨7,127,mn 4⟩]) .ret))))
def Ak6:LF:=⟨Aod,1,0,21,[.tmp 2,.tmp 3,.tmp 4]⟩
def Aty:LC:=(sr [mU 2 0,mn 3] (sr [mt 8 0,kl 9 130 [(.t 8)],mt 7 9,ee 10 7 0,ee 11 7 1,ee 12 7 2,mt 4 10,mt 5 11,mt 6 12] (.seq (sr [mt 13 6,A1 14 (.eq true true (.iface [74]) (.t 13) (.c .nili))] (.cond (.t 14) (sr [mt 15 6,
  mU 2 0,mt 3 15] .ret) .skip)) (sr [mt 16 4,aI 17 .add 16 1,mt 18 5,
  aV 19 .mul 2 18,kl 20 260 [(.t 17),(.t 19)],ee 21 20 0,ee 22 20 1,mt 2 21,mt 3 22] .ret))))
def Atm:LF:=⟨Aty,1,0,23,[.tmp 2,.tmp 3]⟩
def Akb:LC:=(sr [mU 2 0,mn 3] (sr [mt 8 0,kl 9 130 [(.t 8)],mt 7 9,ee 10 7 0,ee 11 7 1,ee 12 7 2,mt 4 10,mt 5 11,mt 6 12] (.seq (.block 0 (sr [mt 14 6,A1 15 (.eq true true (.iface [74]) (.t 14) (.c .nili)),mt 13 15] (.cond (.t 13) (sr [mt 16 6,
  mU 2 0,mt 3 16] .ret) (sr [mt 18 4,aI 19 .eql 18 24,mt 17 19] (.cond (.t 17) (sr [A1 20 (.mkif 74 (cI 2)),
  mU 2 0,mt 3 20] .ret) (sr [mt 22 5,mt 23 4,
  aV 24 .shl 1 23,
  aU 25 .sub 24 1,ak 26 .eql 22 25,mt 21 26] (.cond (.t 21) (sr [A1 27 (.mkif 74 (cI 45)),
  mU 2 0,mt 3 27] .ret) .skip))))))) (sr [mt 28 4,aI 29 .add 28 1,mt 30 5,
  aV 31 .mul 2 30,
  aU 32 .add 31 2,kl 33 260 [(.t 29),(.t 32)],ee 34 33 0,ee 35 33 1,mt 2 34,mt 3 35] .ret))))
def Amm:LF:=⟨Akb,1,0,36,[.tmp 2,.tmp 3]⟩
def Arv:LC:=(sr [A1 0 (.mv (.c .nilp))] (sr [A1 1 (.build (.st (.cons (.ar 8 zU) (.cons zU (.cons zU (.cons .slice (.cons zU .nil)))))) []),
  bX 2 1,mt 0 2] .ret))
def Aqq:LF:=⟨Arv,0,0,3,[.tmp 0]⟩
def As3:LC:=(sr [mn 6] (.seq (sr [mt 8 0,mt 9 1,kl 10 258 [(.t 8),(.t 9)],mt 7 10] (sr [mt 11 7,A1 12 (.eq true true (.iface [74]) (.t 11) (.c .nili))] (.cond (.t 12) (sr [mt 13 7,mt 6 13] .ret) .skip))) (.seq (sr [mt 14 2,
  aU 15 .gtr 14 281474976710656,mt 16 15,mg 17 16 false 0,A2 18 16 false (.nilc (.t 17)),A2 19 16 false (.fadr 8 (.t 18)),A2 20 16 false (.load false 1 (.t 19)),mg 21 16 false 2,A2 22 16 false (.ari .add (.t 20) (.t 21)),A2 23 16 false (.ari .gtr (.t 22) (cU 281474976710656)),
  CQ 24 16 23] (.cond (.t 24) (sr [A1 25 (.mkif 74 (cI 2)),mt 6 25] .ret) .skip)) (sr [mt 26 0,nc 27 26,fa 28 8 27,lb 29 1 28,mt 30 2,ak 31 .add 29 30,nc 32 26,fa 33 8 32,sb 1 33 31] (.seq (.regd [⟨0,0,mt 34 0⟩,⟨1,0,mt 35 1⟩,⟨2,1,nc 36 34⟩,⟨3,5,fa 37 0 36⟩,⟨4,15,ib 38 8 1 37 35⟩,⟨5,31,lb 39 1 38⟩,⟨6,0,mt 40 2⟩,⟨7,127,ak 41 .add 39 40⟩,⟨8,1,nc 42 34⟩,⟨9,257,fa 43 0 42⟩,⟨10,1023,ib 44 8 1 43 35⟩,⟨11,2047,sb 1 44 41⟩]) (sr [mn 6] .ret))))))
def Atn:LF:=⟨As3,3,0,45,[.tmp 6]⟩
def XX:LC:=(sr [A1 4 (.alloc zC),mn 5] (.seq (.block 0 (sr [mt 7 0,A1 8 (.eq false true .ptr (.t 7) (.c .nilp)),mt 6 8] (.cond (.t 6) (sr [A1 9 (.build zC []),A1 10 (.mkif 74 (cI 1)),sb 42 4 9,mt 5 10] .ret) (sr [mt 12 1,aI 13 .lss 12 0,mt 14 13,mg 15 14 false 1,mg 16 14 false 0,A2 17 14 false (.nilc (.t 16)),A2 18 14 false (.fadr 36 (.t 17)),A2 19 14 false (.load false 1 (.t 18)),A2 20 14 false (.len 0 (.t 19)),A2 21 14 false (.ari .geq (.t 15) (.t 20)),
  CQ 22 14 21,mt 11 22] (.cond (.t 11) (sr [A1 23 (.build zC []),mt 24 1,A1 25 (.mkif 74 (cI 4)),kl 26 248 [(.t 24),(.t 25)],sb 42 4 23,mt 5 26] .ret) (sr [mt 28 0,nc 29 28,fa 30 36 29,lb 31 1 30,mt 32 1,ia 33 42 31 32,fa 34 39 33,lb 35 1 34,mt 27 35] (.cond (.t 27) (sr [A1 36 (.build zC []),mt 37 1,A1 38 (.mkif 74 (cI 43)),kl 39 248 [(.t 37),(.t 38)],sb 42 4 36,mt 5 39] .ret) .skip))))))) (sr [mt 40 0,nc 41 40,fa 42 36 41,lb 43 1 42,mt 44 1,ia 45 42 43 44,la 46 42 45,sb 42 4 46,mn 5] .ret)))
def YM:LF:=⟨XX,2,0,47,[.cell 4 true 42,.tmp 5]⟩
def Y5:LC:=(sr [bX 7 1,
 bX 8 2,
 mI 12 0,mn 13] (sr [mt 18 0,la 19 42 8,mt 20 3,kl 21 350 [(.t 18),(.t 19),(.t 20)],mt 17 21,ee 22 17 0,ee 23 17 1,ee 24 17 2,A1 14 (.alloc zU),sb 1 14 22,mt 15 23,mt 16 24] (.seq (.block 0 (sr [mt 26 16,A1 27 (.eq true true (.iface [74]) (.t 26) (.c .nili)),mt 25 27] (.cond (.t 25) (sr [mt 28 16,
  mI 12 0,mt 13 28] .ret) (sr [mt 30 4,mt 31 15,kl 32 120 [(.t 31)],ak 33 .neq 30 32,mt 29 33] (.cond (.t 29) (sr [A1 34 (.mkif 74 (cI 40)),
  mI 12 0,mt 13 34] .ret) .skip))))) (sr [lb 35 1 14,fa 36 1 7,sb 1 36 35] (.seq (sr [mt 37 0,nc 38 37,fa 39 36 38,lb 40 1 39,A1 41 (.mkfn 352 [(.t 7),(.t 14)]),kl 42 351 [(.t 40),(.t 41)]] (.cond (.t 42) (sr [A1 43 (.mkif 74 (cI 41)),
  mI 12 0,mt 13 43] .ret) .skip)) (.seq (.seq (.regd [⟨7,0,mt 52 0⟩,⟨8,0,la 53 42 8⟩,⟨9,3,kl 54 354 [(.t 52),(.t 53)]⟩,⟨0,0,mt 45 0⟩,⟨1,8,nc 46 45⟩,⟨2,24,fa 47 0 46⟩,⟨3,56,fa 48 1 47⟩,⟨4,120,la 49 2 48⟩,⟨5,0,fa 50 36 8⟩,⟨6,256,la 51 2 50⟩,⟨10,0,mt 55 5⟩,⟨11,2047,kl 56 353 [(.t 49),(.t 51),(.t 54),(.t 55)]⟩,⟨12,4095,mt 44 56⟩,⟨13,8191,ee 57 44 0⟩,⟨15,16383,fa 59 36 7⟩,⟨16,32767,sb 2 59 57⟩,⟨14,8191,ee 58 44 1⟩,⟨17,131071,mt 16 58⟩]) (sr [mt 60 16,A1 61 (.eq true true (.iface [74]) (.t 60) (.c .nili))] (.cond (.t 61) (sr [mt 62 16,
  mI 12 0,mt 13 62] .ret) .skip))) (.seq (sr [mt 63 0,nc 64 63,fa 65 36 64,lb 66 1 65,
  lN 67 0 66,aI 68 .geq 67 64] (.cond (.t 68) (sr [A1 69 (.mkif 74 (cI 5)),
  mI 12 0,mt 13 69] .ret) .skip)) (.seq (.seq (.regd [⟨0,0,mt 71 0⟩,⟨1,1,nc 72 71⟩,⟨2,3,fa 73 35 72⟩,⟨3,7,lb 74 1 73⟩,⟨4,0,fa 75 34 7⟩,⟨5,16,lb 76 1 75⟩,⟨6,0,mt 77 4⟩,⟨7,127,kl 78 250 [(.t 74),(.t 76),(.t 77)]⟩,⟨8,255,mt 70 78⟩,⟨9,511,ee 79 70 0⟩,⟨11,1023,fa 81 35 7⟩,⟨12,2047,sb 1 81 79⟩,⟨10,511,ee 80 70 1⟩,⟨13,8191,mt 16 80⟩]) (sr [mt 82 16,A1 83 (.eq true true (.iface [74]) (.t 82) (.c .nili))] (.cond (.t 83) (sr [mt 84 16,
  mI 12 0,mt 13 84] .ret) .skip))) (.seq (.regd [⟨1,0,mt 86 0⟩,⟨2,1,nc 87 86⟩,⟨3,3,fa 88 36 87⟩,⟨4,7,lb 89 1 88⟩,⟨5,0,la 90 42 7⟩,⟨6,16,A1 91 (.bsl 42 1 zC [(.i 42 0,42,(.t 90))])⟩,⟨7,63,aP 92 42 96 89 91⟩,⟨0,0,mt 85 0⟩,⟨8,255,nc 93 85⟩,⟨9,511,fa 94 36 93⟩,⟨10,1023,sb 1 94 92⟩]) (sr [mt 95 0,nc 96 95,fa 97 36 96,lb 98 1 97,
  lN 99 0 98,aI 100 .sub 99 1,mt 12 100,mn 13] .ret))))))))))
def Ab8:LF:=⟨Y5,6,0,101,[.tmp 12,.tmp 13]⟩
def Ank:LC:=(sr [mn 4] (.seq (sr [mt 5 1,A1 6 (.eq false true (.iface [74]) (.t 5) (.c .nili))] (.cond (.t 6) (sr [mn 4] .ret) .skip)) (sr [mt 7 0,mt 8 1,A1 9 (.build (.st (.cons zI (.cons .iface .nil))) [(.f 0,1,(.t 7)),(.f 1,1,(.t 8))]),
  bX 10 9,A1 11 (.mkif 145 (.t 10)),mt 4 11] .ret)))
def Alh:LF:=⟨Ank,2,0,12,[.tmp 4]⟩
def Aue:LC:=(sr [bX 1 0,mn 2] (.seq (sr [fa 3 0 1,lb 4 1 3,
  aU 5 .lss 4 1,mt 6 5,A2 7 6 false (.fadr 0 (.t 1)),A2 8 6 false (.load false 1 (.t 7)),A2 9 6 false (.ari .gtr (.t 8) (cU 1099511627776)),
  CQ 10 6 9,mt 11 10,A2 12 11 false (.fadr 1 (.t 1)),A2 13 11 false (.load false 1 (.t 12)),A2 14 11 false (.fadr 0 (.t 1)),A2 15 11 false (.load false 1 (.t 14)),A2 16 11 false (.ari .gtr (.t 13) (.t 15)),
  CQ 17 11 16] (.cond (.t 17) (sr [A1 18 (.mkif 74 (cI 2)),mt 2 18] .ret) .skip)) (sr [mn 2] .ret)))
def Aqa:LF:=⟨Aue,1,0,19,[.tmp 2]⟩
def WA:LC:=(sr [mI 6 0,mn 7] (.seq (sr [mt 9 0,mt 10 1,mt 11 2,kl 12 355 [(.t 9),(.t 10),(.t 11)],mt 8 12] (sr [mt 13 8,A1 14 (.eq true true (.iface [74]) (.t 13) (.c .nili))] (.cond (.t 14) (sr [mt 15 8,
  mI 6 0,mt 7 15] .ret) .skip))) (.seq (sr [mt 16 0,nc 17 16,fa 18 10 17,lb 19 1 18,
  lN 20 0 19,aI 21 .geq 20 65536] (.cond (.t 21) (.seq (.regd [⟨0,0,mt 22 0⟩,⟨1,0,mt 23 1⟩,⟨2,1,nc 24 22⟩,⟨3,5,fa 25 0 24⟩,⟨4,15,ib 26 8 1 25 23⟩,⟨5,31,lb 27 1 26⟩,⟨6,0,mt 28 2⟩,⟨7,127,ak 29 .add 27 28⟩,⟨8,1,nc 30 22⟩,⟨9,257,fa 31 0 30⟩,⟨10,1023,ib 32 8 1 31 23⟩,⟨11,2047,sb 1 32 29⟩]) (sr [A1 33 (.mkif 74 (cI 5)),
  mI 6 0,mt 7 33] .ret)) .skip)) (sr [mt 34 0,mt 35 0,nc 36 35,fa 37 10 36,lb 38 1 37,mt 39 2,A1 40 (.build (.st (.cons zU (.cons .bool .nil))) [(.f 0,1,(.t 39))]),A1 41 (.bsl 2 1 (.st (.cons zU (.cons .bool .nil))) [(.i 2 0,2,(.t 40))]),
  aP 42 2 16 38 41,nc 43 34,fa 44 10 43,sb 1 44 42] (sr [mt 45 0,nc 46 45,fa 47 11 46,lb 48 1 47,mt 49 2,ak 50 .add 48 49,nc 51 45,fa 52 11 51,sb 1 52 50] (sr [mt 53 0,nc 54 53,fa 55 10 54,lb 56 1 55,
  lN 57 0 56,aI 58 .sub 57 1,mt 6 58,mn 7] .ret))))))
def Xb:LF:=⟨WA,3,0,59,[.tmp 6,.tmp 7]⟩
def Afd:LC:=(sr [mn 4] (.seq (.block 0 (sr [mt 6 0,A1 7 (.eq false true .ptr (.t 6) (.c .nilp)),mt 5 7] (.cond (.t 5) (sr [A1 8 (.mkif 74 (cI 1)),mt 4 8] .ret) (sr [mt 10 1,aI 11 .lss 10 0,mt 12 11,mg 13 12 false 1,A2 14 12 false (.ari .geq (.t 13) (cI 8)),
  CQ 15 12 14,mt 9 15] (.cond (.t 9) (sr [A1 16 (.mkif 74 (cI 2)),mt 4 16] .ret) .skip))))) (sr [mn 4] .ret)))
def Aeb:LF:=⟨Afd,2,0,17,[.tmp 4]⟩
def Atl:LC:=(sr [mU 4 0,mn 5] (.seq (sr [mt 6 0,aI 7 .lss 6 0,mt 8 7,mg 9 8 false 0,A2 10 8 false (.ari .gtr (.t 9) (cI 24)),
  CQ 11 8 10,mt 12 11,mg 13 12 false 1,mg 14 12 false 0,A2 15 12 false (.ari .shl (cU 1) (.t 14)),A2 16 12 false (.ari .geq (.t 13) (.t 15)),
  CQ 17 12 16] (.cond (.t 17) (sr [A1 18 (.mkif 74 (cI 2)),
  mU 4 0,mt 5 18] .ret) .skip)) (sr [mt 19 0,
  aV 20 .shl 1 19,mt 21 1,ak 22 .add 20 21,mt 4 22,mn 5] .ret)))
def Aqe:LF:=⟨Atl,2,0,23,[.tmp 4,.tmp 5]⟩
def Abk:LC:=(sr [bX 4 1,
 mU 6 0,
 mI 7 0,mn 8] (sr [fa 15 1 4,lb 16 1 15,kl 17 130 [(.t 16)],mt 14 17,ee 18 14 0,ee 19 14 1,ee 20 14 2,mt 9 18,mt 10 19,mt 11 20] (.seq (sr [mt 21 9,mt 22 0,nc 23 22,fa 24 0 23,fa 25 0 24,lb 26 1 25,ak 27 .geq 21 26] (.cond (.t 27) (sr [A1 28 (.mkif 74 (cI 45)),
  mU 6 0,
  mI 7 0,mt 8 28] .ret) .skip)) (sr [fa 30 1 4,lb 31 1 30,kl 32 131 [(.t 31)],mt 29 32,ee 33 29 0,ee 34 29 1,mt 12 33,mt 13 34] (.seq (sr [mt 35 2] (.cond (.t 35) (.reg [fa 37 1 4,lb 38 1 37,kl 39 132 [(.t 38)],mt 36 39,ee 40 36 0,ee 41 36 1,mt 12 40,mt 13 41]) .skip)) (sr [mt 42 12,mt 43 9,aI 44 .add 43 1,mt 45 13,mt 6 42,mt 7 44,mt 8 45] .ret))))))
def XP:LF:=⟨Abk,3,0,46,[.tmp 6,.tmp 7,.tmp 8]⟩
def Alt:LC:=(sr [A1 4 (.mv (.c (.bool false)))] (sr [mt 5 0,mt 6 1,kl 7 452 [(.t 5),(.t 6)],aI 8 .geq 7 0,mt 4 8] .ret))
def Am4:LF:=⟨Alt,2,0,9,[.tmp 4]⟩
def Abh:LC:=(sr [bX 3 0,A1 4 (.mv (.c (.bool false)))] (sr [fa 5 0 3,lb 6 1 5,fa 7 0 1,lb 8 1 7,ak 9 .eql 6 8,mt 10 9,A2 11 10 true (.fadr 1 (.t 3)),A2 12 10 true (.load false 1 (.t 11)),A2 13 10 true (.load false 1 (.t 2)),A2 14 10 true (.ari .eql (.t 12) (.t 13)),
  HR 15 10 14,mt 16 15,A2 17 16 true (.fadr 2 (.t 3)),A2 18 16 true (.load true 32 (.t 17)),A2 19 16 true (.fadr 2 (.t 1)),A2 20 16 true (.load true 32 (.t 19)),A2 21 16 true (.eq false false (.ar 32 1 false .int) (.t 18) (.t 20)),
  HR 22 16 21,mt 4 22] .ret))
def Aa7:LF:=⟨Abh,1,2,23,[.tmp 4]⟩
def Aej:LC:=(sr [bX 4 0,
 bX 5 1,A1 8 (.alloc zK),mn 9] (sr [la 13 2 4,la 14 2 5,mt 15 2,mt 16 3,kl 17 453 [(.t 13),(.t 14),(.t 15),(.t 16)],mt 12 17,ee 18 12 0,ee 19 12 1,mt 10 18,mt 11 19] (.seq (.block 0 (sr [mt 21 11,A1 22 (.eq true true (.iface [74]) (.t 21) (.c .nili)),mt 20 22] (.cond (.t 20) (sr [A1 23 (.build zK []),mt 24 11,sb 2 8 23,mt 9 24] .ret) (sr [mt 26 10,fa 27 0 4,lb 28 1 27,ak 29 .geq 26 28,mt 25 29] (.cond (.t 25) (sr [A1 30 (.build zK []),A1 31 (.mkif 74 (cI 42)),sb 2 8 30,mt 9 31] .ret) .skip))))) (sr [mt 32 10,fa 33 0 4,lb 34 1 33,fa 35 1 4,lb 36 1 35,ak 37 .sub 34 36,A1 38 (.mm false (.t 32) (.t 37)),mt 39 3,A1 40 (.build zK [(.f 0,1,(.t 38)),(.f 1,1,(.t 39))]),sb 2 8 40,mn 9] .ret))))
def Afm:LF:=⟨Aej,4,0,41,[.cell 8 true 2,.tmp 9]⟩
def Anp:LC:=(sr [bX 3 1,
 mU 4 0] (.seq (sr [fa 5 0 3,lb 6 1 5,aI 7 .lss 6 0] (.cond (.t 7) (sr [mU 4 0] .ret) .skip)) (.seq (.regd [⟨0,0,mt 8 0⟩,⟨1,1,nc 9 8⟩,⟨2,3,fa 10 36 9⟩,⟨3,7,lb 11 1 10⟩,⟨4,0,fa 12 0 3⟩,⟨5,16,lb 13 1 12⟩,⟨6,63,ia 14 42 11 13⟩,⟨7,127,fa 15 36 14⟩,⟨8,255,fa 16 0 15⟩,⟨9,511,lb 17 1 16⟩,⟨10,1023,mt 4 17⟩]) .ret)))
def Aj6:LF:=⟨Anp,2,0,18,[.tmp 4]⟩
def Ahl:LC:=(sr [mn 6] (.seq (sr [mt 8 0,mt 9 1,kl 10 258 [(.t 8),(.t 9)],mt 7 10] (sr [mt 11 7,A1 12 (.eq true true (.iface [74]) (.t 11) (.c .nili))] (.cond (.t 12) (sr [mt 13 7,mt 6 13] .ret) .skip))) (.seq (sr [mt 14 0,mt 15 1,nc 16 14,fa 17 0 16,ib 18 8 1 17 15,lb 19 1 18,mt 20 2,ak 21 .lss 19 20] (.cond (.t 21) (sr [A1 22 (.mkif 74 (cI 21)),mt 6 22] .ret) .skip)) (.seq (.regd [⟨0,0,mt 23 0⟩,⟨1,0,mt 24 1⟩,⟨2,1,nc 25 23⟩,⟨3,5,fa 26 0 25⟩,⟨4,15,ib 27 8 1 26 24⟩,⟨5,31,lb 28 1 27⟩,⟨6,0,mt 29 2⟩,⟨7,127,ak 30 .sub 28 29⟩,⟨8,1,nc 31 23⟩,⟨9,257,fa 32 0 31⟩,⟨10,1023,ib 33 8 1 32 24⟩,⟨11,2047,sb 1 33 30⟩]) (sr [mn 6] .ret)))))
def Adl:LF:=⟨Ahl,3,0,34,[.tmp 6]⟩
def Ai4:LC:=(sr [mI 4 0] (.seq (sr [mt 6 0,
  lN 7 0 6,
  mI 8 0] (.block 0 (.loop (sr [ak 9 .lss 8 7] (.seq (DJ 9 0) (.seq (.block 1 (sr [mt 10 8,mt 5 10] (sr [mt 11 1,mt 12 0,mt 13 5,ia 14 42 12 13,la 15 42 14,⟨(some 16),.dyn (.t 11) [(.t 15)],none⟩] (.cond (.t 16) (sr [mt 17 5,mt 4 17] .ret) .skip)))) (.reg [aI 18 .add 8 1,mt 8 18]))))))) (sr [A1 4 (.mv (.c (.int .i64 (-1))))] .ret)))
def Aof:LF:=⟨Ai4,2,0,19,[.tmp 4]⟩
def Aor:LC:=(sr [bX 4 0,
 bX 5 1,
 mU 8 0,mn 9] (.seq (sr [la 11 2 4,kl 12 249 [(.t 11)],mt 10 12] (sr [mt 13 10,A1 14 (.eq true true (.iface [74]) (.t 13) (.c .nili))] (.cond (.t 14) (sr [mt 15 10,
  mU 8 0,mt 9 15] .ret) .skip))) (sr [la 16 2 5,mt 17 2,mt 18 3,kl 19 487 [(.t 16),(.t 17),(.t 18)],ee 20 19 0,ee 21 19 1,mt 8 20,mt 9 21] .ret)))
def Amn:LF:=⟨Aor,4,0,22,[.tmp 8,.tmp 9]⟩
def Adz:LC:=(sr [bX 3 0,
 mU 6 0,mn 7] (.seq (sr [mt 8 2,fa 9 1 3,lb 10 1 9,ak 11 .lss 8 10,mt 12 11,A2 13 12 false (.fadr 0 (.t 3)),A2 14 12 false (.load false 1 (.t 13)),A2 15 12 false (.fadr 1 (.t 3)),A2 16 12 false (.load false 1 (.t 15)),mg 17 12 false 1,mg 18 12 false 2,A2 19 12 false (.mm4 true (.t 14) (.t 16) (.t 17) (.t 18)),A2 20 12 false (.ari .gtr (.t 19) (cU 1099511627776)),
  CQ 21 12 20] (.cond (.t 21) (sr [A1 22 (.mkif 74 (cI 2)),
  mU 6 0,mt 7 22] .ret) .skip)) (sr [mt 23 1,mt 24 2,ak 25 .add 23 24,fa 26 1 3,lb 27 1 26,ak 28 .sub 25 27,mt 6 28,mn 7] .ret)))
def Ahj:LF:=⟨Adz,3,0,29,[.tmp 6,.tmp 7]⟩
structure OkGN (M:Seat):Prop where
 k110:Ar M 110 Zs=true
 k111:Ar M 111 Af4=true
 k112:Ar M 112 Asl=true
 k114:Ar M 114 Zv=true
 k115:Ar M 115 Aoe=true
 k117:Ar M 117 Arg=true
 k119:Ar M 119 Ao2=true
 k120:Ar M 120 Api=true
 k246:Ar M 246 YM=true
structure Cl where
 par:Int
 pos:BitVec 64
 val:Dg
 pl:Int
 bond:Int
 us:BitVec 64
 at':BitVec 64
 st:Bool
 rs:Bool
 co:Bool
 by':Int
def Ad (u a:BitVec 64):V:=.st 2 (.fcons 0 (W u) (.fcons 1 (W a) .fnil))
def Cl.v (c:Cl):V:=.st 42 (.fcons 0 (.int .i64 c.par) (.fcons 1 (W c.pos) (.fcons 2 (dg c.val) (.fcons 34 (.int .i64 c.pl) (.fcons 35 (.int .i64 c.bond) (.fcons 36 (Ad c.us c.at') (.fcons 38 (.bool c.st) (.fcons 39 (.bool c.rs) (.fcons 40 (.bool c.co) (.fcons 41 (.int .i64 c.by') .fnil))))))))))
def Cl.zero:Cl:=⟨0,0#64,Dg.zero,0,0,0#64,0#64,false,false,false,0⟩
def Av (d:Int) (l g:BitVec 64) (s:Dg):V:=.st 35 (.fcons 0 (.int .i64 d) (.fcons 1 (Ad l g) (.fcons 3 (dg s) .fnil)))
abbrev er (n:Int):V:=.ifc 74 (.int .i64 n)
theorem Jw {M:Seat} (ok:OkGN M) (d:Int):Ae M 120 [.int .i64 d] [] 0 (Q3 (W (if d < 0 then 0#64 else BitVec.ofInt 64 d + 1#64)) [] 0):=by
 refine Ab ok.k120 rfl fun x hx=>?_;by_cases h:d < 0;all_goals
  simp only [h,B4];refine eX ?_;simp only [Api,Atz,h,LZ,seval];exact Ap.mkZ hx [] ⟨rfl,rfl,rfl⟩
def F5:V:=.st 116 (.fcons 0 (dg Dg.zero) (.fcons 32 (.st 19 (.fcons 0 (.ar 1 16 fun _=>W 0#64) (.fcons 16 (W 0#64) (.fcons 17 (.bool false) (.fcons 18 (W 0#64) .fnil))))) (.fcons 51 .nils (.fcons 52 (.ar 1 64 fun _=>B 0#8) .fnil))))
def b8:=@Cl.v.eq_1
def b9:=@Ad.eq_1
def c8:=@Av.eq_1
def k7:=@Cl.zero.eq_1
variable {M:Seat}
structure OkLd (M:Seat):Prop where
 k222:Ar M 222 Aqq=true
 k223:Ar M 223 Atn=true
 k250:Ar M 250 Xb=true
 k258:Ar M 258 Aeb=true
 k355:Ar M 355 Adl=true
def A6 (b:Nat→BitVec 64) (i o:BitVec 64) (bs:V) (k:BitVec 64):V:=.st 12 (.fcons 0 (.ar 1 8 fun j=>W (b j)) (.fcons 8 (W i) (.fcons 9 (W o) (.fcons 10 bs (.fcons 11 (W k) .fnil)))))
theorem PZ (ok:OkLd M):Ae M 222 [] [] 0 (Q3 (.ptr 0 []) [(0,A6 (fun _=>0#64) 0#64 0#64 .nils 0#64)] 1):=by
 refine Ab ok.k222 rfl fun x hx=>?_;refine eX ?_;simp only [Aqq,Arv,LZ,seval];refine Ap.mk hx [32] [] (.ptr 0 []) [(0,A6 (fun _=>0#64) 0#64 0#64 .nils 0#64)] 1 Al (by (simp only [Di,A6,seval])) (by simp only [LV,A6,LY,seval]) (by simp only [A6,LY,seval]) ⟨rfl,rfl,rfl⟩
theorem EH (ok:OkLd M) (p:Nat) (hp:p < 8):Ae M 258 [.ptr 0 [],.int .i64 p] [] 1 (Q3 .nili [] 1):=by
 refine Ab ok.k258 rfl fun x hx=>?_;have e0:((p:Int) < 0)=False:=eq_false Aa;have e1:((8:Int)≤(p:Int))=False:=eq_false Aa;refine eX ?_;simp only [Aeb,Afd,e0,e1,LZ,seval];exact Ap.mkZ hx [0] ⟨rfl,rfl,rfl⟩
theorem Uj (ok:OkLd M) (b:Nat→BitVec 64) (i o:BitVec 64) (k:BitVec 64) (p:Nat) (hp:p < 8) (v:BitVec 64) (h1:¬ 281474976710656#64 < v) (h2:¬ 281474976710656#64 < i + v) :
 Ae M 223 [.ptr 0 [],.int .i64 p,W v] [(0,A6 b i o .nils k)] 1 (Q3 .nili [(0,A6 (fun j=>if j=p then b p + v else b j) (i + v) o .nils k)] 1):=by
 refine Ab ok.k223 rfl fun x hx=>?_;have e0:((p:Int) < 0)=False:=eq_false Aa;have e1:((p:Int) < 8)=True:=eq_true Aa;have e2:(0≤(p:Int))=True:=eq_true Aa;refine eX ?_;simp only [Atn,As3,A6,LZ,seval];refine Nt [0] [] (EH ok p hp) (by constructor <;> (try simp only [LY,seval]) <;> exact q1) (by simp only [LX]) ?_;simp only [A6,h1,h2,e0,e1,e2,LZ,seval];repeat refine sd ?_
 refine Ap.mk hx [0] [] .nili [(0,A6 (fun j=>if j=p then b p + v else b j) (i + v) o .nils k)] 1 Al (by (simp only [Di,A6,seval])) (by simp only [LV,A6,LY,seval]) ?_ ⟨rfl,rfl,rfl⟩;simp only [A6,LY,seval];intro j hj;by_cases h:j=p <;> simp only [h,B4,LY,seval]
def AM (v:BitVec 64) (g:Bool):V:=.st 2 (.fcons 0 (W v) (.fcons 1 (.bool g) .fnil))
theorem Nq (ok:OkLd M) (b:Nat→BitVec 64) (i o:BitVec 64) (bs:V) (n:Nat) (hbs:(bs = .nils∧n=1) ∨ ∃ m,bs = .sl 1 [] 0 m 2∧n=2) (k:BitVec 64) (p:Nat) (hp:p < 8) (v:BitVec 64) (h1:¬ b p < v) :
 Ae M 355 [.ptr 0 [],.int .i64 p,W v] [(0,A6 b i o bs k)] n (Q3 .nili [(0,A6 (fun j=>if j=p then b p - v else b j) i o bs k)] n):=by
 refine Ab ok.k355 rfl fun x hx=>?_;have e0:((p:Int) < 0)=False:=eq_false Aa;have e1:((p:Int) < 8)=True:=eq_true Aa;have e2:(0≤(p:Int))=True:=eq_true Aa;rcases hbs with ⟨rfl,rfl⟩ | ⟨m,rfl,rfl⟩
 all_goals
  refine eX ?_;simp only [Adl,Ahl,A6,LZ,seval];refine Nt [0] [] (EH ok p hp) (by constructor <;> (try simp only [LY,seval]) <;> exact q1) (by simp only [LX]) ?_;simp only [A6,h1,e0,e1,e2,LZ,seval];repeat refine sd ?_
 ·refine Ap.mk hx [0] [] .nili [(0,A6 (fun j=>if j=p then b p - v else b j) i o .nils k)] 1 Al (by (simp only [Di,A6,seval])) (by simp only [LV,A6,LY,seval]) ?_ ⟨rfl,rfl,rfl⟩;simp only [A6,LY,seval];intro j hj;by_cases h:j=p <;> simp only [h,B4,LY,seval]
 ·refine Ap.mk hx [0,1] [] .nili [(0,A6 (fun j=>if j=p then b p - v else b j) i o (.sl 1 [] 0 m 2) k)] 2 Al (by (simp only [Di,A6,seval])) (by simp only [LV,A6,LY,seval]) ?_ ⟨rfl,rfl,rfl⟩;simp only [A6,LY,seval];intro j hj;by_cases h:j=p <;> simp only [h,B4,LY,seval]
theorem TB (ok:OkLd M) (b:Nat→BitVec 64) (i o:BitVec 64) (k:BitVec 64) (p:Nat) (hp:p < 8) (v:BitVec 64) (h1:¬ b p < v) :
 Ae M 250 [.ptr 0 [],.int .i64 p,W v] [(0,A6 b i o .nils k)] 1 (Q3 (Ai (.int .i64 0) .nili) [(0,A6 (fun j=>if j=p then b p - v else b j) i o (.sl 1 [] 0 1 2) (k + v)),(1,.ar 2 1 fun _=>AM v false)] 2):=by
 refine Ab ok.k250 rfl fun x hx=>?_;have z0:IntKind.i64.wrap 0=0:=rfl;refine eX ?_;simp only [Xb,WA,A6,LZ,seval];have zz:=@A6.eq_1;refine Z8 [0] [0] (Nq ok b i o .nils 1 (.inl ⟨rfl,rfl⟩) k p hp v h1) ?_;simp only [A6,z0,LZ,seval];refine Ap.mk hx [0,369] [] (Ai (.int .i64 0) .nili) [(0,A6 (fun j=>if j=p then b p - v else b j) i o (.sl 1 [] 0 1 2) (k + v)),(1,.ar 2 1 fun _=>AM v false)] 2 Al (by (simp only [Di,A6,seval])) (by simp only [LV,A6,Ai,LY,seval]) ?_ ⟨rfl,rfl,rfl⟩;simp only [A6,AM,LY,seval];intro j hj;obtain rfl:j=0:=Aa;simp only [if_true,LY,seval]
theorem Tl (ok:OkLd M) (b:Nat→BitVec 64) (i o:BitVec 64) (k:BitVec 64) (p:Nat) (hp:p < 8) (v:BitVec 64) (h1:¬ b p < v) (m:Nat) (hm:m < 1000) (f:Nat→V) (hf:∀ j,∃ u g,f j=AM u g) :
 Ae M 250 [.ptr 0 [],.int .i64 p,W v] [(0,A6 b i o (.sl 1 [] 0 m 2) k),(1,.ar 2 m f)] 2 (Q3 (Ai (.int .i64 m) .nili) [(0,A6 (fun j=>if j=p then b p - v else b j) i o (.sl 2 [] 0 (m + 1) 2) (k + v)),(2,.ar 2 (m + 1) fun j=>if j < m then f j else AM v false)] 3):=by
 refine Ab ok.k250 rfl fun x hx=>?_;have z0:IntKind.i64.wrap ((m + 1:Nat) - 1:Int)=(m:Int):=AW;have z1:((65536:Int)≤(m:Int))=False:=eq_false Aa;refine eX ?_;simp only [Xb,WA,A6,LZ,seval];have zz:=@A6.eq_1;refine Z8 [0,1] [0] (Nq ok b i o (.sl 1 [] 0 m 2) 2 (.inr ⟨m,rfl,rfl⟩) k p hp v h1) ?_;simp only [A6,z0,z1,LZ,seval];repeat refine sd ?_
 refine Ap.mk hx [0,1,370] [] (Ai (.int .i64 m) .nili) [(0,A6 (fun j=>if j=p then b p - v else b j) i o (.sl 2 [] 0 (m + 1) 2) (k + v)),(2,.ar 2 (m + 1) fun j=>if j < m then f j else AM v false)] 3 Al (by (simp only [Di,A6,seval])) (by simp only [LV,A6,Ai,LY,seval]) ?_ ⟨rfl,rfl,rfl⟩;simp only [A6,AM,LY,seval];intro j hj;by_cases h:j < m
 ·obtain ⟨u,g,e⟩:=hf j;rw [if_pos h,if_pos h,e];simp only [AM,LY,seval]
 ·rw [if_neg h,if_neg h,if_pos Aa];simp only [LY,seval]
def j4:=@A6.eq_1
def j8:=@AM.eq_1
def Xl (v:BitVec 64):Nat→BitVec 64
 | 0=>0#64
 | n + 1=>Xl v n + v
def IE (v:BitVec 64) (n j:Nat):BitVec 64:=if j < n then v else 0#64
structure OkPo (M:Seat):Prop where
 p:OkP M
 k130:Ar M 130 Ak6=true
 k131:Ar M 131 Atm=true
 k132:Ar M 132 Amm=true
 k260:Ar M 260 Aqe=true
theorem JR {M:Seat} (ok:OkPo M):Ae M 130 [W 1#64] [] 0 (Q3 (B0 (.int .i64 0) (W 0#64) .nili) [] 0):=by
 have h:=HA ok.p 1#64;rw [show D1 1#64=1 by decide] at h;refine Ab ok.k130 rfl fun x hx=>?_;have z0:IntKind.i64.wrap 0=0:=rfl;refine eX ?_;simp only [Ak6,Aod,LZ,seval];refine Aj (h) ?_;simp only [z0,Lbp,seval];have zz:=@l5;exact AI hx [] ⟨rfl,rfl,rfl⟩
end Mv
