/- A part. -/
import Derived.Test.YtgeionenpaopaaaGreatDoorBH
set_option linter.all false
set_option maxRecDepth 20000
set_option maxHeartbeats 8000000
namespace Mv
open Go
def Ai4:LC:=(sr [bX 2 0,A1 4 (.mv (.c .nilp)),mn 5] (.seq (.block 0 (sr [fa 9 1 2,lb 10 1 9,kl 11 244 [(.t 10)],A1 12 (.un .not (.t 11)),mt 8 12] (.cond (.t 8) (sr [A1 13 (.mkif 74 (cI 2)),A1 4 (.mv (.c .nilp)),mt 5 13] .ret) (sr [fa 15 0 2,lb 16 1 15,
  lN 17 0 16,fa 18 1 2,lb 19 1 18,ak 20 .gtr 17 19,mt 21 20,mg 22 21 false 1,A2 23 21 false (.len 0 (.t 22)),A2 24 21 false (.ari .gtr (.t 23) (cI 2048)),
  FB 25 21 24,mt 14 25] (.cond (.t 14) (sr [A1 26 (.mkif 74 (cI 5)),A1 4 (.mv (.c .nilp)),mt 5 26] .ret) .skip))))) (sr [fa 28 0 2,lb 29 1 28,kl 30 74 [(.t 29)],mt 27 30,ee 31 27 0,ee 32 27 1,mt 6 31,mt 7 32] (.seq (sr [mt 33 7,A1 34 (.eq false true (.iface [74]) (.t 33) (.c .nili))] (.cond (.t 34) (.regd [⟨0,0,mt 35 6⟩,⟨1,1,nc 36 35⟩,⟨2,3,fa 37 0 36⟩,⟨3,0,fa 38 1 2⟩,⟨4,8,lb 39 1 38⟩,⟨5,31,A1 40 (.slarr 8192 1 (.t 37) (some (.t 39)) none)⟩,⟨6,0,mt 41 1⟩,⟨7,127,A1 42 (.copy 1 (.t 40) (.t 41))⟩]) .skip)) (sr [mt 43 6,mt 44 7,mt 4 43,mt 5 44] .ret)))))
def Aen:LF:=⟨Ai4,2,0,45,[.tmp 4,.tmp 5]⟩
def Aj2:LC:=(sr [A1 2 (.alloc (.st (.cons .slice (.cons zI .nil)))),mn 3] (.seq (sr [mt 7 0,kl 8 179 [(.t 7)],mt 4 8] (sr [mt 9 4,A1 10 (.eq true true (.iface [74]) (.t 9) (.c .nili))] (.cond (.t 10) (sr [A1 11 (.build (.st (.cons .slice (.cons zI .nil))) []),mt 12 4,sb 2 2 11,mt 3 12] .ret) .skip))) (sr [mt 13 0,kl 14 306 [(.t 13),(cI 512)],nc 15 14,fa 16 1 15,lb 17 1 16,
  lN 18 0 17,aI 19 .add 18 512,mt 5 19] (sr [mt 20 0,mt 21 5,kl 22 306 [(.t 20),(.t 21)],mt 6 22] (.seq (sr [mt 23 5,aI 24 .gtr 23 6144,mt 25 24,mg 26 25 false 6,⟨(some 27),.call 307 [(.t 26)],(some (25,false))⟩,A2 28 25 false (.ari .gtr (.t 27) (cI 512)),
  FB 29 25 28] (.cond (.t 29) (sr [A1 30 (.build (.st (.cons .slice (.cons zI .nil))) []),A1 31 (.mkif 74 (cI 5)),sb 2 2 30,mt 3 31] .ret) .skip)) (sr [mt 32 6,nc 33 32,fa 34 1 33,lb 35 1 34,mt 36 5,A1 37 (.build (.st (.cons .slice (.cons zI .nil))) [(.f 0,1,(.t 35)),(.f 1,1,(.t 36))]),sb 2 2 37,mn 3] .ret))))))
def YL:LF:=⟨Aj2,1,0,38,[.cell 2 true 2,.tmp 3]⟩
def Aap:LC:=(sr [A1 2 (.mv (.c (.bool false)))] (sr [mt 3 0,aI 4 .geq 3 0,mt 5 4,mg 6 5 true 0,A2 7 5 true (.ari .leq (.t 6) (cI 6144)),
  N6 8 5 7,mt 2 8] .ret))
def Wf:LF:=⟨Aap,1,0,9,[.tmp 2]⟩
def Ag0:LC:=(sr [A1 4 (.mv (.c .nilp))] (sr [mt 11 0,mt 12 1,A1 13 (.mkmap zI zI),A1 14 (.build (.st (.cons .slice (.cons .slice (.cons zI (.cons zI (.cons .slice (.cons .slice (.cons .map (.cons .slice (.cons .slice (.cons .slice (.cons zI (.cons zI .nil))))))))))))) [(.f 0,1,(.t 11)),(.f 2,1,(.t 12)),(.f 6,1,(.t 13))]),
  bX 15 14,mt 5 15] (sr [mt 16 5,mt 17 1,aI 18 .sub 17 512,kl 19 405 [(.t 16),(cI 26),(cI 14),(cI 0),(cI 0),(cI 0),(.t 18)]] (.seq (sr [mt 20 0,
  lN 21 0 20,
  mI 22 0] (.block 0 (.loop (sr [ak 23 .lss 22 21] (.seq (Fy 23 0) (.seq (.block 1 (sr [mt 24 22,mt 6 24] (.reg [mt 25 5,mt 26 6,kl 27 406 [(.t 25),(.t 26)]]))) (.reg [aI 28 .add 22 1,mt 22 28]))))))) (.seq (sr [mt 29 5,nc 30 29,fa 31 6 30,lb 32 1 31,A1 33 (.rng (.t 32))] (.block 2 (.loop (sr [A1 34 (.nxt (.t 33)),ee 35 34 0] (.seq (Fy 35 2) (.block 3 (sr [A1 36 (.ent (.t 33)),ee 37 36 0,ee 38 36 1,mt 7 37,mt 8 38] (.reg [mt 39 5,mt 40 7,mt 41 5,nc 42 41,fa 43 5 42,lb 44 1 43,mt 45 8,ia 46 1 44 45,lb 47 1 46,kl 48 407 [(.t 39),(.t 40),(.t 47)]])))))))) (.seq (sr [mt 49 5,nc 50 49,fa 51 7 50,lb 52 1 51,
  lN 53 0 52,
  mI 54 0] (.block 4 (.loop (sr [ak 55 .lss 54 53] (.seq (Fy 55 4) (.seq (.block 5 (sr [ia 56 1 52 54,lb 57 1 56,mt 10 57] (.reg [mt 58 5,mt 59 10,kl 60 408 [(.t 58),(.t 59)]]))) (.reg [aI 61 .add 54 1,mt 54 61]))))))) (sr [mt 62 5,mt 63 5,nc 64 63,fa 65 1 64,lb 66 1 65,A1 67 (.bsl 1 1 zU [(.i 1 0,1,(cU 18446744073709551615))]),
  aP 68 1 8 66 67,nc 69 62,fa 70 1 69,sb 1 70 68] (sr [mt 71 5,mt 4 71] .ret))))))))
def Xu:LF:=⟨Ag0,2,0,72,[.tmp 4]⟩
def Agy:LC:=(sr [mI 2 0] (sr [mt 8 0,nc 9 8,fa 10 4 9,lb 11 1 10,kl 12 409 [(.t 11)],mt 3 12] (.seq (sr [mt 13 0,nc 14 13,fa 15 0 14,lb 16 1 15,
  lN 17 0 16,aI 18 .sub 17 1,mt 4 18] (.block 0 (.loop (.seq (sr [mt 19 4,aI 20 .geq 19 0]
 (Fy 20 0)) (.seq (.block 1 (sr [mI 5 0] (.seq (sr [mt 23 0,nc 24 23,fa 25 0 24,lb 26 1 25,mt 27 4,ia 28 3 26 27,fa 29 2 28,lb 30 1 29,kl 31 410 [(.t 30),(.c .nils)],
  lN 32 0 31,
  mI 33 0] (.block 2 (.loop (sr [ak 34 .lss 33 32] (.seq (Fy 34 2) (.seq (.block 3 (sr [ia 35 1 31 33,lb 36 1 35,mt 7 36] (.reg [mt 37 5,mt 38 3,mt 39 7,ia 40 1 38 39,lb 41 1 40,A1 42 (.mm true (.t 37) (.t 41)),mt 5 42]))) (.reg [aI 43 .add 33 1,mt 33 43]))))))) (.reg [mt 44 3,mt 45 4,ia 46 1 44 45,lb 47 1 46,mt 48 5,ak 49 .add 47 48,ia 50 1 44 45,sb 1 50 49])))) (.reg [mt 21 4,aI 22 .sub 21 1,mt 4 22])))))) (sr [mt 51 3,
  iJ 52 1 51 0,lb 53 1 52,mt 2 53] .ret))))
def Xz:LF:=⟨Agy,1,0,54,[.tmp 2]⟩
def YS:LC:=(sr [mI 14 0] (sr [mt 18 1,mt 19 2,mt 20 3,mt 21 4,mt 22 5,mt 23 6,kl 24 76 [(.t 18),(.t 19),(.t 20),(.t 21),(.t 22),(.t 23)],mt 17 24,ee 25 17 0,ee 26 17 1,mt 15 25,mt 16 26] (sr [mt 27 0,mt 28 0,nc 29 28,fa 30 1 29,lb 31 1 30,mt 32 15,A1 33 (.bsl 1 1 zU [(.i 1 0,1,(.t 32))]),
  aP 34 1 8 31 33,nc 35 27,fa 36 1 35,sb 1 36 34] (sr [mt 37 0,nc 38 37,fa 39 1 38,lb 40 1 39,
  lN 41 0 40,aI 42 .sub 41 1,mt 14 42] .ret))))
def PA:LF:=⟨YS,7,0,43,[.tmp 14]⟩
def Alm:LC:=(sr [mt 11 0,nc 12 11,fa 13 0 12,lb 14 1 13,mt 15 1,ia 16 3 14 15,la 17 3 16,A1 4 (.alloc (.st (.cons zI (.cons zI (.cons .slice .nil))))),sb 3 4 17] (sr [mt 18 0,mt 19 0,mt 20 0,mt 21 0,mt 22 0,mt 23 1,nc 24 18,fa 25 3 24,sb 1 25 23,nc 26 19,fa 27 10 26,A0 (.store 1 (.t 27) (cI 0)),nc 28 20,fa 29 11 28,A0 (.store 1 (.t 29) (cI 0)),nc 30 21,fa 31 9 30,A0 (.store 1 (.t 31) (.c .nils)),nc 32 22,fa 33 8 32,A0 (.store 1 (.t 33) (.c .nils))] (.seq (.regd [⟨1,0,mt 35 0⟩,⟨2,1,nc 36 35⟩,⟨3,3,fa 37 5 36⟩,⟨4,7,lb 38 1 37⟩,⟨5,0,mt 39 0⟩,⟨6,16,nc 40 39⟩,⟨7,48,fa 41 1 40⟩,⟨8,112,lb 42 1 41⟩,⟨9,240,lN 43 0 42⟩,⟨10,496,A1 44 (.bsl 1 1 zI [(.i 1 0,1,(.t 43))])⟩,⟨11,1023,aP 45 1 8 38 44⟩,⟨0,0,mt 34 0⟩,⟨12,4095,nc 46 34⟩,⟨13,8191,fa 47 5 46⟩,⟨14,16383,sb 1 47 45⟩]) (sr [mt 48 0,fa 49 1 4,lb 50 1 49,kl 51 405 [(.t 48),(cI 28),(cI 0),(cI 14),(cI 15),(cI 0),(.t 50)]] (.seq (sr [fa 52 0 4,lb 53 1 52,mt 5 53] (.block 0 (.loop (.seq (sr [mt 54 5,fa 55 1 4,lb 56 1 55,ak 57 .lss 54 56]
 (Fy 57 0)) (.seq (.block 1 (.reg [mt 60 0,mt 61 5,kl 62 405 [(.t 60),(cI 28),(cI 0),(cI 14),(cI 12),(cI 0),(.t 61)]])) (.reg [mt 58 5,aI 59 .add 58 1,mt 5 59])))))) (sr [mt 63 0,fa 64 2 4,lb 65 1 64,kl 66 459 [(.t 63),(.t 65)]] (sr [mt 67 0,kl 68 405 [(.t 67),(cI 26),(cI 0),(cI 0),(cI 0),(cI 0),(cI 0)]] (.seq (sr [mt 69 0,nc 70 69,fa 71 9 70,lb 72 1 71,
  lN 73 0 72,
  mI 74 0] (.block 2 (.loop (sr [ak 75 .lss 74 73] (.seq (Fy 75 2) (.seq (.block 3 (sr [ia 76 1 72 74,lb 77 1 76,mt 7 77] (.reg [mt 78 0,mt 79 7,kl 80 408 [(.t 78),(.t 79)]]))) (.reg [aI 81 .add 74 1,mt 74 81]))))))) (.seq (sr [mt 82 1,aI 83 .eql 82 0] (.cond (.t 83) (.reg [mt 84 0,kl 85 405 [(.t 84),(cI 0),(cI 0),(cI 0),(cI 0),(cI 0),(cI 0)]]) (sr [mt 86 0,fa 87 1 4,lb 88 1 87,kl 89 405 [(.t 86),(cI 27),(cI 15),(cI 14),(cI 0),(cI 0),(.t 88)]] (.reg [mt 90 0,kl 91 405 [(.t 90),(cI 33),(cI 0),(cI 15),(cI 0),(cI 0),(cI 0)]])))) (.seq (.regd [⟨0,0,fa 92 1 4⟩,⟨1,1,lb 93 1 92⟩,⟨2,3,aI 94 .add 93 1⟩,⟨3,0,mt 95 0⟩,⟨4,8,nc 96 95⟩,⟨5,24,fa 97 11 96⟩,⟨6,56,lb 98 1 97⟩,⟨7,127,ak 99 .add 94 98⟩,⟨8,255,mt 8 99⟩]) (sr [mt 100 0,mt 101 0,nc 102 101,fa 103 4 102,lb 104 1 103,mt 105 8,A1 106 (.bsl 1 1 zI [(.i 1 0,1,(.t 105))]),
  aP 107 1 8 104 106,nc 108 100,fa 109 4 108,sb 1 109 107] (sr [mt 110 0,nc 111 110,fa 112 8 111,lb 113 1 112,
  lN 114 0 113,
  mI 115 0] (.block 4 (.loop (sr [ak 116 .lss 115 114] (.seq (Fy 116 4) (.seq (.block 5 (sr [ia 117 1 113 115,lb 118 1 117,mt 10 118] (.reg [mt 119 0,mt 120 10,mt 121 8,kl 122 407 [(.t 119),(.t 120),(.t 121)]]))) (.reg [aI 123 .add 115 1,mt 115 123]))))))))))))))))))
def XE:LF:=⟨Alm,2,0,124,[]⟩
def Ajk:LC:=.regd [⟨0,0,mt 6 0⟩,⟨1,1,nc 7 6⟩,⟨2,3,fa 8 1 7⟩,⟨3,7,lb 9 1 8⟩,⟨4,0,mt 10 1⟩,⟨5,0,mt 11 0⟩,⟨6,32,nc 12 11⟩,⟨7,96,fa 13 1 12⟩,⟨8,224,lb 14 1 13⟩,⟨9,0,mt 15 1⟩,⟨10,992,ia 16 1 14 15⟩,⟨11,2016,lb 17 1 16⟩,⟨12,4064,aU 18 .shr 17 32⟩,⟨13,8160,aU 19 .shl 18 32⟩,⟨14,0,mt 20 2⟩,⟨15,16384,Ea 21 .u32 20⟩,⟨16,49152,Ea 22 .u64 21⟩,⟨17,131040,ak 23 .or 19 22⟩,⟨18,262143,ia 24 1 9 10⟩,⟨19,524287,sb 1 24 23⟩]
def Ad4:LF:=⟨Ajk,3,0,25,[]⟩
def Ait:LC:=.reg [mt 4 0,mt 5 1,mt 6 0,nc 7 6,fa 8 1 7,lb 9 1 8,
 lN 10 0 9,kl 11 407 [(.t 4),(.t 5),(.t 10)]]
def Abv:LF:=⟨Ait,2,0,12,[]⟩
def Adc:LC:=(sr [A1 4 (.mv (.c .nils))] (.seq (sr [mt 7 0,
  lN 8 0 7,
  mI 9 0] (.block 0 (.loop (sr [ak 10 .lss 9 8] (.seq (Fy 10 0) (.seq (.block 1 (sr [ia 11 10 7 9,la 12 10 11,A1 6 (.alloc (.st (.cons zI (.cons zI (.cons (.st (.cons zI (.cons zU (.cons .slice .nil)))) (.cons (.st (.cons zI (.cons zU (.cons .slice .nil)))) (.cons .slice (.cons .slice .nil)))))))),sb 10 6 12] (sr [fa 13 2 6,la 14 3 13,mt 15 1,kl 16 460 [(.t 14),(.t 15)],mt 1 16] (.seq (sr [fa 17 0 6,lb 18 1 17,aI 19 .eql 18 2] (.cond (.t 19) (.reg [fa 20 5 6,la 21 3 20,mt 22 1,kl 23 460 [(.t 21),(.t 22)],mt 1 23]) .skip)) (.seq (sr [fa 24 0 6,lb 25 1 24,aI 26 .eql 25 3,mt 27 26,A2 28 27 false (.fadr 0 (.t 6)),A2 29 27 false (.load false 1 (.t 28)),A2 30 27 false (.ari .eql (.t 29) (cI 4)),
  FB 31 27 30] (.cond (.t 31) (.reg [fa 32 8 6,lb 33 1 32,mt 34 1,kl 35 410 [(.t 33),(.t 34)],mt 1 35]) .skip)) (sr [fa 36 0 6,lb 37 1 36,aI 38 .eql 37 3] (.cond (.t 38) (.reg [fa 39 9 6,lb 40 1 39,mt 41 1,kl 42 410 [(.t 40),(.t 41)],mt 1 42]) .skip))))))) (.reg [aI 43 .add 9 1,mt 9 43]))))))) (sr [mt 44 1,mt 4 44] .ret)))
def Tx:LF:=⟨Adc,2,0,45,[.tmp 4]⟩
def Ahy:LC:=(sr [mt 6 1,
 lN 7 0 6,
 mI 8 0] (.block 0 (.loop (sr [ak 9 .lss 8 7] (.seq (Fy 9 0) (.seq (.block 1 (sr [ia 10 10 6 8,la 11 10 10,A1 5 (.alloc (.st (.cons zI (.cons zI (.cons (.st (.cons zI (.cons zU (.cons .slice .nil)))) (.cons (.st (.cons zI (.cons zU (.cons .slice .nil)))) (.cons .slice (.cons .slice .nil)))))))),sb 10 5 11] (.reg [mt 12 0,la 13 10 5,kl 14 493 [(.t 12),(.t 13)]]))) (.reg [aI 15 .add 8 1,mt 8 15])))))))
def XN:LF:=⟨Ahy,2,0,16,[]⟩
def Ae1:LC:=(sr [bX 2 0,A1 4 (.mv (.c .nils))] (.seq (sr [fa 7 0 2,lb 8 1 7,aI 9 .eql 8 29] (.cond (.t 9) (.reg [mt 10 1,fa 11 1 2,lb 12 1 11,
  Ea 13 .i64 12,A1 14 (.bsl 1 1 zI [(.i 1 0,1,(.t 13))]),
  aP 15 1 8 10 14,mt 1 15]) .skip)) (.seq (sr [fa 16 2 2,lb 17 1 16,
  lN 18 0 17,
  mI 19 0] (.block 0 (.loop (sr [ak 20 .lss 19 18] (.seq (Fy 20 0) (.seq (.block 1 (sr [ia 21 3 17 19,la 22 3 21,A1 6 (.alloc (.st (.cons zI (.cons zU (.cons .slice .nil))))),sb 3 6 22] (.reg [la 23 3 6,mt 24 1,kl 25 460 [(.t 23),(.t 24)],mt 1 25]))) (.reg [aI 26 .add 19 1,mt 19 26]))))))) (sr [mt 27 1,mt 4 27] .ret))))
def T9:LF:=⟨Ae1,2,0,28,[.tmp 4]⟩
def MS:LC:=(sr [bX 3 1] (sr [fa 8 0 3,lb 9 1 8] (.block 0 (sr [aI 11 .eql 9 1,mt 10 11] (.cond (.t 10) (sr [mt 12 0,fa 13 2 3,la 14 3 13,kl 15 516 [(.t 12),(.t 14),(cI 0)]] (.reg [mt 16 0,fa 17 1 3,lb 18 1 17,kl 19 405 [(.t 16),(cI 28),(cI 0),(cI 14),(cI 0),(cI 0),(.t 18)]])) (sr [aI 21 .eql 9 2,mt 20 21] (.cond (.t 20) (sr [mt 22 0,fa 23 2 3,la 24 3 23,fa 25 5 3,la 26 3 25,A1 27 (.bsl 3 2 (.st (.cons zI (.cons zU (.cons .slice .nil)))) [(.i 3 0,3,(.t 24)),(.i 3 1,3,(.t 26))]),kl 28 517 [(.t 22),(.t 27)]] (sr [mt 29 0,kl 30 518 [(.t 29),(cI 1),(cI 2048)]] (.reg [mt 31 0,mt 32 0,nc 33 32,fa 34 2 33,lb 35 1 34,kl 36 405 [(.t 31),(cI 28),(cI 0),(cI 1),(cI 2),(cI 0),(.t 35)]]))) (sr [aI 38 .eql 9 3,mt 37 38] (.cond (.t 37) (sr [mt 39 0,fa 40 2 3,la 41 3 40,kl 42 516 [(.t 39),(.t 41),(cI 0)]] (sr [mt 43 0,kl 44 405 [(.t 43),(cI 30),(cI 0),(cI 0),(cI 0),(cI 0),(cI 0)],mt 4 44] (sr [mt 45 0,fa 46 8 3,lb 47 1 46,kl 48 459 [(.t 45),(.t 47)]] (sr [mt 49 0,kl 50 405 [(.t 49),(cI 29),(cI 0),(cI 0),(cI 0),(cI 0),(cI 0)],mt 5 50] (sr [mt 51 0,mt 52 4,kl 53 408 [(.t 51),(.t 52)]] (sr [mt 54 0,fa 55 9 3,lb 56 1 55,kl 57 459 [(.t 54),(.t 56)]] (.reg [mt 58 0,mt 59 5,kl 60 408 [(.t 58),(.t 59)]]))))))) (sr [aI 62 .eql 9 4,mt 61 62] (.cond (.t 61) (sr [mt 63 0,nc 64 63,fa 65 1 64,lb 66 1 65,
  lN 67 0 66,mt 6 67] (sr [mt 68 0,fa 69 2 3,la 70 3 69,kl 71 516 [(.t 68),(.t 70),(cI 0)]] (sr [mt 72 0,kl 73 405 [(.t 72),(cI 30),(cI 0),(cI 0),(cI 0),(cI 0),(cI 0)],mt 7 73] (sr [mt 74 0,fa 75 8 3,lb 76 1 75,kl 77 459 [(.t 74),(.t 76)]] (sr [mt 78 0,mt 79 6,kl 80 405 [(.t 78),(cI 29),(cI 0),(cI 0),(cI 0),(cI 0),(.t 79)]] (.reg [mt 81 0,mt 82 7,kl 83 408 [(.t 81),(.t 82)]])))))) (sr [aI 85 .eql 9 5,mt 84 85] (.cond (.t 84) (sr [mt 86 0,fa 87 2 3,la 88 3 87,kl 89 516 [(.t 86),(.t 88),(cI 0)]]
 (.regd [⟨5,0,mt 95 0⟩,⟨6,1,kl 96 405 [(.t 95),(cI 29),(cI 0),(cI 0),(cI 0),(cI 0),(cI 0)]⟩,⟨1,0,mt 91 0⟩,⟨2,4,nc 92 91⟩,⟨3,12,fa 93 9 92⟩,⟨4,28,lb 94 1 93⟩,⟨7,3,A1 97 (.bsl 1 1 zI [(.i 1 0,1,(.t 96))])⟩,⟨8,127,aP 98 1 8 94 97⟩,⟨0,0,mt 90 0⟩,⟨9,511,nc 99 90⟩,⟨10,1023,fa 100 9 99⟩,⟨11,2047,sb 1 100 98⟩])) (sr [aI 102 .eql 9 6,mt 101 102] (.cond (.t 101) (.reg [mt 103 0,fa 104 2 3,la 105 3 104,kl 106 516 [(.t 103),(.t 105),(cI 0)]]) (sr [aI 108 .eql 9 7,mt 107 108] (.cond (.t 107) (sr [mt 109 0,fa 110 2 3,la 111 3 110,kl 112 516 [(.t 109),(.t 111),(cI 0)]] (.reg [mt 113 0,kl 114 405 [(.t 113),(cI 0),(cI 0),(cI 0),(cI 0),(cI 0),(cI 0)]])) .skip)))))))))))))))))
def Kp:LF:=⟨MS,2,0,115,[]⟩
def Kl:LC:=(sr [bX 4 1] (.block 0 (sr [fa 43 0 4,lb 44 1 43,aI 45 .leq 44 25,mt 42 45] (.cond (.t 42) (sr [mt 46 0,fa 47 2 4,lb 48 1 47,kl 49 517 [(.t 46),(.t 48)]] (.reg [mt 50 0,fa 51 0 4,lb 52 1 51,mt 53 2,kl 54 405 [(.t 50),(.t 52),(.t 53),(cI 1),(cI 2),(cI 3),(cI 0)]])) (sr [fa 56 0 4,lb 57 1 56,aI 58 .eql 57 26,mt 55 58] (.cond (.t 55) (.reg [mt 59 0,mt 60 2,fa 61 1 4,lb 62 1 61,kl 63 537 [(.t 59),(.t 60),(.t 62)]]) (sr [fa 65 0 4,lb 66 1 65,aI 67 .eql 66 27,mt 64 67] (.cond (.t 64) (.reg [mt 68 0,mt 69 2,fa 70 1 4,lb 71 1 70,
  Ea 72 .i64 71,kl 73 405 [(.t 68),(cI 27),(.t 69),(cI 14),(cI 0),(cI 0),(.t 72)]]) (sr [fa 75 0 4,lb 76 1 75,aI 77 .eql 76 28,mt 78 77,A2 79 78 true (.fadr 2 (.t 4)),A2 80 78 true (.load false 1 (.t 79)),A2 81 78 true (.isl 3 (.t 80) (cI 0)),A2 82 78 true (.fadr 0 (.t 81)),A2 83 78 true (.load false 1 (.t 82)),A2 84 78 true (.ari .eql (.t 83) (cI 26)),
  N6 85 78 84,mt 86 85,A2 87 86 true (.fadr 2 (.t 4)),A2 88 86 true (.load false 1 (.t 87)),A2 89 86 true (.isl 3 (.t 88) (cI 0)),A2 90 86 true (.fadr 1 (.t 89)),A2 91 86 true (.load false 1 (.t 90)),A2 92 86 true (.ari .lss (.t 91) (cU 2048)),
  N6 93 86 92,mt 74 93] (.cond (.t 74) (.regd [⟨0,0,mt 94 0⟩,⟨1,0,mt 95 2⟩,⟨2,0,mt 96 0⟩,⟨3,4,nc 97 96⟩,⟨4,12,fa 98 2 97⟩,⟨5,28,lb 99 1 98⟩,⟨6,0,fa 100 2 4⟩,⟨7,64,lb 101 1 100⟩,⟨8,192,iJ 102 3 101 0⟩,⟨9,448,fa 103 1 102⟩,⟨10,960,lb 104 1 103⟩,⟨11,1984,Ea 105 .i64 104⟩,⟨12,4092,ak 106 .add 99 105⟩,⟨13,8191,kl 107 405 [(.t 94),(cI 27),(.t 95),(cI 12),(cI 0),(cI 0),(.t 106)]⟩]) (sr [fa 109 0 4,lb 110 1 109,aI 111 .eql 110 28,mt 108 111] (.cond (.t 108) (sr [mt 112 0,fa 113 2 4,lb 114 1 113,kl 115 517 [(.t 112),(.t 114)]] (sr [mt 116 0,kl 117 518 [(.t 116),(cI 1),(cI 2048)]] (.reg [mt 118 0,mt 119 2,mt 120 0,nc 121 120,fa 122 2 121,lb 123 1 122,kl 124 405 [(.t 118),(cI 27),(.t 119),(cI 1),(cI 0),(cI 0),(.t 123)]]))) (sr [fa 126 0 4,lb 127 1 126,aI 128 .eql 127 29,mt 125 128] (.cond (.t 125) (.reg [mt 129 0,la 130 3 4,mt 131 2,kl 132 538 [(.t 129),(.t 130),(.t 131)]]) (sr [mt 9 0,fa 10 2 4,lb 11 1 10,kl 12 517 [(.t 9),(.t 11)]] (sr [mI 6 8,
  mI 7 4,
  mI 8 34] (.seq (sr [fa 13 0 4,lb 14 1 13,aI 15 .eql 14 31] (.cond (.t 15) (.reg [mI 6 4,
  mI 7 8,
  mI 8 35]) .skip)) (sr [mt 16 0,mt 17 6,
  aJ 18 .sub 2048 17,aI 19 .add 18 1,kl 20 518 [(.t 16),(cI 1),(.t 19)]] (sr [mt 21 0,mt 22 7,
  aJ 23 .sub 2048 22,aI 24 .add 23 1,kl 25 518 [(.t 21),(cI 2),(.t 24)]] (sr [mt 26 0,mt 27 0,nc 28 27,fa 29 2 28,lb 30 1 29,kl 31 405 [(.t 26),(cI 26),(cI 10),(cI 0),(cI 0),(cI 0),(.t 30)]] (sr [mt 32 0,kl 33 405 [(.t 32),(cI 1),(cI 1),(cI 1),(cI 10),(cI 0),(cI 0)]] (sr [mt 34 0,kl 35 405 [(.t 34),(cI 1),(cI 2),(cI 2),(cI 10),(cI 0),(cI 0)]] (sr [mt 36 0,mt 37 8,kl 38 405 [(.t 36),(.t 37),(cI 0),(cI 1),(cI 2),(cI 0),(cI 0)]] (.reg [mt 39 0,mt 40 2,kl 41 405 [(.t 39),(cI 26),(.t 40),(cI 0),(cI 0),(cI 0),(cI 0)]]))))))))))))))))))))))))
def Ii:LF:=⟨Kl,3,0,133,[]⟩
def Ao4:LC:=(sr [mt 15 0,nc 16 15,fa 17 10 16,lb 18 1 17,mt 4 18] (sr [A1 5 (.mv (.c (.int .i64 (-1))))] (.seq (sr [mt 19 1,
  lN 20 0 19,
  mI 21 0] (.block 0 (.loop (sr [ak 22 .lss 21 20] (.seq (Fy 22 0) (.seq (.block 1 (sr [mt 23 21,ia 24 3 19 21,la 25 3 24,A1 7 (.alloc (.st (.cons zI (.cons zU (.cons .slice .nil))))),mt 6 23,sb 3 7 25] (sr [la 26 3 7,kl 27 539 [(.t 26)],A1 28 (.un .not (.t 27))] (.cond (.t 28) (.reg [mt 29 6,mt 5 29]) .skip)))) (.reg [aI 30 .add 21 1,mt 21 30]))))))) (sr [A1 8 (.mv (.c .nils))] (.seq (sr [mt 31 1,
  lN 32 0 31,
  mI 33 0] (.block 2 (.loop (sr [ak 34 .lss 33 32] (.seq (Fy 34 2) (.seq (.block 3 (sr [mt 35 33,ia 36 3 31 33,la 37 3 36,A1 10 (.alloc (.st (.cons zI (.cons zU (.cons .slice .nil))))),mt 9 35,sb 3 10 37] (.seq (sr [la 38 3 10,kl 39 539 [(.t 38)]] (.cond (.t 39) (.exit 3) .skip)) (sr [mt 40 0,la 41 3 10,mt 42 9,
  aJ 43 .add 1 42,kl 44 516 [(.t 40),(.t 41),(.t 43)]] (sr [mt 45 9,mt 46 5,ak 47 .neq 45 46] (.cond (.t 47) (sr [mt 48 8,mt 49 9,A1 50 (.bsl 1 1 zI [(.i 1 0,1,(.t 49))]),
  aP 51 1 8 48 50,mt 8 51] (sr [mt 52 0,mt 53 9,
  aJ 54 .add 1 53,mt 55 0,mt 56 0,nc 57 56,fa 58 10 57,lb 59 1 58,kl 60 540 [(.t 55),(.t 59)],kl 61 405 [(.t 52),(cI 28),(cI 0),(cI 14),(.t 54),(cI 0),(.t 60)]] (sr [mt 62 0,nc 63 62,fa 64 10 63,lb 65 1 64,aI 66 .add 65 1,nc 67 62,fa 68 10 67,sb 1 68 66]
 (.regd [⟨0,0,mt 69 0⟩,⟨1,0,mt 70 0⟩,⟨2,2,nc 71 70⟩,⟨3,6,fa 72 11 71⟩,⟨4,14,lb 73 1 72⟩,⟨5,0,mt 74 0⟩,⟨6,32,nc 75 74⟩,⟨7,96,fa 76 10 75⟩,⟨8,224,lb 77 1 76⟩,⟨9,510,A1 78 (.mm true (.t 73) (.t 77))⟩,⟨10,1023,nc 79 69⟩,⟨11,2047,fa 80 11 79⟩,⟨12,4095,sb 1 80 78⟩])))) .skip)))))) (.reg [aI 81 .add 33 1,mt 33 81]))))))) (.seq (sr [mt 82 8,
  lN 83 0 82,
  mI 84 0] (.block 4 (.loop (sr [ak 85 .lss 84 83] (.seq (Fy 85 4) (.seq (.block 5 (sr [mt 86 84,ia 87 1 82 84,lb 88 1 87,mt 11 86,mt 12 88] (.reg [mt 89 0,mt 90 12,
  aJ 91 .add 1 90,mt 92 0,mt 93 4,mt 94 11,ak 95 .add 93 94,kl 96 540 [(.t 92),(.t 95)],kl 97 405 [(.t 89),(cI 27),(.t 91),(cI 14),(cI 0),(cI 0),(.t 96)]]))) (.reg [aI 98 .add 84 1,mt 84 98]))))))) (.seq (sr [mt 99 1,
  lN 100 0 99,
  mI 101 0] (.block 6 (.loop (sr [ak 102 .lss 101 100] (.seq (Fy 102 6) (.seq (.block 7 (sr [mt 103 101,ia 104 3 99 101,la 105 3 104,A1 14 (.alloc (.st (.cons zI (.cons zU (.cons .slice .nil))))),mt 13 103,sb 3 14 105] (sr [la 106 3 14,kl 107 539 [(.t 106)]] (.cond (.t 107) (.reg [mt 108 0,la 109 3 14,mt 110 13,
  aJ 111 .add 1 110,kl 112 516 [(.t 108),(.t 109),(.t 111)]]) .skip)))) (.reg [aI 113 .add 101 1,mt 101 113]))))))) (.reg [mt 114 0,mt 115 4,nc 116 114,fa 117 10 116,sb 1 117 115]))))))))
def Af6:LF:=⟨Ao4,2,0,118,[]⟩
def Am1:LC:=(sr [mt 6 0,mt 7 2,kl 8 405 [(.t 6),(cI 26),(cI 10),(cI 0),(cI 0),(cI 0),(.t 7)]] (sr [mt 9 0,mt 10 1,kl 11 405 [(.t 9),(cI 16),(cI 10),(.t 10),(cI 10),(cI 0),(cI 0)]]
 (.regd [⟨5,0,mt 17 0⟩,⟨6,1,kl 18 405 [(.t 17),(cI 30),(cI 0),(cI 10),(cI 0),(cI 0),(cI 0)]⟩,⟨1,0,mt 13 0⟩,⟨2,4,nc 14 13⟩,⟨3,12,fa 15 7 14⟩,⟨4,28,lb 16 1 15⟩,⟨7,3,A1 19 (.bsl 1 1 zI [(.i 1 0,1,(.t 18))])⟩,⟨8,127,aP 20 1 8 16 19⟩,⟨0,0,mt 12 0⟩,⟨9,511,nc 21 12⟩,⟨10,1023,fa 22 7 21⟩,⟨11,2047,sb 1 22 20⟩])))
def Aid:LF:=⟨Am1,3,0,23,[]⟩
def Afb:LC:=(.seq (sr [mt 6 2,
 Ea 7 .i64 6,mt 8 2,
 Ea 9 .i32 8,
 Ea 10 .i64 9,ak 11 .eql 7 10] (.cond (.t 11) (sr [mt 12 0,mt 13 1,mt 14 2,
  Ea 15 .i64 14,kl 16 405 [(.t 12),(cI 26),(.t 13),(cI 0),(cI 0),(cI 0),(.t 15)]] .ret) .skip)) (sr [mt 17 0,mt 18 1,mt 19 2,
  aU 20 .shr 19 32,
  Ea 21 .i32 20,
  Ea 22 .i64 21,kl 23 405 [(.t 17),(cI 26),(.t 18),(cI 0),(cI 0),(cI 0),(.t 22)]] (sr [mt 24 0,kl 25 405 [(.t 24),(cI 26),(cI 11),(cI 0),(cI 0),(cI 0),(cI 32)]] (sr [mt 26 0,mt 27 1,mt 28 1,kl 29 405 [(.t 26),(cI 13),(.t 27),(cI 11),(.t 28),(cI 0),(cI 0)]] (sr [mt 30 0,mt 31 2,
  Ea 32 .i32 31,
  Ea 33 .i64 32,kl 34 405 [(.t 30),(cI 26),(cI 10),(cI 0),(cI 0),(cI 0),(.t 33)]] (sr [mt 35 0,kl 36 405 [(.t 35),(cI 13),(cI 10),(cI 11),(cI 10),(cI 0),(cI 0)]] (sr [mt 37 0,kl 38 405 [(.t 37),(cI 14),(cI 10),(cI 11),(cI 10),(cI 0),(cI 0)]] (.reg [mt 39 0,mt 40 1,mt 41 1,kl 42 405 [(.t 39),(cI 23),(.t 40),(.t 41),(cI 10),(cI 0),(cI 0)]]))))))))
def UK:LF:=⟨Afb,3,0,43,[]⟩
def Aam:LC:=(sr [bX 1 0,A1 2 (.mv (.c (.bool false)))] (sr [fa 3 0 1,lb 4 1 3,aI 5 .eql 4 26,mt 6 5,A2 7 6 false (.fadr 0 (.t 1)),A2 8 6 false (.load false 1 (.t 7)),A2 9 6 false (.ari .eql (.t 8) (cI 27)),
  FB 10 6 9,mt 2 10] .ret))
def Zh:LF:=⟨Aam,1,0,11,[.tmp 2]⟩
def Amr:LC:=(sr [mI 4 0] (.seq (.regd [⟨0,0,mt 5 0⟩,⟨1,1,nc 6 5⟩,⟨2,3,fa 7 0 6⟩,⟨3,7,lb 8 1 7⟩,⟨4,0,mt 9 0⟩,⟨5,16,nc 10 9⟩,⟨6,48,fa 11 3 10⟩,⟨7,112,lb 12 1 11⟩,⟨8,255,ia 13 3 8 12⟩,⟨9,511,fa 14 1 13⟩,⟨10,1023,lb 15 1 14⟩,⟨11,2047,aI 16 .add 15 1⟩,⟨12,0,mt 17 1⟩,⟨13,8191,ak 18 .add 16 17⟩,⟨14,16383,mt 4 18⟩]) .ret))
def Agu:LF:=⟨Amr,2,0,19,[.tmp 4]⟩
def Ao6:LC:=(sr [bX 4 1] (sr [mt 12 0,nc 13 12,fa 14 10 13,lb 15 1 14,mt 6 15] (.seq (sr [fa 16 2 4,lb 17 1 16,
  lN 18 0 17,
  mI 19 0] (.block 0 (.loop (sr [ak 20 .lss 19 18] (.seq (Fy 20 0) (.seq (.block 1 (sr [ia 21 3 17 19,la 22 3 21,A1 8 (.alloc (.st (.cons zI (.cons zU (.cons .slice .nil))))),sb 3 8 22] (sr [mt 23 0,la 24 3 8,kl 25 516 [(.t 23),(.t 24),(cI 0)]] (sr [mt 26 0,mt 27 0,mt 28 0,nc 29 28,fa 30 10 29,lb 31 1 30,kl 32 540 [(.t 27),(.t 31)],kl 33 405 [(.t 26),(cI 28),(cI 0),(cI 14),(cI 0),(cI 0),(.t 32)]] (sr [mt 34 0,nc 35 34,fa 36 10 35,lb 37 1 36,aI 38 .add 37 1,nc 39 34,fa 40 10 39,sb 1 40 38]
 (.regd [⟨0,0,mt 41 0⟩,⟨1,0,mt 42 0⟩,⟨2,2,nc 43 42⟩,⟨3,6,fa 44 11 43⟩,⟨4,14,lb 45 1 44⟩,⟨5,0,mt 46 0⟩,⟨6,32,nc 47 46⟩,⟨7,96,fa 48 10 47⟩,⟨8,224,lb 49 1 48⟩,⟨9,510,A1 50 (.mm true (.t 45) (.t 49))⟩,⟨10,1023,nc 51 41⟩,⟨11,2047,fa 52 11 51⟩,⟨12,4095,sb 1 52 50⟩])))))) (.reg [aI 53 .add 19 1,mt 19 53]))))))) (sr [mt 54 0,mt 55 6,nc 56 54,fa 57 10 56,sb 1 57 55] (sr [mt 58 0,kl 59 405 [(.t 58),(cI 26),(cI 11),(cI 0),(cI 0),(cI 0),(cI 0)],mt 9 59] (sr [mt 60 0,kl 61 405 [(.t 60),(cI 1),(cI 10),(cI 14),(cI 11),(cI 0),(cI 0)]] (.seq (sr [fa 62 2 4,lb 63 1 62,
  lN 64 0 63,
  mI 65 0] (.block 2 (.loop (sr [ak 66 .lss 65 64] (.seq (Fy 66 2) (.seq (.block 3 (sr [mt 67 65,mt 10 67] (sr [mt 68 0,mt 69 0,mt 70 6,mt 71 10,ak 72 .add 70 71,kl 73 540 [(.t 69),(.t 72)],kl 74 405 [(.t 68),(cI 27),(cI 0),(cI 14),(cI 0),(cI 0),(.t 73)]] (.reg [mt 75 0,mt 76 10,kl 77 405 [(.t 75),(cI 28),(cI 0),(cI 10),(cI 0),(cI 0),(.t 76)]])))) (.reg [aI 78 .add 65 1,mt 65 78]))))))) (sr [mt 79 0,kl 80 405 [(.t 79),(cI 1),(cI 14),(cI 10),(cI 12),(cI 0),(cI 0)]] (.seq (.regd [⟨4,0,mt 85 0⟩,⟨5,1,kl 86 405 [(.t 85),(cI 32),(cI 15),(cI 0),(cI 0),(cI 0),(cI 0)]⟩,⟨0,0,mt 81 0⟩,⟨1,4,nc 82 81⟩,⟨2,12,fa 83 6 82⟩,⟨3,28,lb 84 1 83⟩,⟨6,0,fa 87 1 4⟩,⟨7,64,lb 88 1 87⟩,⟨8,192,Ea 89 .i64 88⟩,⟨9,511,A0 (.mupd .int (.t 84) (.t 86) (.t 89))⟩]) (sr [mt 90 0,kl 91 405 [(.t 90),(cI 26),(cI 10),(cI 0),(cI 0),(cI 0),(cI 0)],mt 11 91] (sr [mt 92 0,kl 93 405 [(.t 92),(cI 2),(cI 14),(cI 14),(cI 10),(cI 0),(cI 0)]] (.seq (sr [mt 94 2,aI 95 .neq 94 0] (.cond (.t 95) (.reg [mt 96 0,mt 97 2,kl 98 405 [(.t 96),(cI 1),(.t 97),(cI 0),(cI 12),(cI 0),(cI 0)]]) .skip)) (.reg [mt 99 0,mt 100 0,nc 101 100,fa 102 8 101,lb 103 1 102,mt 104 9,mt 105 11,A1 106 (.bsl 1 2 zI [(.i 1 0,1,(.t 104)),(.i 1 1,1,(.t 105))]),
  aP 107 1 8 103 106,nc 108 99,fa 109 8 108,sb 1 109 107])))))))))))))
def Aio:LF:=⟨Ao6,3,0,110,[]⟩
structure OkCo (M:Seat):Prop where
 c:OkCk M
 i:OkI M
 k405:Ar M 405 PA=true
 k407:Ar M 407 Ad4=true
 k408:Ar M 408 Abv=true
 k459:Ar M 459 XN=true
 k493:Ar M 493 Kp=true
 k516:Ar M 516 Ii=true
 k517:Ar M 517 Af6=true
 k518:Ar M 518 Aid=true
 k537:Ar M 537 UK=true
 k538:Ar M 538 Aio=true
 k539:Ar M 539 Zh=true
 k540:Ar M 540 Agu=true
theorem Sk (S:Cd) (w:BitVec 64):(IW S w).words.length=S.words.length + 1:=by simp [IW]
theorem Aq {M:Seat} (ok:OkCo M) (S:Cd) (hm:S.words.length < 1000000) (op:Int) (d a b c:Nat) (n:Int) (hd:d < 16) (ha:a < 16) (hb:b < 16) (hc:c < 16) (h1:0≤op∧op≤35) (h2:-2147483648≤n∧n < 2147483648) :
 As M 405 [.ptr 0 [],.int .i64 op,.int .i64 d,.int .i64 a,.int .i64 b,.int .i64 c,.int .i64 n] [(0,Bz 1 2 3 5 6 7 S),(1,EN S.words)] 8
  (Q3 (.int .i64 S.words.length) [(0,Bz 8 2 3 5 6 7 (A5 S op d a b c n)),(8,EN (A5 S op d a b c n).words)] 9):=by
 have hC:=Gr ok.i op d a b c n hd ha hb hc h1 h2;have hl:=Sk S (Bn op d a b c n);have hw:(IW S (Bn op d a b c n)).words=S.words ++ [Bn op d a b c n]:=rfl;have w0:IntKind.i64.wrap (((S.words.length + 1:Nat):Int) - 1)=(S.words.length:Int):=B7;unfold A5;generalize Bn op d a b c n=w at *
 simp only [Bz,hl,EN,hw];refine Ac ok.k405 rfl fun x hx=>?_;refine eX ?_;simp only [PA,YS,Dk,Dl,Dj,DG,D0,DB,LZ,seval];refine Ap (hC) ?_;simp only [EM,w0,Dk,Dl,Dj,DG,D0,DB,seval];refine ⟨by omega,?_⟩;refine Ay.mkO hx [0,1,2,3,4,5,6,7,328] [] [0,8] _ _ _ (by simp only [AA,seval]) Ab (by (simp only [Dz,seval])) (by simp only [DK,seval]) ?_ ⟨rfl,rfl,rfl⟩;simp only [IW,Lc4,Ak,LH,Ai,LY,seval];intro i _;rw [VJ]
 repeat' split
 all_goals rfl
end Mv
