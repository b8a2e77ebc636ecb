/- A part. -/
import Derived.Test.YtgeionenpaopaaaGreatDoorAZ
set_option linter.all false
set_option maxRecDepth 20000
set_option maxHeartbeats 16000000
namespace Mv
open Go
def c42:LC:=(sr [bX 3 1,A1 4 (.mv (.c (.bool false)))] (sr [A1 5 (.mv (.c .nilp))] (sr [A1 23 (.build zK [(.f 0,1,(cU 5))]),A1 24 (.build (.st (.cons zD (.cons zD .nil))) []),kl 25 170 [(.c .nilp),(.t 23),(.t 24)],mt 22 25,ee 26 22 0,ee 27 22 1,mt 6 26,mt 7 27] (sr [mt 29 5,kl 30 171 [(.t 29),(.c .nils)],mt 28 30,ee 31 28 0,ee 32 28 1,mt 8 31,mt 9 32] (sr [mt 34 5,A1 35 (.build (.st (.cons zD (.cons zD .nil))) []),la 36 32 3,kl 37 172 [(.t 34),(.t 35),(.t 36),(cI 0),(cU 0)],mt 33 37,ee 38 33 0,ee 39 33 1,mt 10 38,mt 11 39] (sr [mt 41 5,mt 42 0,kl 43 173 [(.t 41),(.t 42)],mt 40 43,ee 44 40 0,ee 45 40 1,mt 12 44,mt 13 45] (sr [mt 47 5,mt 48 0,la 49 32 3,kl 50 137 [(.t 47),(.t 48),(.t 49),(.c .nils),(cI 0)],mt 46 50,ee 51 46 0,ee 52 46 1,A1 14 (.alloc zK),sb 2 14 51,mt 15 52] (sr [mt 54 5,mt 55 0,kl 56 174 [(.t 54),(.t 55)],mt 53 56,ee 57 53 0,ee 58 53 1,mt 16 57,mt 17 58] (.seq (sr [mt 59 7,mt 60 9,mt 61 11,mt 62 13,mt 63 15,mt 64 17,mt 65 5,mt 66 0,A1 67 (.build (.st (.cons zD (.cons zM (.cons .slice .nil)))) []),kl 68 175 [(.t 65),(.t 66),(.t 67)],A1 69 (.bsl 1 7 .iface [(.i 1 0,1,(.t 59)),(.i 1 1,1,(.t 60)),(.i 1 2,1,(.t 61)),(.i 1 3,1,(.t 62)),(.i 1 4,1,(.t 63)),(.i 1 5,1,(.t 64)),(.i 1 6,1,(.t 68))]),
  lN 70 0 69,
  mI 71 0] (.block 0 (.loop (sr [ak 72 .lss 71 70] (.seq (Fy 72 0) (.seq (.block 1 (sr [ia 73 1 69 71,lb 74 1 73,mt 19 74] (sr [mt 75 19,A1 76 (.mkif 74 (cI 1)),kl 77 63 [(.t 75),(.t 76)],A1 78 (.un .not (.t 77))] (.cond (.t 78) (sr [A1 4 (.mv (.c (.bool false)))] .ret) .skip)))) (.reg [aI 79 .add 71 1,mt 71 79]))))))) (sr [kl 81 176 [(cU 1)],A1 82 (.build zK []),A1 83 (.build (.st (.cons zD (.cons zD .nil))) []),kl 84 170 [(.t 81),(.t 82),(.t 83)],mt 80 84,ee 85 80 0,ee 86 80 1,mt 20 85,mt 21 86] (sr [kl 87 136 [],mt 88 87,mg 89 88 true 5,⟨(some 90),.call 177 [(.t 89)],(some (88,true))⟩,A2 91 88 true (.len 0 (.t 90)),A2 92 88 true (.ari .eql (.t 91) (cI 0)),
  N6 93 88 92,mt 94 93,mg 95 94 true 21,A2 96 94 true (.mkif 74 (cI 2)),⟨(some 97),.call 63 [(.t 95),(.t 96)],(some (94,true))⟩,
  N6 98 94 97,mt 4 98] .ret)))))))))))
def f42:LF:=⟨c42,2,0,99,[.tmp 4]⟩
def Az0:LC:=(sr [bX 1 0,A1 2 (.mv (.c .nilp))] (.seq (.regd [⟨0,0,kl 6 176 [(cU 1000)]⟩,⟨1,0,A1 7 (.build zK [(.f 0,1,(cU 100))])⟩,⟨2,0,la 8 64 1⟩,⟨3,7,kl 9 170 [(.t 6),(.t 7),(.t 8)]⟩,⟨4,15,mt 5 9⟩,⟨5,31,ee 10 5 0⟩,⟨6,31,ee 11 5 1⟩,⟨7,63,mt 3 10⟩,⟨8,255,mt 4 11⟩]) (.seq (sr [mt 12 4,A1 13 (.eq true true (.iface [74]) (.t 12) (.c .nili))] (.cond (.t 13) (sr [A1 2 (.mv (.c .nilp))] .ret) .skip)) (sr [mt 14 3,mt 2 14] .ret))))
def Axd:LF:=⟨Az0,1,0,15,[.tmp 2]⟩
def Az3:LC:=(sr [A1 0 (.mv (.c (.bool false)))] (sr [A1 10 (.build (.st (.cons zD (.cons zD .nil))) []),kl 11 135 [(.t 10)],mt 1 11] (.seq (sr [mt 12 1,A1 13 (.eq false true .ptr (.t 12) (.c .nilp)),mt 14 13,mg 15 14 false 1,⟨(some 16),.call 177 [(.t 15)],(some (14,false))⟩,A2 17 14 false (.len 0 (.t 16)),A2 18 14 false (.ari .neq (.t 17) (cI 1)),
  FB 19 14 18] (.cond (.t 19) (sr [A1 0 (.mv (.c (.bool false)))] .ret) .skip)) (sr [mt 21 1,A1 22 (.build (.st (.cons zD (.cons zD .nil))) []),A1 23 (.build zD []),kl 24 172 [(.t 21),(.t 22),(.t 23),(cI 0),(cU 0)],mt 20 24,ee 25 20 0,ee 26 20 1,mt 2 25,mt 3 26] (sr [mt 28 1,A1 29 (.bsl 1 1 (.int .u8) [(.i 1 0,1,(.c (.int .u8 1)))]),kl 30 171 [(.t 28),(.t 29)],mt 27 30,ee 31 27 0,ee 32 27 1,mt 4 31,mt 5 32] (sr [mt 34 1,A1 35 (.build (.st (.cons zD (.cons zD .nil))) []),A1 36 (.build zD [(.i 1 0,1,(.c (.int .u8 9)))]),kl 37 172 [(.t 34),(.t 35),(.t 36),(cI 0),(cU 0)],mt 33 37,ee 38 33 0,ee 39 33 1,mt 6 38,mt 7 39] (sr [mt 41 1,kl 42 173 [(.t 41),(cI 0)],mt 40 42,ee 43 40 0,ee 44 40 1,mt 8 43,mt 9 44] (sr [mt 45 3,A1 46 (.mkif 74 (cI 4)),kl 47 63 [(.t 45),(.t 46)],mt 48 47,mg 49 48 true 4,A2 50 48 true (.ari .eql (.t 49) (cI 0)),
  N6 51 48 50,mt 52 51,mg 53 52 true 5,A2 54 52 true (.eq false true (.iface [74]) (.t 53) (.c .nili)),
  N6 55 52 54,mt 56 55,mg 57 56 true 6,A2 58 56 true (.ari .eql (.t 57) (cI 0)),
  N6 59 56 58,mt 60 59,mg 61 60 true 7,A2 62 60 true (.eq false true (.iface [74]) (.t 61) (.c .nili)),
  N6 63 60 62,mt 64 63,mg 65 64 true 9,A2 66 64 true (.eq false true (.iface [74]) (.t 65) (.c .nili)),
  N6 67 64 66,mt 68 67,mg 69 68 true 8,A2 70 68 true (.eq true true .ptr (.t 69) (.c .nilp)),
  N6 71 68 70,mt 72 71,mg 73 72 true 8,⟨(some 74),.call 117 [(.t 73)],(some (72,true))⟩,A2 75 72 true (.ari .eql (.t 74) (cI 1)),
  N6 76 72 75,mt 77 76,A1 78 (.pick (.t 77) (.c (.bool true)) (.c (.bool false))),mt 79 78,A1 80 (.pick (.t 79) (.c (.bool true)) (.c (.bool false))),mt 81 80,A1 82 (.pick (.t 81) (.c (.bool true)) (.c (.bool false))),mt 0 82] .ret))))))))
def Aze:LF:=⟨Az3,0,0,83,[.tmp 0]⟩
def Avt:LC:=(sr [bX 4 1,
 bX 5 2,A1 6 (.mv (.c .nilp)),mn 7] (.seq (sr [mt 9 0,A1 10 (.eq false true .ptr (.t 9) (.c .nilp))] (.cond (.t 10) (sr [A1 11 (.mkif 74 (cI 1)),A1 6 (.mv (.c .nilp)),mt 7 11] .ret) .skip)) (.seq (sr [la 12 2 4,kl 13 249 [(.t 12)],mt 8 13] (sr [mt 14 8,A1 15 (.eq true true (.iface [74]) (.t 14) (.c .nili))] (.cond (.t 15) (sr [mt 16 8,A1 6 (.mv (.c .nilp)),mt 7 16] .ret) .skip))) (sr [mt 17 0,la 18 2 4,la 19 64 5,A1 20 (.bsl 64 1 (.st (.cons zD (.cons zD .nil))) [(.i 64 0,64,(.t 19))]),A1 21 (.mkmap zD .bool),A1 22 (.build (.st (.cons .ptr (.cons zK (.cons .slice (.cons .slice (.cons .slice (.cons .map .nil))))))) [(.f 0,1,(.t 17)),(.f 1,2,(.t 18)),(.f 5,1,(.t 20)),(.f 6,1,(.t 21))]),
  bX 23 22,mt 6 23,mn 7] .ret))))
def Au5:LF:=⟨Avt,3,0,24,[.tmp 6,.tmp 7]⟩
def Awg:LC:=(sr [mI 4 0,mn 5] (.seq (.block 0 (sr [mt 7 0,A1 8 (.eq false true .ptr (.t 7) (.c .nilp)),mt 6 8] (.cond (.t 6) (sr [A1 9 (.mkif 74 (cI 1)),
  mI 4 0,mt 5 9] .ret) (sr [mt 11 0,nc 12 11,fa 13 3 12,lb 14 1 13,
  lN 15 0 14,aI 16 .geq 15 16,mt 10 16] (.cond (.t 10) (sr [A1 17 (.mkif 74 (cI 5)),
  mI 4 0,mt 5 17] .ret) (sr [mt 19 1,
  lN 20 0 19,aI 21 .gtr 20 4096,mt 18 21] (.cond (.t 18) (sr [A1 22 (.mkif 74 (cI 2)),
  mI 4 0,mt 5 22] .ret) .skip))))))) (.seq (.regd [⟨5,0,mt 28 1⟩,⟨6,1,kl 29 277 [(.t 28)]⟩,⟨1,0,mt 24 0⟩,⟨2,4,nc 25 24⟩,⟨3,12,fa 26 3 25⟩,⟨4,28,lb 27 1 26⟩,⟨7,3,A1 30 (.bsl 1 1 .slice [(.i 1 0,1,(.t 29))])⟩,⟨8,127,aP 31 1 24 27 30⟩,⟨0,0,mt 23 0⟩,⟨9,511,nc 32 23⟩,⟨10,1023,fa 33 3 32⟩,⟨11,2047,sb 1 33 31⟩]) (sr [mt 34 0,nc 35 34,fa 36 3 35,lb 37 1 36,
  lN 38 0 37,aI 39 .sub 38 1,mt 4 39,mn 5] .ret))))
def Av9:LF:=⟨Awg,2,0,40,[.tmp 4,.tmp 5]⟩
def Awa:LC:=(sr [bX 6 1,
 bX 7 2,
 mI 10 0,mn 11] (.seq (sr [mt 17 0,A1 18 (.eq false true .ptr (.t 17) (.c .nilp))] (.cond (.t 18) (sr [A1 19 (.mkif 74 (cI 1)),
  mI 10 0,mt 11 19] .ret) .skip)) (sr [mt 20 0,nc 21 20,fa 22 5 21,lb 23 1 22,
  lN 24 0 23,aI 25 .sub 24 1,A1 12 (.alloc zI),sb 1 12 25] (.seq (.block 0 (.seq (.regd [⟨0,0,lb 27 1 12⟩,⟨1,0,mt 28 0⟩,⟨2,2,nc 29 28⟩,⟨3,6,fa 30 3 29⟩,⟨4,14,lb 31 1 30⟩,⟨5,30,lN 32 0 31⟩,⟨6,63,ak 33 .geq 27 32⟩,⟨7,127,mt 26 33⟩]) (.cond (.t 26) (sr [A1 34 (.mkif 74 (cI 4)),
  mI 10 0,mt 11 34] .ret) (sr [mt 36 0,nc 37 36,fa 38 4 37,lb 39 1 38,
  lN 40 0 39,aI 41 .geq 40 16,mt 35 41] (.cond (.t 35) (sr [A1 42 (.mkif 74 (cI 5)),
  mI 10 0,mt 11 42] .ret) (sr [mt 44 0,nc 45 44,fa 46 4 45,lb 47 1 46,A1 48 (.mkfn 279 [(.t 12),(.t 6),(.t 7)]),kl 49 278 [(.t 47),(.t 48)],mt 43 49] (.cond (.t 43) (sr [A1 50 (.mkif 74 (cI 41)),
  mI 10 0,mt 11 50] .ret) .skip))))))) (sr [mt 52 0,lb 53 1 12,kl 54 174 [(.t 52),(.t 53)],mt 51 54,ee 55 51 0,ee 56 51 1,mt 13 55,mt 14 56] (.seq (sr [mt 57 14,A1 58 (.eq true true (.iface [74]) (.t 57) (.c .nili))] (.cond (.t 58) (sr [mt 59 14,
  mI 10 0,mt 11 59] .ret) .skip)) (sr [mt 61 13,kl 62 54 [(.t 61)],mt 60 62,ee 63 60 0,ee 64 60 1,
  aB 15 32,sb 32 15 63,mt 14 64] (.seq (sr [mt 65 14,A1 66 (.eq true true (.iface [74]) (.t 65) (.c .nili))] (.cond (.t 66) (sr [mt 67 14,
  mI 10 0,mt 11 67] .ret) .skip)) (.seq (.regd [⟨0,0,mt 69 0⟩,⟨1,1,nc 70 69⟩,⟨2,3,fa 71 1 70⟩,⟨3,7,la 72 2 71⟩,⟨4,0,la 73 32 15⟩,⟨5,31,A1 74 (.build (.st (.cons zI (.cons zK (.cons zD .nil)))) [(.f 0,1,(cI 20)),(.f 1,2,(.t 72)),(.f 3,32,(.t 73))])⟩,⟨6,0,mt 75 0⟩,⟨7,64,nc 76 75⟩,⟨8,192,fa 77 0 76⟩,⟨9,448,lb 78 1 77⟩,⟨10,0,mt 79 3⟩,⟨11,0,la 80 32 7⟩,⟨12,0,mt 81 4⟩,⟨13,8191,kl 82 112 [(.t 74),(.t 78),(.t 79),(.t 80),(.t 81)]⟩,⟨14,16383,mt 68 82⟩,⟨15,32767,ee 83 68 0⟩,⟨16,32767,ee 84 68 1⟩,⟨17,65535,mt 16 83⟩,⟨18,262143,mt 14 84⟩]) (.seq (sr [mt 85 14,A1 86 (.eq true true (.iface [74]) (.t 85) (.c .nili))] (.cond (.t 86) (sr [mt 87 14,
  mI 10 0,mt 11 87] .ret) .skip)) (.seq (.regd [⟨1,0,mt 89 0⟩,⟨2,1,nc 90 89⟩,⟨3,3,fa 91 4 90⟩,⟨4,7,lb 92 1 91⟩,⟨5,0,la 93 64 6⟩,⟨6,0,lb 94 1 12⟩,⟨7,0,la 95 32 7⟩,⟨8,0,mt 96 16⟩,⟨9,240,A1 97 (.build (.st (.cons (.st (.cons zD (.cons zD .nil))) (.cons zI (.cons zD (.cons .ptr .nil))))) [(.f 0,64,(.t 93)),(.f 64,1,(.t 94)),(.f 65,32,(.t 95)),(.f 97,1,(.t 96))])⟩,⟨10,496,A1 98 (.bsl 98 1 (.st (.cons (.st (.cons zD (.cons zD .nil))) (.cons zI (.cons zD (.cons .ptr .nil))))) [(.i 98 0,98,(.t 97))])⟩,⟨11,1023,aP 99 98 112 92 98⟩,⟨0,0,mt 88 0⟩,⟨12,4095,nc 100 88⟩,⟨13,8191,fa 101 4 100⟩,⟨14,16383,sb 1 101 99⟩]) (sr [mt 102 0,nc 103 102,fa 104 4 103,lb 105 1 104,
  lN 106 0 105,aI 107 .sub 106 1,mt 10 107,mn 11] .ret))))))))))))
def Auk:LF:=⟨Awa,5,0,108,[.tmp 10,.tmp 11]⟩
def Aw3:LC:=(sr [A1 4 (.mv (.c .nilp)),mn 5] (sr [mt 9 0,mt 10 1,kl 11 280 [(.t 9),(.t 10)],mt 8 11,ee 12 8 0,ee 13 8 1,A1 6 (.alloc (.st (.cons (.st (.cons zD (.cons zD .nil))) (.cons zI (.cons zD (.cons .ptr .nil)))))),sb 98 6 12,mt 7 13] (sr [fa 14 97 6,lb 15 1 14,mt 16 7,mt 4 15,mt 5 16] .ret)))
def Avu:LF:=⟨Aw3,2,0,17,[.tmp 4,.tmp 5]⟩
def Aw5:LC:=(sr [A1 4 (.mv (.c .nilp)),mn 5] (.seq (.block 0 (sr [mt 9 0,A1 10 (.eq false true .ptr (.t 9) (.c .nilp)),mt 8 10] (.cond (.t 8) (sr [A1 11 (.mkif 74 (cI 1)),A1 4 (.mv (.c .nilp)),mt 5 11] .ret) (sr [mt 13 1,aI 14 .lss 13 0,mt 15 14,mg 16 15 false 1,mg 17 15 false 0,A2 18 15 false (.nilc (.t 17)),A2 19 15 false (.fadr 3 (.t 18)),A2 20 15 false (.load false 1 (.t 19)),A2 21 15 false (.len 0 (.t 20)),A2 22 15 false (.ari .geq (.t 16) (.t 21)),
  FB 23 15 22,mt 24 23,mg 25 24 false 1,mg 26 24 false 0,A2 27 24 false (.nilc (.t 26)),A2 28 24 false (.fadr 5 (.t 27)),A2 29 24 false (.load false 1 (.t 28)),A2 30 24 false (.len 0 (.t 29)),A2 31 24 false (.ari .geq (.t 25) (.t 30)),
  FB 32 24 31,mt 12 32] (.cond (.t 12) (sr [A1 33 (.mkif 74 (cI 4)),A1 4 (.mv (.c .nilp)),mt 5 33] .ret) .skip))))) (sr [mt 35 0,nc 36 35,fa 37 3 36,lb 38 1 37,mt 39 1,ia 40 1 38 39,lb 41 1 40,kl 42 282 [(.t 41)],kl 43 281 [(.t 42)],mt 34 43,ee 44 34 0,ee 45 34 1,
  aB 6 32,sb 32 6 44,mt 7 45] (.seq (sr [mt 46 7,A1 47 (.eq true true (.iface [74]) (.t 46) (.c .nili))] (.cond (.t 47) (sr [mt 48 7,A1 4 (.mv (.c .nilp)),mt 5 48] .ret) .skip)) (.seq (.regd [⟨0,0,mt 49 0⟩,⟨1,1,nc 50 49⟩,⟨2,3,fa 51 5 50⟩,⟨3,7,lb 52 1 51⟩,⟨4,0,mt 53 1⟩,⟨5,31,ia 54 64 52 53⟩,⟨6,63,fa 55 0 54⟩,⟨7,127,la 56 32 55⟩,⟨8,0,mt 57 0⟩,⟨9,256,nc 58 57⟩,⟨10,768,fa 59 5 58⟩,⟨11,1792,lb 60 1 59⟩,⟨12,0,mt 61 1⟩,⟨13,7936,ia 62 64 60 61⟩,⟨14,16128,fa 63 32 62⟩,⟨15,32512,la 64 32 63⟩,⟨16,0,la 65 32 6⟩,⟨17,131071,kl 66 283 [(.t 56),(.t 64),(.t 65)]⟩,⟨18,262143,ee 67 66 0⟩,⟨19,262143,ee 68 66 1⟩,⟨20,1048575,mt 4 67⟩,⟨21,2097151,mt 5 68⟩]) .ret)))))
def Av0:LF:=⟨Aw5,2,0,69,[.tmp 4,.tmp 5]⟩
def A0f:LC:=(sr [bX 5 2,mn 6] (sr [mt 11 0,mt 12 1,kl 13 280 [(.t 11),(.t 12)],mt 10 13,ee 14 10 0,ee 15 10 1,A1 7 (.alloc (.st (.cons (.st (.cons zD (.cons zD .nil))) (.cons zI (.cons zD (.cons .ptr .nil)))))),sb 98 7 14,mt 8 15] (.seq (sr [mt 16 8,A1 17 (.eq true true (.iface [74]) (.t 16) (.c .nili))] (.cond (.t 17) (sr [mt 18 8,mt 6 18] .ret) .skip)) (.seq (.block 0 (.seq (.regd [⟨0,0,fa 20 64 7⟩,⟨1,1,lb 21 1 20⟩,⟨2,0,mt 22 0⟩,⟨3,4,nc 23 22⟩,⟨4,12,fa 24 5 23⟩,⟨5,28,lb 25 1 24⟩,⟨6,60,lN 26 0 25⟩,⟨7,124,aI 27 .sub 26 1⟩,⟨8,255,ak 28 .neq 21 27⟩,⟨9,511,mt 29 28⟩,⟨10,1023,A2 30 29 false (.fadr 97 (.t 7))⟩,⟨11,2047,A2 31 29 false (.load false 1 (.t 30))⟩,⟨12,4095,⟨(some 32),.call 118 [(.t 31)],(some (29,false))⟩⟩,⟨13,8191,A2 33 29 false (.ari .eql (.t 32) (cI 2))⟩,⟨14,16383,FB 34 29 33⟩,⟨15,32767,mt 19 34⟩]) (.cond (.t 19) (sr [A1 35 (.mkif 74 (cI 43)),mt 6 35] .ret) (sr [fa 37 97 7,lb 38 1 37,kl 39 118 [(.t 38)],aI 40 .eql 39 0,mt 36 40] (.cond (.t 36) (sr [A1 41 (.mkif 74 (cI 44)),mt 6 41] .ret) .skip))))) (sr [fa 43 65 7,la 44 32 43,la 45 52 5,kl 46 192 [(.t 44),(.t 45)],mt 42 46,ee 47 42 0,ee 48 42 1,
  aB 9 32,sb 32 9 47,mt 8 48] (.seq (.block 1 (sr [mt 50 8,A1 51 (.eq true true (.iface [74]) (.t 50) (.c .nili)),mt 49 51] (.cond (.t 49) (sr [mt 52 8,mt 6 52] .ret) (.seq (.regd [⟨1,0,fa 55 0 7⟩,⟨2,1,fa 56 0 55⟩,⟨3,3,la 57 32 56⟩,⟨4,0,fa 58 0 7⟩,⟨5,8,fa 59 32 58⟩,⟨6,24,la 60 32 59⟩,⟨7,63,kl 61 284 [(.t 57),(.t 60)]⟩,⟨0,0,la 54 32 9⟩,⟨8,255,A1 62 (.eq true false (.ar 32 1 false .int) (.t 54) (.t 61))⟩,⟨9,511,mt 53 62⟩]) (.cond (.t 53) (sr [A1 63 (.mkif 74 (cI 31)),mt 6 63] .ret) .skip))))) (.seq (.regd [⟨1,0,mt 65 0⟩,⟨2,1,nc 66 65⟩,⟨3,3,fa 67 5 66⟩,⟨4,7,lb 68 1 67⟩,⟨5,0,fa 69 0 7⟩,⟨6,16,la 70 64 69⟩,⟨7,48,A1 71 (.bsl 64 1 (.st (.cons zD (.cons zD .nil))) [(.i 64 0,64,(.t 70))])⟩,⟨8,127,aP 72 64 64 68 71⟩,⟨0,0,mt 64 0⟩,⟨9,511,nc 73 64⟩,⟨10,1023,fa 74 5 73⟩,⟨11,2047,sb 1 74 72⟩]) (sr [mn 6] .ret))))))))
def Ayy:LF:=⟨A0f,3,0,75,[.tmp 6]⟩
def Az2:LC:=(sr [A1 2 (.mv (.c .nilp))] (sr [kl 5 222 [],mt 3 5] (.seq (sr [mI 6 0] (.block 0 (.loop (sr [aI 7 .lss 6 8] (.seq (Fy 7 0) (.seq (.block 1 (sr [mt 8 6,mt 4 8] (sr [mt 9 3,A1 10 (.eq false true .ptr (.t 9) (.c .nilp)),mt 11 10,mg 12 11 false 3,mg 13 11 false 4,mg 14 11 false 0,⟨(some 15),.call 223 [(.t 12),(.t 13),(.t 14)],(some (11,false))⟩,A2 16 11 false (.eq true true (.iface [74]) (.t 15) (.c .nili)),
  FB 17 11 16] (.cond (.t 17) (sr [A1 2 (.mv (.c .nilp))] .ret) .skip)))) (.reg [aI 18 .add 6 1,mt 6 18]))))))) (sr [mt 19 3,mt 2 19] .ret))))
def Axv:LF:=⟨Az2,1,0,20,[.tmp 2]⟩
def Aw0:LC:=(sr [A1 2 (.mv (.c .nils))] (.seq (sr [mt 3 0,A1 4 (.eq false true .ptr (.t 3) (.c .nilp))] (.cond (.t 4) (sr [A1 2 (.mv (.c .nils))] .ret) .skip)) (sr [mt 5 0,nc 6 5,fa 7 5 6,lb 8 1 7,kl 9 285 [(.t 8)],mt 2 9] .ret)))
def Avx:LF:=⟨Aw0,1,0,10,[.tmp 2]⟩
def A0e:LC:=(sr [bX 7 2,A1 10 (.alloc zK),mn 11] (.seq (.block 0 (sr [mt 14 0,A1 15 (.eq false true .ptr (.t 14) (.c .nilp)),mt 13 15] (.cond (.t 13) (sr [A1 16 (.build zK []),A1 17 (.mkif 74 (cI 1)),sb 2 10 16,mt 11 17] .ret) (sr [mt 19 1,aI 20 .lss 19 0,mt 21 20,mg 22 21 false 1,mg 23 21 false 0,A2 24 21 false (.nilc (.t 23)),A2 25 21 false (.fadr 5 (.t 24)),A2 26 21 false (.load false 1 (.t 25)),A2 27 21 false (.len 0 (.t 26)),A2 28 21 false (.ari .geq (.t 22) (.t 27)),
  FB 29 21 28,mt 18 29] (.cond (.t 18) (sr [A1 30 (.build zK []),A1 31 (.mkif 74 (cI 4)),sb 2 10 30,mt 11 31] .ret) (sr [mt 33 4,aI 34 .lss 33 0,mt 35 34,mg 36 35 false 4,mg 37 35 false 3,A2 38 35 false (.len 0 (.t 37)),A2 39 35 false (.ari .geq (.t 36) (.t 38)),
  FB 40 35 39,mt 32 40] (.cond (.t 32) (sr [A1 41 (.build zK []),A1 42 (.mkif 74 (cI 2)),sb 2 10 41,mt 11 42] .ret) (.seq (.regd [⟨0,0,la 44 32 7⟩,⟨1,0,mt 45 3⟩,⟨2,3,kl 46 262 [(.t 44),(.t 45)]⟩,⟨3,0,mt 47 0⟩,⟨4,8,nc 48 47⟩,⟨5,24,fa 49 5 48⟩,⟨6,56,lb 50 1 49⟩,⟨7,0,mt 51 1⟩,⟨8,248,ia 52 64 50 51⟩,⟨9,504,fa 53 32 52⟩,⟨10,1016,la 54 32 53⟩,⟨11,2047,A1 55 (.eq true false (.ar 32 1 false .int) (.t 46) (.t 54))⟩,⟨12,4095,mt 43 55⟩]) (.cond (.t 43) (sr [A1 56 (.build zK []),A1 57 (.mkif 74 (cI 31)),sb 2 10 56,mt 11 57] .ret) .skip))))))))) (.seq (.regd [⟨0,0,la 58 32 7⟩,⟨1,0,mt 59 3⟩,⟨2,0,mt 60 4⟩,⟨3,4,aI 61 .add 60 1⟩,⟨4,14,A1 62 (.slsl 2 (.t 59) none (some (.t 61)))⟩,⟨5,31,kl 63 262 [(.t 58),(.t 62)]⟩,⟨6,0,aB 12 32⟩,⟨7,127,sb 32 12 63⟩]) (.seq (.seq (.regd [⟨0,0,mt 64 0⟩,⟨1,1,nc 65 64⟩,⟨2,3,fa 66 6 65⟩,⟨3,7,lb 67 1 66⟩,⟨4,0,la 68 32 12⟩,⟨5,31,A1 69 (.mlook (.ar 32 1 false .int) .bool false (.t 67) (.t 68))⟩]) (.cond (.t 69) (sr [A1 70 (.build zK []),A1 71 (.mkif 74 (cI 41)),sb 2 10 70,mt 11 71] .ret) .skip)) (.seq (.regd [⟨0,0,mt 72 0⟩,⟨1,1,nc 73 72⟩,⟨2,3,fa 74 6 73⟩,⟨3,7,lb 75 1 74⟩,⟨4,0,la 76 32 12⟩,⟨5,31,A0 (.mupd (.ar 32 1 false .int) (.t 75) (.t 76) (.c (.bool true)))⟩]) (sr [mt 77 3,mt 78 4,ia 79 2 77 78,la 80 2 79,sb 2 10 80,mn 11] .ret))))))
def Aye:LF:=⟨A0e,5,0,81,[.cell 10 true 2,.tmp 11]⟩
def Az1:LC:=(sr [A1 4 (.mv (.c (.bool false)))] (sr [mt 5 0,mt 6 1,kl 7 365 [(.t 5),(.t 6)],aI 8 .geq 7 0,mt 4 8] .ret))
def Axx:LF:=⟨Az1,2,0,9,[.tmp 4]⟩
def Ay8:LC:=(sr [A1 4 (.alloc (.st (.cons (.st (.cons zD (.cons zD .nil))) (.cons zI (.cons zD (.cons .ptr .nil)))))),mn 5] (.seq (.block 0 (sr [mt 7 0,A1 8 (.eq false true .ptr (.t 7) (.c .nilp)),mt 6 8] (.cond (.t 6) (sr [A1 9 (.build (.st (.cons (.st (.cons zD (.cons zD .nil))) (.cons zI (.cons zD (.cons .ptr .nil))))) []),A1 10 (.mkif 74 (cI 1)),sb 98 4 9,mt 5 10] .ret) (sr [mt 12 1,aI 13 .lss 12 0,mt 14 13,mg 15 14 false 1,mg 16 14 false 0,A2 17 14 false (.nilc (.t 16)),A2 18 14 false (.fadr 4 (.t 17)),A2 19 14 false (.load false 1 (.t 18)),A2 20 14 false (.len 0 (.t 19)),A2 21 14 false (.ari .geq (.t 15) (.t 20)),
  FB 22 14 21,mt 11 22] (.cond (.t 11) (sr [A1 23 (.build (.st (.cons (.st (.cons zD (.cons zD .nil))) (.cons zI (.cons zD (.cons .ptr .nil))))) []),A1 24 (.mkif 74 (cI 4)),sb 98 4 23,mt 5 24] .ret) .skip))))) (sr [mt 25 0,nc 26 25,fa 27 4 26,lb 28 1 27,mt 29 1,ia 30 98 28 29,la 31 98 30,sb 98 4 31,mn 5] .ret)))
def Av4:LF:=⟨Ay8,2,0,32,[.cell 4 true 98,.tmp 5]⟩
def A0t:LC:=(sr [A1 2 (.mv (.c .nils))] (.seq (sr [mt 3 0,A1 4 (.eq false true (.nils 0) (.t 3) (.c .nils))] (.cond (.t 4) (sr [A1 2 (.mv (.c .nils))] .ret) .skip)) (sr [A1 5 (.bsl 64 0 (.st (.cons zD (.cons zD .nil))) []),mt 6 0,
  aP 7 64 64 5 6,mt 2 7] .ret)))
def Awh:LF:=⟨A0t,1,0,8,[.tmp 2]⟩
def A0b:LC:=(sr [mI 4 0] (.seq (sr [mt 6 0,
  lN 7 0 6,
  mI 8 0] (.block 0 (.loop (sr [ak 9 .lss 8 7] (.seq (Fy 9 0) (.seq (.block 1 (sr [mt 10 8,mt 5 10] (sr [mt 11 1,mt 12 0,mt 13 5,ia 14 98 12 13,la 15 98 14,⟨(some 16),.dyn (.t 11) [(.t 15)],none⟩] (.cond (.t 16) (sr [mt 17 5,mt 4 17] .ret) .skip)))) (.reg [aI 18 .add 8 1,mt 8 18]))))))) (sr [A1 4 (.mv (.c (.int .i64 (-1))))] .ret)))
def Awn:LF:=⟨A0b,2,0,19,[.tmp 4]⟩
variable {M:Seat}
structure OkRu (M:Seat):Prop where
 n:OkGN M
 l:OkLd M
 t:OkTx M
 k249:Ar M 249 Av2=true
 k135:Ar M 135 Axd=true
 k137:Ar M 137 Aye=true
 k170:Ar M 170 Au5=true
 k171:Ar M 171 Av9=true
 k172:Ar M 172 Auk=true
 k173:Ar M 173 Avu=true
 k174:Ar M 174 Av0=true
 k175:Ar M 175 Ayy=true
 k176:Ar M 176 Axv=true
 k177:Ar M 177 Avx=true
 k278:Ar M 278 Axx=true
 k280:Ar M 280 Av4=true
 k285:Ar M 285 Awh=true
 k365:Ar M 365 Awn=true
def E3 (r o:Dg):V:=.st 64 (.fcons 0 (dg r) (.fcons 32 (dg o) .fnil))
def Iv (r o:Dg) (b:Int) (f:Dg) (g:V):V:=.st 98 (.fcons 0 (E3 r o) (.fcons 64 (.int .i64 b) (.fcons 65 (dg f) (.fcons 97 g .fnil))))
def msV (a b:BitVec 64):V:=.st 2 (.fcons 0 (W a) (.fcons 1 (W b) .fnil))
def L3 (ld:V) (l g:BitVec 64) (bt pr fi mp:V):V:=.st 7 (.fcons 0 ld (.fcons 1 (Ap8 l g) (.fcons 3 bt (.fcons 4 pr (.fcons 5 fi (.fcons 6 mp .fnil))))))
theorem Ars (ok:OkRu M):As M 249 [Ap8 100#64 0#64] [] 0 (Q3 .nili [] 0):=by
 refine Ac ok.k249 rfl fun x hx=>?_;refine eX ?_;simp only [Av2,Azf,Ap8,LZ,seval];exact Ay.mkZ hx [] ⟨rfl,rfl,rfl⟩
theorem Aud (ok:OkRu M):As M 249 [Ap8 0#64 0#64] [] 0 (Q3 (er 2) [] 0):=by
 refine Ac ok.k249 rfl fun x hx=>?_;refine eX ?_;simp only [Av2,Azf,Ap8,LZ,seval];exact Ay.mkZ hx [] ⟨rfl,rfl,rfl⟩
theorem Asp (ok:OkRu M) (l g:BitVec 64) (r o:Dg):As M 170 [.nilp,Ap8 l g,E3 r o] [] 0 (Q3 (AP .nilp (er 1)) [] 0):=by
 refine Ac ok.k170 rfl fun x hx=>?_;refine eX ?_;simp only [Au5,Avt,Ap8,E3,LZ,seval];have zz:=@b5;exact DD hx [] ⟨rfl,rfl,rfl⟩
theorem Asq (ok:OkRu M) (r o:Dg):As M 170 [.ptr 0 [],Ap8 0#64 0#64,E3 r o] [] 1 (Q3 (AP .nilp (er 2)) [] 1):=by
 have h:=Aud ok;refine Ac ok.k170 rfl fun x hx=>?_;refine eX ?_;simp only [Au5,Avt,Ap8,E3,LZ,seval];have zz:=@b7;refine IQ (h) ?_;simp only [LZ,seval];have zz:=@b5;exact DD hx [0] ⟨rfl,rfl,rfl⟩
theorem Asv (ok:OkRu M) (b:V):As M 171 [.nilp,b] [] 0 (Q3 (AP (.int .i64 0) (er 1)) [] 0):=by
 refine Ac ok.k171 rfl fun x hx=>?_;refine eX ?_;simp only [Av9,Awg,LZ,seval];have zz:=@b5;exact DD hx [] ⟨rfl,rfl,rfl⟩
theorem Aro (ok:OkRu M) (r o f:Dg) (p:Int) (t:BitVec 64):As M 172 [.nilp,E3 r o,dg f,.int .i64 p,W t] [] 0 (Q3 (AP (.int .i64 0) (er 1)) [] 0):=by
 refine Ac ok.k172 rfl fun x hx=>?_;refine eX ?_;simp only [Auk,Awa,E3,LZ,seval];have zz:=@b5;exact DD hx [] ⟨rfl,rfl,rfl⟩
theorem Arf (ok:OkRu M) (i:Int):As M 280 [.nilp,.int .i64 i] [] 0 (Q3 (AP (Iv Dg.zero Dg.zero 0 Dg.zero .nilp) (er 1)) [] 0):=by
 refine Ac ok.k280 rfl fun x hx=>?_;refine eX ?_;simp only [Av4,Ay8,LZ,seval];have zz:=aq4 @b5 @Iv.eq_1 @E3.eq_1 @a6;exact DD hx [] ⟨rfl,rfl,rfl⟩
theorem Atg (ok:OkRu M) (i:Int):As M 173 [.nilp,.int .i64 i] [] 0 (Q3 (AP .nilp (er 1)) [] 0):=by
 have h:=Arf ok i;refine Ac ok.k173 rfl fun x hx=>?_;refine eX ?_;simp only [Avu,Aw3,LZ,seval];have zz:=Jr @Iv.eq_1 @E3.eq_1 @a6;refine IQ (h) ?_;simp only [EM,Iv,E3,seval];have zz:=@b5;exact DD hx [] ⟨rfl,rfl,rfl⟩
theorem Arc (ok:OkRu M) (n:Int) (h:Dg) (i:Int):As M 137 [.nilp,.int .i64 n,dg h,.nils,.int .i64 i] [] 0 (Q3 (AP (msV 0#64 0#64) (er 1)) [] 0):=by
 refine Ac ok.k137 rfl fun x hx=>?_;refine eX ?_;simp only [Aye,A0e,LZ,seval];have zz:=BK @b5 @msV.eq_1;exact DD hx [] ⟨rfl,rfl,rfl⟩
theorem Asl (ok:OkRu M) (n:Int):As M 174 [.nilp,.int .i64 n] [] 0 (Q3 (AP .nilp (er 1)) [] 0):=by
 refine Ac ok.k174 rfl fun x hx=>?_;refine eX ?_;simp only [Av0,Aw5,LZ,seval];have zz:=@b5;exact DD hx [] ⟨rfl,rfl,rfl⟩
def shZ:V:=.st 52 (.fcons 0 (dg Dg.zero) (.fcons 32 (.st 19 (.fcons 0 (.ar 1 16 fun _=>W 0#64) (.fcons 16 (W 0#64) (.fcons 17 (.bool false) (.fcons 18 (W 0#64) .fnil))))) (.fcons 51 .nils .fnil)))
theorem Arg (ok:OkRu M) (i:Int):As M 175 [.nilp,.int .i64 i,shZ] [] 0 (Q3 (er 1) [] 0):=by
 have h:=Arf ok i;refine Ac ok.k175 rfl fun x hx=>?_;refine eX ?_;simp only [Ayy,A0f,shZ,LZ,seval];have zz:=Jr @Iv.eq_1 @E3.eq_1 @a6;refine IQ (h) ?_;simp only [EM,Iv,E3,seval];have zz:=@b5;exact DD hx [] ⟨rfl,rfl,rfl⟩
theorem Asu (ok:OkRu M):As M 177 [.nilp] [] 0 (Q3 .nils [] 0):=by
 refine Ac ok.k177 rfl fun x hx=>?_;refine eX ?_;simp only [Avx,Aw0,LZ,seval];exact Ay.mkZ hx [] ⟨rfl,rfl,rfl⟩
def b8:=@E3.eq_1
def c6:=@L3.eq_1
def k8:=@Iv.eq_1
end Mv
