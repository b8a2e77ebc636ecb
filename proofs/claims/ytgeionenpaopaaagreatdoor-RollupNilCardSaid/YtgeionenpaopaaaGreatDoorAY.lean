/- A part. -/
import Derived.Test.YtgeionenpaopaaaGreatDoorAX
set_option linter.all false
set_option maxRecDepth 20000
set_option maxHeartbeats 16000000
namespace Mv
open Go
def Azx:LC:=(sr [A1 2 (.mv (.c .nils)),A1 3 (.mv (.c .nils)),mn 4] (sr [mt 14 0,kl 15 456 [(.t 14)],mt 13 15,ee 16 13 0,ee 17 13 1,A1 5 (.alloc (.st (.cons .bool (.cons .slice (.cons .slice .nil))))),sb 3 5 16,mt 6 17] (.seq (.block 0 (sr [mt 19 6,A1 20 (.eq true true (.iface [74]) (.t 19) (.c .nili)),mt 18 20] (.cond (.t 18) (sr [mt 21 6,A1 2 (.mv (.c .nils)),A1 3 (.mv (.c .nils)),mt 4 21] .ret) (sr [fa 23 0 5,lb 24 1 23,A1 25 (.un .not (.t 24)),mt 22 25] (.cond (.t 22) (sr [A1 26 (.mkif 74 (cI 3)),A1 2 (.mv (.c .nils)),A1 3 (.mv (.c .nils)),mt 4 26] .ret) (sr [fa 28 2 5,lb 29 1 28,
  lN 30 0 29,aI 31 .gtr 30 8,mt 27 31] (.cond (.t 27) (sr [A1 32 (.mkif 74 (cI 5)),A1 2 (.mv (.c .nils)),A1 3 (.mv (.c .nils)),mt 4 32] .ret) .skip))))))) (sr [A1 7 (.mv (.c .nils))] (sr [A1 8 (.mv (.c .nils))] (.seq (sr [fa 33 2 5,lb 34 1 33,
  lN 35 0 34,
  mI 36 0] (.block 1 (.loop (sr [ak 37 .lss 36 35] (.seq (Fy 37 1) (.seq (.block 2 (sr [mt 38 36,ia 39 3 34 36,la 40 3 39,A1 10 (.alloc (.st (.cons .bool (.cons .slice (.cons .slice .nil))))),mt 9 38,sb 3 10 40] (sr [fa 42 1 10,lb 43 1 42,kl 44 457 [(.t 43)],mt 41 44,ee 45 41 0,ee 46 41 1,A1 11 (.alloc (.st (.cons zU (.cons zU (.cons zU (.cons zU (.cons zU (.cons zU .nil)))))))),sb 6 11 45,mt 12 46] (.seq (sr [fa 47 0 10,lb 48 1 47,mt 49 48,mg 50 49 false 12,A2 51 49 false (.eq true true (.iface [74]) (.t 50) (.c .nili)),
  FB 52 49 51] (.cond (.t 52) (sr [mt 53 8,mt 54 9,A1 55 (.bsl 1 1 zI [(.i 1 0,1,(.t 54))]),
  aP 56 1 8 53 55,mt 8 56]
 (.exit 2)) .skip)) (.reg [mt 57 7,la 58 6 11,A1 59 (.bsl 6 1 (.st (.cons zU (.cons zU (.cons zU (.cons zU (.cons zU (.cons zU .nil))))))) [(.i 6 0,6,(.t 58))]),
  aP 60 6 48 57 59,mt 7 60]))))) (.reg [aI 61 .add 36 1,mt 36 61]))))))) (sr [mt 62 7,mt 63 8,mt 2 62,mt 3 63,mn 4] .ret)))))))
def Aw9:LF:=⟨Azx,1,0,64,[.tmp 2,.tmp 3,.tmp 4]⟩
def A0d:LC:=(sr [A1 2 (.alloc (.st (.cons .bool (.cons .slice (.cons .slice .nil))))),mn 3] (.seq (.block 0 (sr [mt 8 0,
  lN 9 0 8,aI 10 .gtr 9 4096,mt 7 10] (.cond (.t 7) (sr [A1 11 (.build (.st (.cons .bool (.cons .slice (.cons .slice .nil)))) []),A1 12 (.mkif 74 (cI 5)),kl 13 488 [(cI 0),(.t 12)],sb 3 2 11,mt 3 13] .ret) (sr [mt 15 0,
  lN 16 0 15,aI 17 .eql 16 0,mt 14 17] (.cond (.t 14) (sr [A1 18 (.build (.st (.cons .bool (.cons .slice (.cons .slice .nil)))) []),A1 19 (.mkif 74 (cI 11)),kl 20 488 [(cI 0),(.t 19)],sb 3 2 18,mt 3 20] .ret) .skip))))) (sr [mt 22 0,mt 23 0,
  lN 24 0 23,kl 25 489 [(.t 22),(cI 0),(.t 24),(cI 0)],mt 21 25,ee 26 21 0,ee 27 21 1,ee 28 21 2,A1 4 (.alloc (.st (.cons .bool (.cons .slice (.cons .slice .nil))))),sb 3 4 26,mt 5 27,mt 6 28] (.seq (sr [mt 29 6,A1 30 (.eq false true (.iface [74]) (.t 29) (.c .nili)),mt 31 30,mg 32 31 true 5,mg 33 31 true 0,A2 34 31 true (.len 0 (.t 33)),A2 35 31 true (.ari .lss (.t 32) (.t 34)),
  N6 36 31 35] (.cond (.t 36) (sr [A1 37 (.build (.st (.cons .bool (.cons .slice (.cons .slice .nil)))) []),mt 38 5,A1 39 (.mkif 74 (cI 11)),kl 40 488 [(.t 38),(.t 39)],sb 3 2 37,mt 3 40] .ret) .skip)) (sr [la 41 3 4,mt 42 6,sb 3 2 41,mt 3 42] .ret)))))
def Aw8:LF:=⟨A0d,1,0,43,[.cell 2 true 3,.tmp 3]⟩
def A0w:LC:=(sr [A1 8 (.alloc (.st (.cons .bool (.cons .slice (.cons .slice .nil))))),
 mI 9 0,mn 10] (.seq (sr [mt 21 3,aI 22 .geq 21 16] (.cond (.t 22) (sr [A1 23 (.build (.st (.cons .bool (.cons .slice (.cons .slice .nil)))) []),mt 24 1,A1 25 (.mkif 74 (cI 13)),kl 26 488 [(.t 24),(.t 25)],sb 3 8 23,
  mI 9 0,mt 10 26] .ret) .skip)) (sr [mt 28 0,mt 29 1,mt 30 2,kl 31 515 [(.t 28),(.t 29),(.t 30)],mt 27 31,ee 32 27 0,ee 33 27 1,ee 34 27 2,ee 35 27 3,mt 11 32,mt 12 33,mt 13 34,mt 14 35] (.seq (sr [mt 36 14,A1 37 (.eq true true (.iface [74]) (.t 36) (.c .nili))] (.cond (.t 37) (sr [A1 38 (.build (.st (.cons .bool (.cons .slice (.cons .slice .nil)))) []),mt 39 14,sb 3 8 38,
  mI 9 0,mt 10 39] .ret) .skip)) (sr [mt 40 1,mt 41 12,ak 42 .add 40 41,mt 43 1,mt 44 12,ak 45 .add 43 44,mt 46 13,ak 47 .add 45 46,mt 15 42,mt 16 47] (.seq (sr [mt 48 11,A1 49 (.un .not (.t 48))] (.cond (.t 49) (sr [mt 50 0,mt 51 15,mt 52 16,A1 53 (.slsl 1 (.t 50) (some (.t 51)) (some (.t 52))),kl 54 277 [(.t 53)],A1 55 (.build (.st (.cons .bool (.cons .slice (.cons .slice .nil)))) [(.f 1,1,(.t 54))]),mt 56 16,sb 3 8 55,mt 9 56,mn 10] .ret) .skip)) (sr [A1 57 (.build (.st (.cons .bool (.cons .slice (.cons .slice .nil)))) [(.f 0,1,(.c (.bool true)))]),A1 17 (.alloc (.st (.cons .bool (.cons .slice (.cons .slice .nil))))),sb 3 17 57] (.seq (.block 0 (.loop (.seq (sr [mt 58 15,mt 59 16,ak 60 .lss 58 59]
 (Fy 60 0)) (.block 1 (sr [mt 62 0,mt 63 15,mt 64 16,mt 65 3,aI 66 .add 65 1,kl 67 489 [(.t 62),(.t 63),(.t 64),(.t 66)],mt 61 67,ee 68 61 0,ee 69 61 1,ee 70 61 2,A1 18 (.alloc (.st (.cons .bool (.cons .slice (.cons .slice .nil))))),sb 3 18 68,mt 19 69,mt 20 70] (.seq (sr [mt 71 20,A1 72 (.eq true true (.iface [74]) (.t 71) (.c .nili))] (.cond (.t 72) (sr [A1 73 (.build (.st (.cons .bool (.cons .slice (.cons .slice .nil)))) []),mt 74 20,sb 3 8 73,
  mI 9 0,mt 10 74] .ret) .skip)) (sr [fa 75 2 17,lb 76 1 75,la 77 3 18,A1 78 (.bsl 3 1 (.st (.cons .bool (.cons .slice (.cons .slice .nil)))) [(.i 3 0,3,(.t 77))]),
  aP 79 3 56 76 78,fa 80 2 17,sb 1 80 79] (.reg [mt 81 19,mt 15 81])))))))) (sr [la 82 3 17,mt 83 16,sb 3 8 82,mt 9 83,mn 10] .ret)))))))))
def Azk:LF:=⟨A0w,4,0,84,[.cell 8 true 3,.tmp 9,.tmp 10]⟩
def A0j:LC:=(sr [A1 6 (.mv (.c (.bool false))),
 mI 7 0,
 mI 8 0,mn 9] (sr [mt 18 0,mt 19 1,ia 20 1 18 19,lb 21 1 20,mt 10 21] (sr [mt 22 10,A1 23 (.ari .geq (.t 22) (.c (.int .u8 192))),mt 11 23] (sr [A1 12 (.mv (.c (.int .u8 128)))] (.seq (sr [mt 24 11] (.cond (.t 24) (.reg [A1 12 (.mv (.c (.int .u8 192)))]) .skip)) (.seq (sr [mt 25 10,A1 26 (.ari .lss (.t 25) (.c (.int .u8 128)))] (.cond (.t 26) (sr [A1 6 (.mv (.c (.bool false))),
  mI 7 0,
  mI 8 1,mn 9] .ret) .skip)) (.seq (sr [mt 27 10,mt 28 12,ak 29 .sub 27 28,
  Ea 30 .i64 29,mt 13 30] (sr [mt 31 13,aI 32 .lss 31 56] (.cond (.t 32) (.seq (sr [mt 33 13,mt 34 2,mt 35 1,ak 36 .sub 34 35,aI 37 .sub 36 1,ak 38 .gtr 33 37] (.cond (.t 38) (sr [mt 39 11,mt 40 1,A1 41 (.mkif 74 (cI 11)),kl 42 488 [(.t 40),(.t 41)],mt 6 39,
  mI 7 0,
  mI 8 0,mt 9 42] .ret) .skip)) (.seq (sr [mt 43 13,aI 44 .eql 43 1,mt 45 44,mg 46 45 true 11,A2 47 45 true (.un .not (.t 46)),
  N6 48 45 47,mt 49 48,mg 50 49 true 0,mg 51 49 true 1,A2 52 49 true (.ari .add (.t 51) (cI 1)),A2 53 49 true (.isl 1 (.t 50) (.t 52)),A2 54 49 true (.load false 1 (.t 53)),A2 55 49 true (.ari .lss (.t 54) (.c (.int .u8 128))),
  N6 56 49 55] (.cond (.t 56) (sr [mt 57 11,mt 58 1,A1 59 (.mkif 74 (cI 12)),kl 60 488 [(.t 58),(.t 59)],mt 6 57,
  mI 7 0,
  mI 8 0,mt 9 60] .ret) .skip)) (sr [mt 61 11,mt 62 13,mt 6 61,
  mI 7 1,mt 8 62,mn 9] .ret))) .skip))) (sr [mt 63 10,mt 64 12,ak 65 .sub 63 64,
  Ea 66 .i64 65,aI 67 .sub 66 55,mt 14 67] (.seq (sr [mt 68 14,mt 69 2,mt 70 1,ak 71 .sub 69 70,aI 72 .sub 71 1,ak 73 .gtr 68 72] (.cond (.t 73) (sr [mt 74 11,mt 75 1,A1 76 (.mkif 74 (cI 11)),kl 77 488 [(.t 75),(.t 76)],mt 6 74,
  mI 7 0,
  mI 8 0,mt 9 77] .ret) .skip)) (sr [mU 15 0] (.seq (sr [mt 78 0,mt 79 1,aI 80 .add 79 1,mt 81 1,aI 82 .add 81 1,mt 83 14,ak 84 .add 82 83,A1 85 (.slsl 1 (.t 78) (some (.t 80)) (some (.t 84))),
  lN 86 0 85,
  mI 87 0] (.block 0 (.loop (sr [ak 88 .lss 87 86] (.seq (Fy 88 0) (.seq (.block 1 (sr [ia 89 1 85 87,lb 90 1 89,mt 17 90] (.reg [mt 91 15,
  aU 92 .shl 91 8,mt 93 17,
  Ea 94 .u64 93,ak 95 .or 92 94,mt 15 95]))) (.reg [aI 96 .add 87 1,mt 87 96]))))))) (.seq (sr [mt 97 15,mt 98 2,mt 99 1,ak 100 .sub 98 99,aI 101 .sub 100 1,mt 102 14,ak 103 .sub 101 102,
  Ea 104 .u64 103,ak 105 .gtr 97 104] (.cond (.t 105) (sr [mt 106 11,mt 107 1,A1 108 (.mkif 74 (cI 11)),kl 109 488 [(.t 107),(.t 108)],mt 6 106,
  mI 7 0,
  mI 8 0,mt 9 109] .ret) .skip)) (.seq (sr [mt 110 15,
  aU 111 .lss 110 56,mt 112 111,mg 113 112 false 0,mg 114 112 false 1,A2 115 112 false (.ari .add (.t 114) (cI 1)),A2 116 112 false (.isl 1 (.t 113) (.t 115)),A2 117 112 false (.load false 1 (.t 116)),A2 118 112 false (.ari .eql (.t 117) (.c (.int .u8 0))),
  FB 119 112 118] (.cond (.t 119) (sr [mt 120 11,mt 121 1,A1 122 (.mkif 74 (cI 12)),kl 123 488 [(.t 121),(.t 122)],mt 6 120,
  mI 7 0,
  mI 8 0,mt 9 123] .ret) .skip)) (sr [mt 124 11,mt 125 14,
  aJ 126 .add 1 125,mt 127 15,
  Ea 128 .i64 127,mt 6 124,mt 7 126,mt 8 128,mn 9] .ret))))))))))))))
def Ayd:LF:=⟨A0j,3,0,129,[.tmp 6,.tmp 7,.tmp 8,.tmp 9]⟩
def Az7:LC:=(sr [aB 2 32,mn 3] (.seq (sr [mt 9 0,
  lN 10 0 9,aI 11 .gtr 10 8] (.cond (.t 11) (sr [A1 12 (.build zD []),A1 13 (.mkif 74 (cI 5)),sb 32 2 12,mt 3 13] .ret) .skip)) (sr [A1 4 (.alloc (.ar 8 zD))] (.seq (sr [mI 14 0] (.block 0 (.loop (sr [aI 15 .lss 14 8] (.seq (Fy 15 0) (.seq (.block 1 (sr [mt 16 14,mt 5 16] (sr [A1 17 (.build (.ar 64 (.int .u8)) []),
  aB 6 64,sb 64 6 17] (.seq (sr [mt 18 5,mt 19 0,
  lN 20 0 19,ak 21 .lss 18 20] (.cond (.t 21) (.reg [mt 22 0,mt 23 5,ia 24 6 22 23,la 25 6 24,kl 26 309 [(.t 25)],sb 64 6 26]) .skip)) (.reg [mt 27 5,A1 28 (.slarr 64 1 (.t 6) none none),kl 29 319 [(.t 28)],ib 30 8 32 4 27,sb 32 30 29]))))) (.reg [aI 31 .add 14 1,mt 14 31]))))))) (.seq (sr [mI 7 4] (.block 2 (.loop (.seq (sr [mt 32 7,aI 33 .gtr 32 0]
 (Fy 33 2)) (.seq (.block 3 (sr [mt 36 7,
  mI 37 0] (.block 4 (.loop (sr [ak 38 .lss 37 36] (.seq (Fy 38 4) (.seq (.block 5 (sr [mt 39 37,mt 8 39]
 (.regd [⟨1,0,mt 41 8⟩,⟨2,1,aJ 42 .mul 2 41⟩,⟨3,3,ib 43 8 32 4 42⟩,⟨4,7,la 44 32 43⟩,⟨5,0,mt 45 8⟩,⟨6,16,aJ 46 .mul 2 45⟩,⟨7,48,aI 47 .add 46 1⟩,⟨8,112,ib 48 8 32 4 47⟩,⟨9,240,la 49 32 48⟩,⟨10,511,kl 50 207 [(.t 44),(.t 49)]⟩,⟨0,0,mt 40 8⟩,⟨11,2047,ib 51 8 32 4 40⟩,⟨12,4095,sb 32 51 50⟩]))) (.reg [aI 52 .add 37 1,mt 37 52])))))))) (.reg [mt 34 7,aI 35 .quo 34 2,mt 7 35])))))) (sr [iI 53 8 32 4 0,la 54 32 53,sb 32 2 54,mn 3] .ret))))))
def Ayu:LF:=⟨Az7,1,0,55,[.cell 2 true 32,.tmp 3]⟩
def A0x:LC:=(sr [A1 2 (.mv (.c .nils))] (sr [mt 7 0,kl 8 366 [(.t 7)],mt 6 8,ee 9 6 0,ee 10 6 1,ee 11 6 2,mt 3 9,mt 4 10,mt 5 11] (.seq (sr [mt 12 5,A1 13 (.eq true true (.iface [74]) (.t 12) (.c .nili))] (.cond (.t 13) (sr [A1 2 (.mv (.c .nils))] .ret) .skip)) (sr [mt 14 3,mt 2 14] .ret))))
def Ax3:LF:=⟨A0x,1,0,15,[.tmp 2]⟩
def A0n:LC:=(sr [bX 3 0,
 bX 4 1,
 bX 5 2,A1 6 (.mv (.c .nilp)),mn 7] (sr [kl 11 180 [],kl 12 181 [(.t 11)],mt 10 12,ee 13 10 0,ee 14 10 1,A1 8 (.alloc (.st (.cons .slice (.cons zI .nil)))),sb 2 8 13,mt 9 14] (.seq (sr [mt 15 9,A1 16 (.eq true true (.iface [74]) (.t 15) (.c .nili))] (.cond (.t 16) (sr [mt 17 9,A1 6 (.mv (.c .nilp)),mt 7 17] .ret) .skip)) (.seq (.regd [⟨1,0,la 19 32 3⟩,⟨2,0,la 20 32 4⟩,⟨3,0,la 21 32 5⟩,⟨4,7,kl 22 182 [(.t 19),(.t 20),(.t 21)]⟩,⟨0,0,la 18 2 8⟩,⟨5,31,kl 23 108 [(.t 18),(.t 22)]⟩,⟨6,63,ee 24 23 0⟩,⟨7,63,ee 25 23 1⟩,⟨8,255,mt 6 24⟩,⟨9,511,mt 7 25⟩]) .ret))))
def Awm:LF:=⟨A0n,3,0,26,[.tmp 6,.tmp 7]⟩
def Az8:LC:=(sr [bX 3 0,
 bX 4 1,
 bX 5 2,A1 6 (.mv (.c .nils))] (sr [A1 7 (.mv (.c .nils))] (.seq (sr [la 11 32 3,la 12 32 4,la 13 32 5,A1 14 (.bsl 32 3 zD [(.i 32 0,32,(.t 11)),(.i 32 1,32,(.t 12)),(.i 32 2,32,(.t 13))]),
  lN 15 0 14,
  mI 16 0] (.block 0 (.loop (sr [ak 17 .lss 16 15] (.seq (Fy 17 0) (.seq (.block 1 (sr [ia 18 32 14 16,la 19 32 18,
  aB 9 32,sb 32 9 19] (sr [mI 20 0] (.block 2 (.loop (sr [aI 21 .lss 20 4] (.seq (Fy 21 2) (.seq (.block 3 (sr [mt 22 20,mt 10 22] (.reg [mt 23 7,mt 24 10,
  aJ 25 .mul 8 24,A1 26 (.slarr 32 1 (.t 9) (some (.t 25)) none),kl 27 308 [(.t 26)],A1 28 (.bsl 1 1 zU [(.i 1 0,1,(.t 27))]),
  aP 29 1 8 23 28,mt 7 29]))) (.reg [aI 30 .add 20 1,mt 20 30]))))))))) (.reg [aI 31 .add 16 1,mt 16 31]))))))) (sr [mt 32 7,mt 6 32] .ret))))
def Ayp:LF:=⟨Az8,3,0,33,[.tmp 6]⟩
def Apk:LC:=(sr [aB 2 32] (sr [kl 6 418 [],mt 3 6] (sr [mt 7 3,mt 8 0,kl 9 419 [(.t 7),(.t 8)]] (sr [mt 11 3,kl 12 420 [(.t 11)],mt 10 12,ee 13 10 0,ee 14 10 1,
  aB 4 32,sb 32 4 13,mt 5 14] (sr [la 15 32 4,sb 32 2 15] .ret)))))
def Ah1:LF:=⟨Apk,1,0,16,[.cell 2 true 32]⟩
def Ao2:LC:=(sr [A1 0 (.mv (.c .nilp))] (sr [A1 1 (.build (.st (.cons (.ar 25 zU) (.cons .slice .nil))) []),
  bX 2 1,mt 0 2] .ret))
def Aiu:LF:=⟨Ao2,0,0,3,[.tmp 0]⟩
def Anp:LC:=(sr [mn 4] (.seq (sr [mt 5 0,A1 6 (.eq false true .ptr (.t 5) (.c .nilp))] (.cond (.t 6) (sr [A1 7 (.mkif 74 (cI 1)),mt 4 7] .ret) .skip)) (sr [mt 8 0,mt 9 0,nc 10 9,fa 11 25 10,lb 12 1 11,mt 13 1,
  aP 14 1 1 12 13,nc 15 8,fa 16 25 15,sb 1 16 14] (.seq (.block 0 (.loop (.seq (sr [mt 17 0,nc 18 17,fa 19 25 18,lb 20 1 19,
  lN 21 0 20,aI 22 .geq 21 136]
 (Fy 22 0)) (.block 1 (.seq (.regd [⟨1,0,mt 24 0⟩,⟨2,1,nc 25 24⟩,⟨3,3,fa 26 0 25⟩,⟨4,7,la 27 25 26⟩,⟨5,0,mt 28 0⟩,⟨6,16,nc 29 28⟩,⟨7,48,fa 30 25 29⟩,⟨8,112,lb 31 1 30⟩,⟨9,240,A1 32 (.slsl 1 (.t 31) none (some (cI 136)))⟩,⟨10,511,kl 33 318 [(.t 27),(.t 32)]⟩,⟨0,0,mt 23 0⟩,⟨11,2047,nc 34 23⟩,⟨12,4095,fa 35 0 34⟩,⟨13,8191,sb 25 35 33⟩]) (.reg [mt 36 0,mt 37 0,nc 38 37,fa 39 25 38,lb 40 1 39,A1 41 (.slsl 1 (.t 40) (some (cI 136)) none),kl 42 277 [(.t 41)],nc 43 36,fa 44 25 43,sb 1 44 42])))))) (sr [mn 4] .ret)))))
def Ajc:LF:=⟨Anp,2,0,45,[.tmp 4]⟩
def Api:LC:=(sr [aB 2 32,mn 3] (.seq (sr [mt 5 0,A1 6 (.eq false true .ptr (.t 5) (.c .nilp))] (.cond (.t 6) (sr [A1 7 (.build zD []),A1 8 (.mkif 74 (cI 1)),sb 32 2 7,mt 3 8] .ret) .skip)) (sr [A1 9 (.mksl 1 1 (.int .u8) (cI 136) (cI 136)),mt 4 9] (sr [mt 10 4,mt 11 0,nc 12 11,fa 13 25 12,lb 14 1 13,A1 15 (.copy 1 (.t 10) (.t 14))] (sr [mt 16 4,mt 17 0,nc 18 17,fa 19 25 18,lb 20 1 19,
  lN 21 0 20,ia 22 1 16 21,lb 23 1 22,A1 24 (.ari .xor (.t 23) (.c (.int .u8 1))),ia 25 1 16 21,sb 1 25 24] (sr [mt 26 4,
  iJ 27 1 26 135,lb 28 1 27,A1 29 (.ari .xor (.t 28) (.c (.int .u8 128))),
  iJ 30 1 26 135,sb 1 30 29] (sr [mt 31 0,nc 32 31,fa 33 0 32,la 34 25 33,mt 35 4,kl 36 318 [(.t 34),(.t 35)],kl 37 317 [(.t 36)],sb 32 2 37,mn 3] .ret)))))))
def Ajj:LF:=⟨Api,1,0,38,[.cell 2 true 32,.tmp 3]⟩
def A0o:LC:=(sr [A1 2 (.mv (.c .nils))] (.seq (sr [mt 3 0,A1 4 (.eq false true (.nils 0) (.t 3) (.c .nils))] (.cond (.t 4) (sr [A1 2 (.mv (.c .nils))] .ret) .skip)) (sr [A1 5 (.bsl 1 0 (.int .u8) []),mt 6 0,
  aP 7 1 1 5 6,mt 2 7] .ret)))
def Aw1:LF:=⟨A0o,1,0,8,[.tmp 2]⟩
def Azz:LC:=(sr [mU 2 0] (sr [mU 3 0] (.seq (sr [mt 6 0,A1 7 (.slsl 1 (.t 6) none (some (cI 8))),
  lN 8 0 7,
  mI 9 0] (.block 0 (.loop (sr [ak 10 .lss 9 8] (.seq (Fy 10 0) (.seq (.block 1 (sr [ia 11 1 7 9,lb 12 1 11,mt 5 12] (.reg [mt 13 3,
  aU 14 .shl 13 8,mt 15 5,
  Ea 16 .u64 15,ak 17 .or 14 16,mt 3 17]))) (.reg [aI 18 .add 9 1,mt 9 18]))))))) (sr [mt 19 3,mt 2 19] .ret))))
def Ayn:LF:=⟨Azz,1,0,20,[.tmp 2]⟩
variable {M:Seat}
structure OkTx (M:Seat):Prop where
 k277:Ar M 277 Aw1=true
 k515:Ar M 515 Ayd=true
 k489:Ar M 489 Azk=true
 k456:Ar M 456 Aw8=true
 k366:Ar M 366 Aw9=true
 k282:Ar M 282 Ax3=true
theorem Asi (ok:OkTx M) (b:BitVec 8) :
 As M 277 [.lst 1 1 fun _=>B b] [] 0 (Q3 (.sl 0 [] 0 1 1) [(0,.ar 1 1 fun _=>B b)] 1):=by
 have np:AQ true (ES.nils 0) (.lst 1 1 fun _=>B b) .nils=True:=by simp [AQ]
 have nv:AX (ES.nils 0) (.lst 1 1 fun _=>B b) .nils=false:=rfl;refine Ac ok.k277 rfl fun x hx=>?_;refine eX ?_;simp only [Aw1,A0o,np,nv,LZ,seval];exact Ay.mkZ hx [80] ⟨rfl,rfl,rfl⟩
theorem A17 (a b:BitVec 8) (H:Hp):AT .geq (B a) (B b) H=⟨True,.bool (decide (b≤a)),H⟩:=by
 have e:AT .geq (B a) (B b) H=⟨IntKind.u8=IntKind.u8,.bool (decide ((b.toNat:Int)≤(a.toNat:Int))),H⟩:=rfl;rw [e]
 congr 1
 ·simp
 ·congr 1;simp only [BitVec.le_def,Int.ofNat_le]
theorem A1n (a b:BitVec 8) (H:Hp):AT .lss (B a) (B b) H=⟨True,.bool (decide (a < b)),H⟩:=by
 have e:AT .lss (B a) (B b) H=⟨IntKind.u8=IntKind.u8,.bool (decide ((a.toNat:Int) < (b.toNat:Int))),H⟩:=rfl;rw [e]
 congr 1
 ·simp
 ·congr 1;simp only [BitVec.lt_def,Int.ofNat_lt]
theorem wz0:IntKind.i64.wrap 0=0:=rfl
theorem wz1:IntKind.i64.wrap 1=1:=rfl
theorem Atc (ok:OkTx M):As M 515 [.lst 1 1 fun _=>B 1#8,.int .i64 0,.int .i64 1] [] 0 (Q3 (.tup (.fcons 0 (.bool false) (.fcons 1 (.int .i64 0) (.fcons 2 (.int .i64 1) (.fcons 3 .nili .fnil))))) [] 0):=by
 refine Ac ok.k515 rfl fun x hx=>?_;refine eX ?_;simp only [Ayd,A0j,A17,A1n,LZ,seval];exact Ay.mkZ hx [] ⟨rfl,rfl,rfl⟩
def Ass (b:Bool) (x y:V):V:=.st 3 (.fcons 0 (.bool b) (.fcons 1 x (.fcons 2 y .fnil)))
theorem Atf (ok:OkTx M):As M 489 [.lst 1 1 fun _=>B 1#8,.int .i64 0,.int .i64 1,.int .i64 0] [] 0 (Q3 (Cz (Ass false (.sl 0 [] 0 1 1) .nils) (.int .i64 1) .nili) [(0,.ar 1 1 fun _=>B 1#8)] 1):=by
 have h:=Atc ok;have hc:=Asi ok 1#8;refine Ac ok.k489 rfl fun x hx=>?_;refine eX ?_;simp only [Azk,A0w,LZ,seval];refine Ap (h) ?_;simp only [wz0,wz1,LZ,seval];refine Avq (hc) ?_;simp only [Ass,wz0,wz1,LZ,seval];have zz:=BK @k7 @Ass.eq_1;exact DD hx [576] ⟨rfl,rfl,rfl⟩
theorem Auj (ok:OkTx M):As M 456 [.lst 1 1 fun _=>B 1#8] [] 0 (Q3 (AP (Ass false (.sl 0 [] 0 1 1) .nils) .nili) [(0,.ar 1 1 fun _=>B 1#8)] 1):=by
 have h:=Atf ok;refine Ac ok.k456 rfl fun x hx=>?_;refine eX ?_;simp only [Aw8,A0d,LZ,seval];have zz:=@Ass.eq_1;refine cfY (h) ?_;simp only [Cz,Ass,LZ,seval];have zz:=@b5;exact DD hx [208] ⟨rfl,rfl,rfl⟩
theorem Auc (ok:OkTx M):As M 366 [.lst 1 1 fun _=>B 1#8] [] 0 (Q3 (Cz .nils .nils (.ifc 74 (.int .i64 3))) [] 0):=by
 have h:=Auj ok;refine Ac ok.k366 rfl fun x hx=>?_;refine eX ?_;simp only [Aw9,Azx,LZ,seval];have zz:=@Ass.eq_1;refine cfY (h) ?_;simp only [EM,Ass,seval];have zz:=@k7;exact DD hx [] ⟨rfl,rfl,rfl⟩
theorem Aui (ok:OkTx M):As M 282 [.lst 1 1 fun _=>B 1#8] [] 0 (Q3 .nils [] 0):=by
 have h:=Auc ok;refine Ac ok.k282 rfl fun x hx=>?_;refine eX ?_;simp only [Ax3,A0x,LZ,seval];refine Ap (h) ?_;simp only [Cz,LZ,seval];exact Ay.mkZ hx [] ⟨rfl,rfl,rfl⟩
end Mv
namespace Mv
open Go
def A0v:LC:=(sr [bX 5 0,
 bX 8 3,A1 10 (.mv (.c .nilp)),mn 11] (.seq (.block 0 (sr [mt 16 1,A1 17 (.eq false true .ptr (.t 16) (.c .nilp)),mt 15 17] (.cond (.t 15) (sr [A1 18 (.mkif 74 (cI 1)),A1 10 (.mv (.c .nilp)),mt 11 18] .ret) (sr [fa 20 0 5,lb 21 1 20,aI 22 .lss 21 1,mt 23 22,A2 24 23 false (.fadr 0 (.t 5)),A2 25 23 false (.load false 1 (.t 24)),A2 26 23 false (.ari .gtr (.t 25) (cI 20)),
  FB 27 23 26,mt 28 27,A2 29 28 false (.fadr 1 (.t 5)),A2 30 28 false (.load true 2 (.t 29)),⟨(some 31),.call 249 [(.t 30)],(some (28,false))⟩,A2 32 28 false (.eq true true (.iface [74]) (.t 31) (.c .nili)),
  FB 33 28 32,mt 34 33,mg 35 34 false 4,A2 36 34 false (.ari .gtr (.t 35) (cU 1099511627776)),
  FB 37 34 36,mt 19 37] (.cond (.t 19) (sr [A1 38 (.mkif 74 (cI 2)),A1 10 (.mv (.c .nilp)),mt 11 38] .ret) .skip))))) (sr [mt 40 1,mt 41 2,kl 42 120 [(cI 0)],kl 43 250 [(.t 40),(.t 41),(.t 42)],mt 39 43,ee 44 39 0,ee 45 39 1,mt 12 44,mt 13 45] (.seq (sr [mt 46 13,A1 47 (.eq true true (.iface [74]) (.t 46) (.c .nili))] (.cond (.t 47) (sr [mt 48 13,A1 10 (.mv (.c .nilp)),mt 11 48] .ret) .skip)) (sr [la 49 32 8,mt 50 2,mt 51 12,mt 52 4,A1 53 (.build zK [(.f 1,1,(.t 52))]),mt 54 2,A1 55 (.build zC [(.f 0,1,(.c (.int .i64 (-1)))),(.f 1,1,(cU 1)),(.f 2,32,(.t 49)),(.f 34,1,(.t 50)),(.f 35,1,(.t 51)),(.f 36,2,(.t 53)),(.f 41,1,(.t 54))]),A1 14 (.alloc zC),sb 42 14 55] (sr [la 56 35 5,mt 57 1,la 58 42 14,A1 59 (.bsl 42 1 zC [(.i 42 0,42,(.t 58))]),A1 60 (.build (.st (.cons (.st (.cons zI (.cons zK (.cons zD .nil)))) (.cons .ptr (.cons .slice .nil)))) [(.f 0,35,(.t 56)),(.f 35,1,(.t 57)),(.f 36,1,(.t 59))]),
  bX 61 60,mt 10 61,mn 11] .ret))))))
def Axr:LF:=⟨A0v,5,0,62,[.tmp 10,.tmp 11]⟩
def A0p:LC:=(sr [mI 2 0] (.seq (sr [mt 3 0,A1 4 (.eq false true .ptr (.t 3) (.c .nilp))] (.cond (.t 4) (sr [mI 2 0] .ret) .skip)) (sr [mt 5 0,nc 6 5,fa 7 36 6,lb 8 1 7,
  lN 9 0 8,mt 2 9] .ret)))
def Ayh:LF:=⟨A0p,1,0,10,[.tmp 2]⟩
def Az4:LC:=(sr [mU 2 0] (.seq (sr [mt 3 0,aI 4 .lss 3 0] (.cond (.t 4) (sr [mU 2 0] .ret) .skip)) (sr [mt 5 0,
  Ea 6 .u64 5,
  aU 7 .add 6 1,mt 2 7] .ret)))
def Awx:LF:=⟨Az4,1,0,8,[.tmp 2]⟩
def Az5:LC:=(sr [A1 0 (.mv (.c .nilp))] (sr [A1 1 (.build (.st (.cons (.ar 8 zU) (.cons zU (.cons zU (.cons .slice (.cons zU .nil)))))) []),
  bX 2 1,mt 0 2] .ret))
def Axm:LF:=⟨Az5,0,0,3,[.tmp 0]⟩
def A0c:LC:=(sr [mn 6] (.seq (sr [mt 8 0,mt 9 1,kl 10 258 [(.t 8),(.t 9)],mt 7 10] (sr [mt 11 7,A1 12 (.eq true true (.iface [74]) (.t 11) (.c .nili))] (.cond (.t 12) (sr [mt 13 7,mt 6 13] .ret) .skip))) (.seq (sr [mt 14 2,
  aU 15 .gtr 14 281474976710656,mt 16 15,mg 17 16 false 0,A2 18 16 false (.nilc (.t 17)),A2 19 16 false (.fadr 8 (.t 18)),A2 20 16 false (.load false 1 (.t 19)),mg 21 16 false 2,A2 22 16 false (.ari .add (.t 20) (.t 21)),A2 23 16 false (.ari .gtr (.t 22) (cU 281474976710656)),
  FB 24 16 23] (.cond (.t 24) (sr [A1 25 (.mkif 74 (cI 2)),mt 6 25] .ret) .skip)) (sr [mt 26 0,nc 27 26,fa 28 8 27,lb 29 1 28,mt 30 2,ak 31 .add 29 30,nc 32 26,fa 33 8 32,sb 1 33 31] (.seq (.regd [⟨0,0,mt 34 0⟩,⟨1,0,mt 35 1⟩,⟨2,1,nc 36 34⟩,⟨3,5,fa 37 0 36⟩,⟨4,15,ib 38 8 1 37 35⟩,⟨5,31,lb 39 1 38⟩,⟨6,0,mt 40 2⟩,⟨7,127,ak 41 .add 39 40⟩,⟨8,1,nc 42 34⟩,⟨9,257,fa 43 0 42⟩,⟨10,1023,ib 44 8 1 43 35⟩,⟨11,2047,sb 1 44 41⟩]) (sr [mn 6] .ret))))))
def Aya:LF:=⟨A0c,3,0,45,[.tmp 6]⟩
def Azf:LC:=(sr [bX 1 0,mn 2] (.seq (sr [fa 3 0 1,lb 4 1 3,
  aU 5 .lss 4 1,mt 6 5,A2 7 6 false (.fadr 0 (.t 1)),A2 8 6 false (.load false 1 (.t 7)),A2 9 6 false (.ari .gtr (.t 8) (cU 1099511627776)),
  FB 10 6 9,mt 11 10,A2 12 11 false (.fadr 1 (.t 1)),A2 13 11 false (.load false 1 (.t 12)),A2 14 11 false (.fadr 0 (.t 1)),A2 15 11 false (.load false 1 (.t 14)),A2 16 11 false (.ari .gtr (.t 13) (.t 15)),
  FB 17 11 16] (.cond (.t 17) (sr [A1 18 (.mkif 74 (cI 2)),mt 2 18] .ret) .skip)) (sr [mn 2] .ret)))
def Av2:LF:=⟨Azf,1,0,19,[.tmp 2]⟩
def A0k:LC:=(sr [mI 6 0,mn 7] (.seq (sr [mt 9 0,mt 10 1,mt 11 2,kl 12 355 [(.t 9),(.t 10),(.t 11)],mt 8 12] (sr [mt 13 8,A1 14 (.eq true true (.iface [74]) (.t 13) (.c .nili))] (.cond (.t 14) (sr [mt 15 8,
  mI 6 0,mt 7 15] .ret) .skip))) (.seq (sr [mt 16 0,nc 17 16,fa 18 10 17,lb 19 1 18,
  lN 20 0 19,aI 21 .geq 20 65536] (.cond (.t 21) (.seq (.regd [⟨0,0,mt 22 0⟩,⟨1,0,mt 23 1⟩,⟨2,1,nc 24 22⟩,⟨3,5,fa 25 0 24⟩,⟨4,15,ib 26 8 1 25 23⟩,⟨5,31,lb 27 1 26⟩,⟨6,0,mt 28 2⟩,⟨7,127,ak 29 .add 27 28⟩,⟨8,1,nc 30 22⟩,⟨9,257,fa 31 0 30⟩,⟨10,1023,ib 32 8 1 31 23⟩,⟨11,2047,sb 1 32 29⟩]) (sr [A1 33 (.mkif 74 (cI 5)),
  mI 6 0,mt 7 33] .ret)) .skip)) (sr [mt 34 0,mt 35 0,nc 36 35,fa 37 10 36,lb 38 1 37,mt 39 2,A1 40 (.build (.st (.cons zU (.cons .bool .nil))) [(.f 0,1,(.t 39))]),A1 41 (.bsl 2 1 (.st (.cons zU (.cons .bool .nil))) [(.i 2 0,2,(.t 40))]),
  aP 42 2 16 38 41,nc 43 34,fa 44 10 43,sb 1 44 42] (sr [mt 45 0,nc 46 45,fa 47 11 46,lb 48 1 47,mt 49 2,ak 50 .add 48 49,nc 51 45,fa 52 11 51,sb 1 52 50] (sr [mt 53 0,nc 54 53,fa 55 10 54,lb 56 1 55,
  lN 57 0 56,aI 58 .sub 57 1,mt 6 58,mn 7] .ret))))))
def Ayt:LF:=⟨A0k,3,0,59,[.tmp 6,.tmp 7]⟩
def Az6:LC:=(sr [mn 4] (.seq (.block 0 (sr [mt 6 0,A1 7 (.eq false true .ptr (.t 6) (.c .nilp)),mt 5 7] (.cond (.t 5) (sr [A1 8 (.mkif 74 (cI 1)),mt 4 8] .ret) (sr [mt 10 1,aI 11 .lss 10 0,mt 12 11,mg 13 12 false 1,A2 14 12 false (.ari .geq (.t 13) (cI 8)),
  FB 15 12 14,mt 9 15] (.cond (.t 9) (sr [A1 16 (.mkif 74 (cI 2)),mt 4 16] .ret) .skip))))) (sr [mn 4] .ret)))
def Axs:LF:=⟨Az6,2,0,17,[.tmp 4]⟩
def A0l:LC:=(sr [mn 6] (.seq (sr [mt 8 0,mt 9 1,kl 10 258 [(.t 8),(.t 9)],mt 7 10] (sr [mt 11 7,A1 12 (.eq true true (.iface [74]) (.t 11) (.c .nili))] (.cond (.t 12) (sr [mt 13 7,mt 6 13] .ret) .skip))) (.seq (sr [mt 14 0,mt 15 1,nc 16 14,fa 17 0 16,ib 18 8 1 17 15,lb 19 1 18,mt 20 2,ak 21 .lss 19 20] (.cond (.t 21) (sr [A1 22 (.mkif 74 (cI 21)),mt 6 22] .ret) .skip)) (.seq (.regd [⟨0,0,mt 23 0⟩,⟨1,0,mt 24 1⟩,⟨2,1,nc 25 23⟩,⟨3,5,fa 26 0 25⟩,⟨4,15,ib 27 8 1 26 24⟩,⟨5,31,lb 28 1 27⟩,⟨6,0,mt 29 2⟩,⟨7,127,ak 30 .sub 28 29⟩,⟨8,1,nc 31 23⟩,⟨9,257,fa 32 0 31⟩,⟨10,1023,ib 33 8 1 32 24⟩,⟨11,2047,sb 1 33 30⟩]) (sr [mn 6] .ret)))))
def Axp:LF:=⟨A0l,3,0,34,[.tmp 6]⟩
structure OkGN (M:Seat):Prop where
 k112:Ar M 112 Axr=true
 k117:Ar M 117 Ayh=true
 k120:Ar M 120 Awx=true
structure Cl where
 par:Int
 pos:BitVec 64
 val:Dg
 pl:Int
 bond:Int
 us:BitVec 64
 at':BitVec 64
 st:Bool
 rs:Bool
 co:Bool
 by':Int
def Ap8 (u a:BitVec 64):V:=.st 2 (.fcons 0 (W u) (.fcons 1 (W a) .fnil))
def Cl.v (c:Cl):V:=.st 42 (.fcons 0 (.int .i64 c.par) (.fcons 1 (W c.pos) (.fcons 2 (dg c.val) (.fcons 34 (.int .i64 c.pl) (.fcons 35 (.int .i64 c.bond) (.fcons 36 (Ap8 c.us c.at') (.fcons 38 (.bool c.st) (.fcons 39 (.bool c.rs) (.fcons 40 (.bool c.co) (.fcons 41 (.int .i64 c.by') .fnil))))))))))
def Cl.zero:Cl:=⟨0,0#64,Dg.zero,0,0,0#64,0#64,false,false,false,0⟩
def ruV (d:Int) (l g:BitVec 64) (s:Dg):V:=.st 35 (.fcons 0 (.int .i64 d) (.fcons 1 (Ap8 l g) (.fcons 3 (dg s) .fnil)))
abbrev er (n:Int):V:=.ifc 74 (.int .i64 n)
theorem Aug {M:Seat} (ok:OkGN M) (d:Int):As M 120 [.int .i64 d] [] 0 (Q3 (W (if d < 0 then 0#64 else BitVec.ofInt 64 d + 1#64)) [] 0):=by
 refine Ac ok.k120 rfl fun x hx=>?_;by_cases h:d < 0;all_goals
  simp only [h,Dh];refine eX ?_;simp only [Awx,Az4,h,LZ,seval];exact Ay.mkZ hx [] ⟨rfl,rfl,rfl⟩
def b7:=@Ap8.eq_1
end Mv
