/- A part. -/
import Derived.Test.YtpcgkiecjakknaaGreatDoorFF
set_option linter.all false
set_option maxRecDepth 20000
set_option maxHeartbeats 8000000
namespace Mv
open Go
def Ad0:LC:=(sr [mU 4 0,mn 5] (.seq (sr [mt 7 0,mt 8 1,kl 9 258 [(.t 7),(.t 8)],mt 6 9] (sr [mt 10 6,A1 11 (.eq true true (.iface [74]) (.t 10) (.c .nili))] (.cond (.t 11) (sr [mt 12 6,
  mU 4 0,mt 5 12] .ret) .skip))) (sr [mt 13 0,mt 14 1,nc 15 13,fa 16 0 15,ib 17 8 1 16 14,lb 18 1 17,mt 4 18,mn 5] .ret)))
def Ab0:LF:=⟨Ad0,2,0,19,[.tmp 4,.tmp 5]⟩
def Ah3:LC:=(sr [A1 2 (.alloc (.st (.cons (.ar 32 (.int .u8)) (.cons .slice (.cons .slice .nil))))),A1 3 (.mv (.c (.bool false)))] (sr [A1 4 (.mv (.c .nils))] (.seq (sr [A1 18 (.build (.ar 6 (.int .i64)) [(.i 1 0,1,(cI 26)),(.i 1 1,1,(cI 1)),(.i 1 2,1,(cI 0)),(.i 1 3,1,(cI 0)),(.i 1 4,1,(cI 0)),(.i 1 5,1,(cI 1))]),A1 19 (.build (.ar 6 (.int .i64)) [(.i 1 0,1,(cI 1)),(.i 1 1,1,(cI 2)),(.i 1 2,1,(cI 2)),(.i 1 3,1,(cI 1)),(.i 1 4,1,(cI 0)),(.i 1 5,1,(cI 0))]),A1 20 (.build (.ar 6 (.int .i64)) [(.i 1 0,1,(cI 28)),(.i 1 1,1,(cI 0)),(.i 1 2,1,(cI 2)),(.i 1 3,1,(cI 2)),(.i 1 4,1,(cI 0)),(.i 1 5,1,(cI 40))]),A1 21 (.build (.ar 6 (.int .i64)) [(.i 1 0,1,(cI 29)),(.i 1 1,1,(cI 0)),(.i 1 2,1,(cI 0)),(.i 1 3,1,(cI 0)),(.i 1 4,1,(cI 0)),(.i 1 5,1,(cI 1))]),A1 22 (.bsl 6 4 (.ar 6 (.int .i64)) [(.i 6 0,6,(.t 18)),(.i 6 1,6,(.t 19)),(.i 6 2,6,(.t 20)),(.i 6 3,6,(.t 21))]),
  lN 23 0 22,
  mI 24 0] (.block 0 (.loop (sr [ak 25 .lss 24 23] (.seq (Dd 25 0) (.seq (.block 1 (sr [ia 26 6 22 24,la 27 6 26,A1 6 (.alloc (.ar 6 (.int .i64))),sb 6 6 27] (sr [iI 29 6 1 6 0,lb 30 1 29,
  iI 31 6 1 6 1,lb 32 1 31,
  iI 33 6 1 6 2,lb 34 1 33,
  iI 35 6 1 6 3,lb 36 1 35,
  iI 37 6 1 6 4,lb 38 1 37,
  iI 39 6 1 6 5,lb 40 1 39,kl 41 76 [(.t 30),(.t 32),(.t 34),(.t 36),(.t 38),(.t 40)],mt 28 41,ee 42 28 0,ee 43 28 1,mt 7 42,mt 8 43] (.seq (sr [mt 44 8,A1 45 (.eq true true (.iface [74]) (.t 44) (.c .nili))] (.cond (.t 45) (sr [A1 46 (.build (.st (.cons (.ar 32 (.int .u8)) (.cons .slice (.cons .slice .nil)))) []),sb 34 2 46,A1 3 (.mv (.c (.bool false)))] .ret) .skip)) (.reg [mt 47 4,mt 48 7,A1 49 (.bsl 1 1 (.int .u64) [(.i 1 0,1,(.t 48))]),
  aP 50 1 8 47 49,mt 4 50]))))) (.reg [aI 51 .add 24 1,mt 24 51]))))))) (sr [mt 53 4,kl 54 74 [(.t 53)],mt 52 54,ee 55 52 0,ee 56 52 1,mt 9 55,mt 10 56] (sr [kl 57 68 [],mt 11 57] (.seq (sr [mt 58 10,A1 59 (.eq true true (.iface [74]) (.t 58) (.c .nili)),mt 60 59,mg 61 60 false 9,A2 62 60 false (.eq false true .ptr (.t 61) (.c .nilp)),
  BV 63 60 62,mt 64 63,mg 65 64 false 11,A2 66 64 false (.eq false true .ptr (.t 65) (.c .nilp)),
  BV 67 64 66] (.cond (.t 67) (sr [A1 68 (.build (.st (.cons (.ar 32 (.int .u8)) (.cons .slice (.cons .slice .nil)))) []),sb 34 2 68,A1 3 (.mv (.c (.bool false)))] .ret) .skip)) (sr [mt 70 9,kl 71 54 [(.t 70)],mt 69 71,ee 72 69 0,ee 73 69 1,
  aB 12 32,sb 32 12 72,mt 10 73] (sr [la 74 32 12,A1 75 (.build (.st (.cons (.ar 32 (.int .u8)) (.cons .slice (.cons .slice .nil)))) [(.f 0,32,(.t 74))]),A1 13 (.alloc (.st (.cons (.ar 32 (.int .u8)) (.cons .slice (.cons .slice .nil))))),sb 34 13 75] (.seq (sr [mt 76 0,
  aJ 77 .shl 1 76,
  mI 78 0] (.block 2 (.loop (sr [ak 79 .lss 78 77] (.seq (Dd 79 2) (.seq (.block 3 (sr [mt 81 9,mt 82 11,kl 83 97 [(.t 81),(.t 82)],mt 80 83,ee 84 80 0,ee 85 80 1,A1 14 (.alloc (.st (.cons (.ar 32 (.int .u8)) (.cons (.st (.cons (.ar 16 (.int .u64)) (.cons (.int .u64) (.cons .bool (.cons (.int .u64) .nil))))) (.cons .slice (.cons (.ar 64 (.int .u8)) .nil)))))),sb 116 14 84,mt 15 85] (.seq (sr [mt 86 9,mt 87 11,kl 88 70 [(.t 86),(.t 87)],A1 89 (.eq true true (.iface [74]) (.t 88) (.c .nili)),mt 90 89,mg 91 90 false 15,A2 92 90 false (.eq true true (.iface [74]) (.t 91) (.c .nili)),
  BV 93 90 92] (.cond (.t 93) (sr [A1 94 (.build (.st (.cons (.ar 32 (.int .u8)) (.cons .slice (.cons .slice .nil)))) []),sb 34 2 94,A1 3 (.mv (.c (.bool false)))] .ret) .skip)) (sr [mt 96 9,kl 97 54 [(.t 96)],mt 95 97,ee 98 95 0,ee 99 95 1,
  aB 16 32,sb 32 16 98,mt 17 99] (.seq (sr [mt 100 17,A1 101 (.eq true true (.iface [74]) (.t 100) (.c .nili))] (.cond (.t 101) (sr [A1 102 (.build (.st (.cons (.ar 32 (.int .u8)) (.cons .slice (.cons .slice .nil)))) []),sb 34 2 102,A1 3 (.mv (.c (.bool false)))] .ret) .skip))
 (.regd [⟨0,0,fa 103 32 13⟩,⟨1,1,lb 104 1 103⟩,⟨2,0,la 105 32 16⟩,⟨3,4,A1 106 (.bsl 32 1 (.ar 32 (.int .u8)) [(.i 32 0,32,(.t 105))])⟩,⟨4,15,aP 107 32 32 104 106⟩,⟨5,0,fa 108 33 13⟩,⟨6,32,lb 109 1 108⟩,⟨7,0,la 110 116 14⟩,⟨8,128,A1 111 (.bsl 116 1 (.st (.cons (.ar 32 (.int .u8)) (.cons (.st (.cons (.ar 16 (.int .u64)) (.cons (.int .u64) (.cons .bool (.cons (.int .u64) .nil))))) (.cons .slice (.cons (.ar 64 (.int .u8)) .nil))))) [(.i 116 0,116,(.t 110))])⟩,⟨9,511,aP 112 116 272 109 111⟩,⟨10,127,fa 113 32 13⟩,⟨11,2047,sb 1 113 107⟩,⟨12,4095,fa 114 33 13⟩,⟨13,8191,sb 1 114 112⟩])))))) (.reg [aI 115 .add 78 1,mt 78 115]))))))) (.seq (.regd [⟨0,0,la 116 34 13⟩,⟨3,1,sb 34 2 116⟩,⟨1,0,mt 117 10⟩,⟨2,4,A1 118 (.eq false true (.iface [74]) (.t 117) (.c .nili))⟩,⟨4,15,mt 3 118⟩]) .ret))))))))))
def Ain:LF:=⟨Ah3,1,0,119,[.cell 2 true 34,.tmp 3]⟩
def Apz:LC:=(sr [bX 2 0,
 aB 4 32] (.seq (sr [mt 5 1,aI 6 .geq 5 0,mt 7 6,mg 8 7 true 1,A2 9 7 true (.fadr 32 (.t 2)),A2 10 7 true (.load false 1 (.t 9)),A2 11 7 true (.len 0 (.t 10)),A2 12 7 true (.ari .lss (.t 8) (.t 11)),
  Fq 13 7 12] (.cond (.t 13) (sr [fa 14 32 2,lb 15 1 14,mt 16 1,ia 17 32 15 16,la 18 32 17,sb 32 4 18] .ret) .skip)) (sr [mt 19 1,
  D0 20 .u8 19,mt 21 1,
  aU 22 .shr 21 8,
  D0 23 .u8 22,A1 24 (.build (.ar 32 (.int .u8)) [(.i 1 0,1,(.t 20)),(.i 1 1,1,(.c (.int .u8 7))),(.i 1 2,1,(.t 23))]),sb 32 4 24] .ret)))
def XP:LF:=⟨Apz,2,0,25,[.cell 4 true 32]⟩
def Ag0:LC:=(sr [mU 2 0] (.seq (sr [mt 3 0,A1 4 (.eq false true .ptr (.t 3) (.c .nilp))] (.cond (.t 4) (sr [mU 2 0] .ret) .skip)) (sr [mt 5 0,nc 6 5,fa 7 11 6,lb 8 1 7,mt 2 8] .ret)))
def Ai3:LF:=⟨Ag0,1,0,9,[.tmp 2]⟩
def TE:LC:=(sr [bX 9 2,
 bX 11 4,mn 14] (.seq (sr [mt 27 0,nc 28 27,fa 29 35 28,lb 30 1 29,mt 31 5,kl 32 126 [(.t 30),(.t 31)],mt 26 32,ee 33 26 0,ee 34 26 1,mt 15 33,mt 16 34] (sr [mt 35 16,A1 36 (.eq true true (.iface [74]) (.t 35) (.c .nili))] (.cond (.t 36) (sr [mt 37 16,mt 14 37] .ret) .skip))) (.seq (sr [fa 39 1 9,lb 40 1 39,kl 41 130 [(.t 40)],mt 38 41,ee 42 38 0,ee 43 38 1,ee 44 38 2,mt 17 42,mt 18 43,mt 19 44] (sr [mt 45 17,mt 46 0,nc 47 46,fa 48 0 47,fa 49 0 48,lb 50 1 49,ak 51 .neq 45 50] (.cond (.t 51) (sr [A1 52 (.mkif 74 (cI 45)),mt 14 52] .ret) .skip))) (sr [mt 54 0,mt 55 1,mt 56 3,kl 57 356 [(.t 54),(.t 55),(.t 56)],mt 53 57,ee 58 53 0,ee 59 53 1,ee 60 53 2,ee 61 53 3,
  aB 20 32,
  aB 21 32,sb 32 20 58,sb 32 21 59,mt 22 60,mt 23 61] (.seq (.block 0 (sr [mt 63 23,A1 64 (.eq true true (.iface [74]) (.t 63) (.c .nili)),mt 62 64] (.cond (.t 62) (sr [mt 65 23,mt 14 65] .ret) (sr [fa 67 38 9,lb 68 1 67,mt 66 68] (.cond (.t 66) (sr [A1 69 (.mkif 74 (cI 41)),mt 14 69] .ret) .skip))))) (sr [mt 71 0,la 72 42 9,mt 73 6,kl 74 357 [(.t 71),(.t 72),(.t 73)],mt 70 74,ee 75 70 0,ee 76 70 1,mt 24 75,mt 23 76] (.seq (.block 1 (sr [mt 78 23,A1 79 (.eq true true (.iface [74]) (.t 78) (.c .nili)),mt 77 79] (.cond (.t 77) (sr [mt 80 23,mt 14 80] .ret) (sr [mt 82 24,mt 81 82] (.cond (.t 81) (sr [A1 83 (.mkif 74 (cI 42)),mt 14 83] .ret) .skip))))) (sr [la 85 32 20,la 86 116 11,kl 87 98 [(.t 85),(.t 86)],mt 84 87,ee 88 84 0,ee 89 84 1,
  aB 25 32,sb 32 25 88,mt 23 89] (.seq (.block 2 (sr [mt 91 23,A1 92 (.eq true true (.iface [74]) (.t 91) (.c .nili)),mt 90 92] (.cond (.t 90) (sr [mt 93 23,mt 14 93] .ret) (.seq (.regd [⟨0,0,la 95 32 25⟩,⟨1,0,la 96 32 21⟩,⟨2,3,A1 97 (.eq false false (.ar 32 1 false .int) (.t 95) (.t 96))⟩,⟨3,0,mt 98 0⟩,⟨4,8,nc 99 98⟩,⟨5,24,fa 100 0 99⟩,⟨6,56,fa 101 0 100⟩,⟨7,120,lb 102 1 101⟩,⟨8,0,mt 103 22⟩,⟨9,504,ak 104 .sub 102 103⟩,⟨10,1016,aI 105 .rem 104 2⟩,⟨11,2040,aI 106 .eql 105 0⟩,⟨12,4095,A1 107 (.eq false false .bool (.t 97) (.t 106))⟩,⟨13,8191,mt 94 107⟩]) (.cond (.t 94) (sr [A1 108 (.mkif 74 (cI 46)),mt 14 108] .ret) .skip))))) (sr [mn 14] .ret))))))))))
def VX:LF:=⟨TE,7,0,109,[.tmp 14]⟩
def T7:LC:=(sr [mn 6] (.seq (.block 0 (sr [mt 15 1,aI 16 .lss 15 0,mt 17 16,mg 18 17 false 1,mg 19 17 false 0,A2 20 17 false (.nilc (.t 19)),A2 21 17 false (.fadr 36 (.t 20)),A2 22 17 false (.load false 1 (.t 21)),A2 23 17 false (.len 0 (.t 22)),A2 24 17 false (.ari .geq (.t 18) (.t 23)),
  BV 25 17 24,mt 14 25] (.cond (.t 14) (sr [A1 26 (.mkif 74 (cI 4)),mt 6 26] .ret) (sr [mt 28 0,nc 29 28,fa 30 36 29,lb 31 1 30,mt 32 1,ia 33 42 31 32,fa 34 39 33,lb 35 1 34,mt 27 35] (.cond (.t 27) (sr [A1 36 (.mkif 74 (cI 41)),mt 6 36] .ret) .skip))))) (sr [mt 37 0,nc 38 37,fa 39 36 38,lb 40 1 39,mt 41 1,ia 42 42 40 41,la 43 42 42,A1 7 (.alloc (.st (.cons (.int .i64) (.cons (.int .u64) (.cons (.ar 32 (.int .u8)) (.cons (.int .i64) (.cons (.int .i64) (.cons (.st (.cons (.int .u64) (.cons (.int .u64) .nil))) (.cons .bool (.cons .bool (.cons .bool (.cons (.int .i64) .nil)))))))))))),sb 42 7 43] (sr [A1 44 (.build (.st (.cons (.int .i64) (.cons (.int .u64) (.cons (.ar 32 (.int .u8)) (.cons (.int .i64) (.cons (.int .i64) (.cons (.st (.cons (.int .u64) (.cons (.int .u64) .nil))) (.cons .bool (.cons .bool (.cons .bool (.cons (.int .i64) .nil))))))))))) []),A1 8 (.alloc (.st (.cons (.int .i64) (.cons (.int .u64) (.cons (.ar 32 (.int .u8)) (.cons (.int .i64) (.cons (.int .i64) (.cons (.st (.cons (.int .u64) (.cons (.int .u64) .nil))) (.cons .bool (.cons .bool (.cons .bool (.cons (.int .i64) .nil)))))))))))),sb 42 8 44,A1 9 (.mv (.c (.bool false)))] (.seq (sr [mt 45 0,nc 46 45,fa 47 36 46,lb 48 1 47,
  lN 49 0 48,
  mI 50 0] (.block 1 (.loop (sr [ak 51 .lss 50 49] (.seq (Dd 51 1) (.seq (.block 2 (sr [ia 52 42 48 50,la 53 42 52,A1 11 (.alloc (.st (.cons (.int .i64) (.cons (.int .u64) (.cons (.ar 32 (.int .u8)) (.cons (.int .i64) (.cons (.int .i64) (.cons (.st (.cons (.int .u64) (.cons (.int .u64) .nil))) (.cons .bool (.cons .bool (.cons .bool (.cons (.int .i64) .nil)))))))))))),sb 42 11 53] (.block 3 (sr [fa 55 0 11,lb 56 1 55,mt 57 1,ak 58 .neq 56 57,mt 54 58] (.cond (.t 54) (.exit 2) (sr [fa 60 39 11,lb 61 1 60,A1 62 (.un .not (.t 61)),mt 59 62] (.cond (.t 59) (sr [A1 63 (.mkif 74 (cI 44)),mt 6 63] .ret) (sr [fa 65 40 11,lb 66 1 65,A1 67 (.un .not (.t 66)),mt 68 67,mg 69 68 true 9,A2 70 68 true (.un .not (.t 69)),mg 71 68 true 70,A2 72 71 false (.fadr 1 (.t 11)),A2 73 71 false (.load false 1 (.t 72)),A2 74 71 false (.fadr 1 (.t 8)),A2 75 71 false (.load false 1 (.t 74)),A2 76 71 false (.ari .lss (.t 73) (.t 75)),A2 77 68 true (.pick (.t 71) (.c (.bool true)) (.t 76)),
  Fq 78 68 77,mt 64 78] (.cond (.t 64) (.reg [la 79 42 11,sb 42 8 79,A1 9 (.mv (.c (.bool true)))]) .skip))))))))) (.reg [aI 80 .add 50 1,mt 50 80]))))))) (sr [mt 82 0,la 83 42 7,mt 84 2,kl 85 357 [(.t 82),(.t 83),(.t 84)],mt 81 85,ee 86 81 0,ee 87 81 1,mt 12 86,mt 13 87] (.seq (.block 4 (sr [mt 89 13,A1 90 (.eq true true (.iface [74]) (.t 89) (.c .nili)),mt 88 90] (.cond (.t 88) (sr [mt 91 13,mt 6 91] .ret) (sr [mt 93 12,A1 94 (.un .not (.t 93)),mt 92 94] (.cond (.t 92) (sr [A1 95 (.mkif 74 (cI 44)),mt 6 95] .ret) .skip))))) (sr [fa 96 38 7,lb 97 1 96,mt 98 97,mg 99 98 false 9,
  BV 100 98 99,fa 101 39 7,A0 (.store 1 (.t 101) (.c (.bool true))),fa 102 40 7,sb 1 102 100] (.seq (sr [mt 103 9,mt 104 103,A2 105 104 true (.fadr 38 (.t 7)),A2 106 104 true (.load false 1 (.t 105)),A2 107 104 true (.un .not (.t 106)),
  Fq 108 104 107] (.cond (.t 108) (.reg [fa 109 34 8,lb 110 1 109,fa 111 41 7,sb 1 111 110]) .skip)) (.seq (.regd [⟨0,0,mt 112 0⟩,⟨1,1,nc 113 112⟩,⟨2,3,fa 114 36 113⟩,⟨3,7,lb 115 1 114⟩,⟨4,0,mt 116 1⟩,⟨5,0,la 117 42 7⟩,⟨6,63,ia 118 42 115 116⟩,⟨7,127,sb 42 118 117⟩]) (.seq (.regd [⟨0,0,mt 119 0⟩,⟨1,1,nc 120 119⟩,⟨2,3,fa 121 35 120⟩,⟨3,7,lb 122 1 121⟩,⟨4,0,fa 123 35 7⟩,⟨5,16,lb 124 1 123⟩,⟨6,0,fa 125 41 7⟩,⟨7,64,lb 126 1 125⟩,⟨8,255,kl 127 358 [(.t 122),(.t 124),(.t 126)]⟩,⟨9,511,mt 6 127⟩]) .ret)))))))))))
def UR:LF:=⟨T7,3,0,128,[.tmp 6]⟩
def TA:LC:=(sr [aB 6 32,
 aB 7 32,
 mI 8 0,mn 9] (sr [mt 17 0,nc 18 17,fa 19 36 18,lb 20 1 19,mt 21 1,ia 22 42 20 21,la 23 42 22,A1 10 (.alloc (.st (.cons (.int .i64) (.cons (.int .u64) (.cons (.ar 32 (.int .u8)) (.cons (.int .i64) (.cons (.int .i64) (.cons (.st (.cons (.int .u64) (.cons (.int .u64) .nil))) (.cons .bool (.cons .bool (.cons .bool (.cons (.int .i64) .nil)))))))))))),sb 42 10 23] (.seq (.regd [⟨0,0,fa 25 1 10⟩,⟨1,1,lb 26 1 25⟩,⟨2,0,mt 27 0⟩,⟨3,4,nc 28 27⟩,⟨4,12,fa 29 0 28⟩,⟨5,28,fa 30 0 29⟩,⟨6,60,lb 31 1 30⟩,⟨7,127,kl 32 359 [(.t 26),(.t 31)]⟩,⟨8,255,mt 24 32⟩,⟨9,511,ee 33 24 0⟩,⟨10,511,ee 34 24 1⟩,⟨11,1023,mt 11 33⟩,⟨12,4095,mt 12 34⟩]) (sr [mt 35 0,nc 36 35,fa 37 0 36,fa 38 0 37,lb 39 1 38,mt 8 39] (.seq (sr [mt 40 2,A1 41 (.un .not (.t 40))] (.cond (.t 41) (sr [mt 42 0,nc 43 42,fa 44 0 43,fa 45 3 44,la 46 32 45,sb 32 6 46] (.seq (sr [mt 47 11,
  aU 48 .gtr 47 0] (.cond (.t 48) (sr [mt 50 0,mt 51 1,mt 52 11,
  aU 53 .sub 52 1,kl 54 454 [(.t 50),(.t 51),(.t 53)],mt 49 54,ee 55 49 0,ee 56 49 1,A1 13 (.alloc (.st (.cons (.int .i64) (.cons (.int .u64) (.cons (.ar 32 (.int .u8)) (.cons (.int .i64) (.cons (.int .i64) (.cons (.st (.cons (.int .u64) (.cons (.int .u64) .nil))) (.cons .bool (.cons .bool (.cons .bool (.cons (.int .i64) .nil)))))))))))),sb 42 13 55,mt 14 56] (.reg [fa 57 2 13,la 58 32 57,sb 32 6 58])) .skip)) (.seq (.regd [⟨0,0,la 59 32 6⟩,⟨4,1,sb 32 6 59⟩,⟨1,0,fa 60 2 10⟩,⟨2,4,la 61 32 60⟩,⟨5,15,sb 32 7 61⟩,⟨3,0,mt 62 8⟩,⟨6,63,mt 8 62⟩,⟨7,127,mn 9⟩]) .ret))) .skip)) (sr [mt 64 0,mt 65 1,mt 66 11,
  aU 67 .add 66 1,kl 68 454 [(.t 64),(.t 65),(.t 67)],mt 63 68,ee 69 63 0,ee 70 63 1,A1 15 (.alloc (.st (.cons (.int .i64) (.cons (.int .u64) (.cons (.ar 32 (.int .u8)) (.cons (.int .i64) (.cons (.int .i64) (.cons (.st (.cons (.int .u64) (.cons (.int .u64) .nil))) (.cons .bool (.cons .bool (.cons .bool (.cons (.int .i64) .nil)))))))))))),sb 42 15 69,mt 16 70] (.seq (sr [mt 71 16,A1 72 (.un .not (.t 71))] (.cond (.t 72) (.seq (.regd [⟨0,0,la 73 32 6⟩,⟨3,1,sb 32 6 73⟩,⟨1,0,la 74 32 7⟩,⟨4,7,sb 32 7 74⟩,⟨2,0,A1 75 (.mkif 74 (cI 45))⟩,⟨5,15,mI 8 0⟩,⟨6,63,mt 9 75⟩]) .ret) .skip)) (sr [fa 77 1 15,lb 78 1 77,kl 79 130 [(.t 78)],mt 76 79,ee 80 76 0,ee 81 76 1,ee 82 76 2,mt 8 80] (.seq (.regd [⟨0,0,fa 83 2 10⟩,⟨1,1,la 84 32 83⟩,⟨5,3,sb 32 6 84⟩,⟨2,0,fa 85 2 15⟩,⟨3,8,la 86 32 85⟩,⟨6,31,sb 32 7 86⟩,⟨4,0,mt 87 8⟩,⟨7,127,mt 8 87⟩,⟨8,255,mn 9⟩]) .ret)))))))))
def Tw:LF:=⟨TA,3,0,88,[.cell 6 true 32,.cell 7 true 32,.tmp 8,.tmp 9]⟩
def Aan:LC:=(sr [bX 4 1,A1 6 (.mv (.c (.bool false))),mn 7] (.seq (.regd [⟨7,0,mt 15 0⟩,⟨8,0,la 16 42 4⟩,⟨9,3,kl 17 354 [(.t 15),(.t 16)]⟩,⟨0,0,mt 8 0⟩,⟨1,8,nc 9 8⟩,⟨2,24,fa 10 0 9⟩,⟨3,56,fa 11 1 10⟩,⟨4,120,la 12 2 11⟩,⟨5,0,fa 13 36 4⟩,⟨6,256,la 14 2 13⟩,⟨10,0,mt 18 2⟩,⟨11,2047,kl 19 455 [(.t 12),(.t 14),(.t 17),(.t 18)]⟩,⟨12,4095,ee 20 19 0⟩,⟨13,4095,ee 21 19 1⟩,⟨14,16383,mt 6 20⟩,⟨15,32767,mt 7 21⟩]) .ret))
def Abq:LF:=⟨Aan,3,0,22,[.tmp 6,.tmp 7]⟩
def Afk:LC:=(sr [mn 6] (.seq (sr [mt 8 0,mt 9 2,kl 10 258 [(.t 8),(.t 9)],mt 7 10] (sr [mt 11 7,A1 12 (.eq true true (.iface [74]) (.t 11) (.c .nili))] (.cond (.t 12) (sr [mt 13 7,mt 6 13] .ret) .skip))) (.seq (.block 0 (sr [mt 15 1,aI 16 .lss 15 0,mt 17 16,mg 18 17 false 1,mg 19 17 false 0,A2 20 17 false (.nilc (.t 19)),A2 21 17 false (.fadr 10 (.t 20)),A2 22 17 false (.load false 1 (.t 21)),A2 23 17 false (.len 0 (.t 22)),A2 24 17 false (.ari .geq (.t 18) (.t 23)),
  BV 25 17 24,mt 14 25] (.cond (.t 14) (sr [A1 26 (.mkif 74 (cI 4)),mt 6 26] .ret) (sr [mt 28 0,nc 29 28,fa 30 10 29,lb 31 1 30,mt 32 1,ia 33 2 31 32,fa 34 1 33,lb 35 1 34,mt 27 35] (.cond (.t 27) (sr [A1 36 (.mkif 74 (cI 41)),mt 6 36] .ret) .skip))))) (sr [mt 37 0,nc 38 37,fa 39 10 38,lb 40 1 39,mt 41 1,ia 42 2 40 41,fa 43 1 42,A0 (.store 1 (.t 43) (.c (.bool true)))] (.seq (.regd [⟨0,0,mt 44 0⟩,⟨1,1,nc 45 44⟩,⟨2,3,fa 46 11 45⟩,⟨3,7,lb 47 1 46⟩,⟨4,0,mt 48 0⟩,⟨5,16,nc 49 48⟩,⟨6,48,fa 50 10 49⟩,⟨7,112,lb 51 1 50⟩,⟨8,0,mt 52 1⟩,⟨9,496,ia 53 2 51 52⟩,⟨10,1008,fa 54 0 53⟩,⟨11,2032,lb 55 1 54⟩,⟨12,4095,ak 56 .sub 47 55⟩,⟨13,8191,nc 57 44⟩,⟨14,16383,fa 58 11 57⟩,⟨15,32767,sb 1 58 56⟩]) (.seq (.regd [⟨0,0,mt 59 0⟩,⟨1,0,mt 60 2⟩,⟨2,1,nc 61 59⟩,⟨3,5,fa 62 0 61⟩,⟨4,15,ib 63 8 1 62 60⟩,⟨5,31,lb 64 1 63⟩,⟨6,0,mt 65 0⟩,⟨7,64,nc 66 65⟩,⟨8,192,fa 67 10 66⟩,⟨9,448,lb 68 1 67⟩,⟨10,0,mt 69 1⟩,⟨11,1984,ia 70 2 68 69⟩,⟨12,4032,fa 71 0 70⟩,⟨13,8128,lb 72 1 71⟩,⟨14,16383,ak 73 .add 64 72⟩,⟨15,1,nc 74 59⟩,⟨16,32769,fa 75 0 74⟩,⟨17,131071,ib 76 8 1 75 60⟩,⟨18,262143,sb 1 76 73⟩]) (sr [mn 6] .ret)))))))
def Ai2:LF:=⟨Afk,3,0,77,[.tmp 6]⟩
def Aiy:LC:=(sr [mU 4 0,mn 5] (sr [mt 10 0,kl 11 130 [(.t 10)],mt 9 11,ee 12 9 0,ee 13 9 1,ee 14 9 2,mt 6 12,mt 7 13,mt 8 14] (.seq (.block 0 (sr [mt 16 8,A1 17 (.eq true true (.iface [74]) (.t 16) (.c .nili)),mt 15 17] (.cond (.t 15) (sr [mt 18 8,
  mU 4 0,mt 5 18] .ret) (sr [mt 20 1,mt 21 6,ak 22 .lss 20 21,mt 23 22,mg 24 23 false 1,A2 25 23 false (.ari .gtr (.t 24) (cI 24)),
  BV 26 23 25,mt 19 26] (.cond (.t 19) (sr [A1 27 (.mkif 74 (cI 2)),
  mU 4 0,mt 5 27] .ret) .skip))))) (sr [mt 28 7,
  aU 29 .add 28 1,mt 30 1,mt 31 6,ak 32 .sub 30 31,ak 33 .shl 29 32,
  aU 34 .sub 33 1,mt 4 34,mn 5] .ret))))
def Aaj:LF:=⟨Aiy,2,0,35,[.tmp 4,.tmp 5]⟩
def Agc:LC:=(sr [A1 6 (.alloc (.st (.cons (.int .i64) (.cons (.int .u64) (.cons (.ar 32 (.int .u8)) (.cons (.int .i64) (.cons (.int .i64) (.cons (.st (.cons (.int .u64) (.cons (.int .u64) .nil))) (.cons .bool (.cons .bool (.cons .bool (.cons (.int .i64) .nil)))))))))))),A1 7 (.mv (.c (.bool false)))] (.seq (sr [mt 11 1,mt 8 11] (.block 0 (.loop (.seq (sr [mt 12 8,aI 13 .geq 12 0]
 (Dd 13 0)) (.seq (.block 1 (.seq (.regd [⟨0,0,mt 23 0⟩,⟨1,1,nc 24 23⟩,⟨2,3,fa 25 36 24⟩,⟨3,7,lb 26 1 25⟩,⟨4,0,mt 27 8⟩,⟨5,31,ia 28 42 26 27⟩,⟨6,63,fa 29 1 28⟩,⟨7,127,lb 30 1 29⟩,⟨8,0,mt 31 0⟩,⟨9,256,nc 32 31⟩,⟨10,768,fa 33 0 32⟩,⟨11,1792,fa 34 0 33⟩,⟨12,3840,lb 35 1 34⟩,⟨13,8191,kl 36 359 [(.t 30),(.t 35)]⟩,⟨14,16383,mt 22 36⟩,⟨15,32767,ee 37 22 0⟩,⟨16,32767,ee 38 22 1⟩,⟨17,65535,mt 9 37⟩,⟨18,262143,mt 10 38⟩]) (sr [mt 39 10,A1 40 (.eq false true (.iface [74]) (.t 39) (.c .nili)),mt 41 40,mg 42 41 true 9,mg 43 41 true 2,A2 44 41 true (.ari .eql (.t 42) (.t 43)),
  Fq 45 41 44] (.cond (.t 45) (sr [mt 46 0,nc 47 46,fa 48 36 47,lb 49 1 48,mt 50 8,ia 51 42 49 50,la 52 42 51,sb 42 6 52,A1 7 (.mv (.c (.bool true)))] .ret) .skip)))) (.reg [mt 14 0,nc 15 14,fa 16 36 15,lb 17 1 16,mt 18 8,ia 19 42 17 18,fa 20 0 19,lb 21 1 20,mt 8 21])))))) (sr [A1 53 (.build (.st (.cons (.int .i64) (.cons (.int .u64) (.cons (.ar 32 (.int .u8)) (.cons (.int .i64) (.cons (.int .i64) (.cons (.st (.cons (.int .u64) (.cons (.int .u64) .nil))) (.cons .bool (.cons .bool (.cons .bool (.cons (.int .i64) .nil))))))))))) []),sb 42 6 53,A1 7 (.mv (.c (.bool false)))] .ret)))
def Af5:LF:=⟨Agc,3,0,54,[.cell 6 true 42,.tmp 7]⟩
def Abi:LC:=(sr [bX 4 0,
 bX 5 1,A1 8 (.mv (.c (.bool false))),mn 9] (sr [la 13 2 4,la 14 2 5,mt 15 2,mt 16 3,kl 17 453 [(.t 13),(.t 14),(.t 15),(.t 16)],mt 12 17,ee 18 12 0,ee 19 12 1,mt 10 18,mt 11 19] (sr [mt 20 11,A1 21 (.eq false true (.iface [74]) (.t 20) (.c .nili)),mt 22 21,mg 23 22 true 10,A2 24 22 true (.fadr 0 (.t 4)),A2 25 22 true (.load false 1 (.t 24)),A2 26 22 true (.ari .geq (.t 23) (.t 25)),
  Fq 27 22 26,mt 28 11,mt 8 27,mt 9 28] .ret)))
def Aa9:LF:=⟨Abi,4,0,29,[.tmp 8,.tmp 9]⟩
variable {M:Seat}
def pw (k i:Nat):BitVec 64:=BitVec.ofNat 64 (2 ^ k + i)
theorem Tu {k:Nat} (hk:k≤24):1≤2 ^ k∧2 ^ k≤16777216:=⟨Nat.one_le_two_pow,Nat.pow_le_pow_right Am hk⟩
theorem L2 {k i:Nat} (hk:k≤24) (hi:i < 2 ^ k):(pw k i).toNat=2 ^ k + i:=by
 have:=Tu hk
 rw [pw,BitVec.toNat_ofNat];omega
theorem MI {k i:Nat} (hk:k≤24) (hi:i < 2 ^ k):Cu (pw k i)=k + 1:=by
 have hn:=L2 hk hi
 have hp:=Tu hk
 have h0:pw k i ≠ 0#64:=by
  intro h
  rw [h] at hn
  simp at hn
  omega
 obtain ⟨hl,hr⟩:=Jx (pw k i)
 obtain ⟨h1,h2,h3⟩:=hr h0
 rw [hn] at h2 h3
 have e:2 ^ (k + 1)=2 * 2 ^ k:=Y6
 rcases Nat.lt_trichotomy (Cu (pw k i)) (k + 1) with h | h | h
 ·have:=Nat.pow_le_pow_right (n:=2) Am (show Cu (pw k i)≤k by omega)
  omega
 ·exact h
 ·have:=Nat.pow_le_pow_right (n:=2) Am (show k + 1≤Cu (pw k i) - 1 by omega)
  omega
theorem sh1 (k:Nat):1#64 <<< k=BitVec.ofNat 64 (2 ^ k):=by
 apply BitVec.eq_of_toNat_eq
 rw [BitVec.toNat_shiftLeft,BitVec.toNat_ofNat,BitVec.toNat_ofNat,Nat.shiftLeft_eq]
 simp
theorem ZV {k i:Nat} (hk:k≤24) (hi:i < 2 ^ k):pw k i - 1#64 <<< k=BitVec.ofNat 64 i:=by
 have hp:=Tu hk
 rw [sh1]
 apply BitVec.eq_of_toNat_eq
 rw [BitVec.toNat_sub,L2 hk hi,BitVec.toNat_ofNat,BitVec.toNat_ofNat]
 omega
theorem Bc (ok:OkPo M) {k i:Nat} (hk:k≤24) (hi:i < 2 ^ k):Ag M 130 [W (pw k i)] [] 0 (Q3 (AS (.int .i64 k) (W (BitVec.ofNat 64 i)) .nili) [] 0):=by
 have h:=FO ok.p (pw k i)
 have hn:=L2 hk hi
 have hp:=Tu hk
 rw [MI hk hi] at h
 refine Ab ok.k130 rfl fun x hx=>?_
 have e0:(pw k i=0#64)=False:=eq_false fun h=>by rw [h] at hn;simp at hn;omega
 have e1:(33554432#64≤pw k i)=False:=eq_false fun h=>by rw [BitVec.le_def,hn] at h;simp at h;omega
 have z0:IntKind.i64.wrap (((k + 1:Nat):Int) - 1)=(k:Int):=AZ
 have z1:0≤(k:Int):=Aa
 refine es 2000 ?_;(simp only [W7,Xl,e0,e1,LZ,seval])
 refine Ak (h) ?_
 (simp only [z0,z1,ZV hk hi,LZ,seval])
 have zz:=@AS.eq_1;exact Bf hx [] ⟨rfl,rfl,rfl⟩
theorem KP (ok:OkPo M) {k i:Nat} (hk:k≤24) (hi:i < 2 ^ k):Ag M 260 [.int .i64 k,W (BitVec.ofNat 64 i)] [] 0 (Q3 (Ah (W (pw k i)) .nili) [] 0):=by
 have hp:=Tu hk
 refine Ab ok.k260 rfl fun x hx=>?_
 have e0:((k:Int) < 0)=False:=eq_false Aa
 have e1:(24 < (k:Int))=False:=eq_false Aa
 have z1:0≤(k:Int):=Aa
 have e2:(1#64 <<< k≤BitVec.ofNat 64 i)=False:=eq_false fun h=>by
  rw [sh1,BitVec.le_def,BitVec.toNat_ofNat,BitVec.toNat_ofNat] at h
  omega
 have e3:1#64 <<< k + BitVec.ofNat 64 i=pw k i:=by
  rw [sh1,pw,BitVec.ofNat_add]
 refine es 2000 ?_;(simp only [Ad4,Aao,e0,e1,e2,z1,LZ,seval])
 have zz:=Bb @Ah.eq_1 e3;exact Bf hx [] ⟨rfl,rfl,rfl⟩
theorem Zr (i:Nat):2#64 * BitVec.ofNat 64 i=BitVec.ofNat 64 (2 * i):=by rw [BitVec.ofNat_mul]
theorem Ach (i:Nat):BitVec.ofNat 64 (2 * i) + 2#64=BitVec.ofNat 64 (2 * i + 2):=by rw [BitVec.ofNat_add]
theorem D6 (ok:OkPo M) {k i:Nat} (hk:k < 24) (hi:i < 2 ^ k):Ag M 131 [W (pw k i)] [] 0 (Q3 (Ah (W (pw (k + 1) (2 * i))) .nili) [] 0):=by
 have hM:=KP ok (k:=k + 1) (i:=2 * i) Aa (by rw [Nat.pow_succ];omega)
 refine Ab ok.k131 rfl fun x hx=>?_
 have z1:IntKind.i64.wrap ((k:Int) + 1)=((k + 1:Nat):Int):=AZ
 refine es 2000 ?_;(simp only [Abk,Aag,LZ,seval])
 refine Ak (Bc ok (Nat.le_of_lt hk) hi) ?_
 (simp only [AS,z1,Zr,LZ,seval])
 refine Ak (hM) ?_
 (simp only [AH,seval])
 have zz:=@Ah.eq_1;exact Bf hx [] ⟨rfl,rfl,rfl⟩
theorem F8 (ok:OkPo M) {k:Nat} (hk:k < 24):Ag M 132 [W (pw k (2 ^ k - 1))] [] 0 (Q3 (Ah (W 0#64) (er 45)) [] 0):=by
 have hp:=Tu (Nat.le_of_lt hk)
 refine Ab ok.k132 rfl fun x hx=>?_
 have e0:((k:Int)=24)=False:=eq_false Aa
 have z1:0≤(k:Int):=Aa
 have e1:(BitVec.ofNat 64 (2 ^ k - 1)=1#64 <<< k - 1#64)=True:=eq_true (by
  rw [sh1]
  apply BitVec.eq_of_toNat_eq
  rw [BitVec.toNat_sub,BitVec.toNat_ofNat,BitVec.toNat_ofNat]
  simp
  omega)
 refine es 2000 ?_;(simp only [WO,Xu,LZ,seval])
 refine Ak (Bc ok (Nat.le_of_lt hk) (i:=2 ^ k - 1) Aa) ?_
 (simp only [AS,e0,z1,e1,LZ,seval])
 have zz:=@Ah.eq_1;exact Bf hx [] ⟨rfl,rfl,rfl⟩
theorem HA (ok:OkPo M) {k i:Nat} (hk:k < 24) (hi:i + 1 < 2 ^ k):Ag M 132 [W (pw k i)] [] 0 (Q3 (Ah (W (pw (k + 1) (2 * i + 2))) .nili) [] 0):=by
 have hp:=Tu (Nat.le_of_lt hk)
 have hM:=KP ok (k:=k + 1) (i:=2 * i + 2) Aa (by rw [Nat.pow_succ];omega)
 refine Ab ok.k132 rfl fun x hx=>?_
 have e0:((k:Int)=24)=False:=eq_false Aa
 have z1:0≤(k:Int):=Aa
 have z2:IntKind.i64.wrap ((k:Int) + 1)=((k + 1:Nat):Int):=AZ
 have e1:(BitVec.ofNat 64 i=1#64 <<< k - 1#64)=False:=eq_false (by
  rw [sh1]
  intro h
  have h:=congrArg BitVec.toNat h
  rw [BitVec.toNat_sub,BitVec.toNat_ofNat,BitVec.toNat_ofNat] at h
  simp at h
  omega)
 refine es 2000 ?_;(simp only [WO,Xu,LZ,seval])
 refine Ak (Bc ok (Nat.le_of_lt hk) (show i < 2 ^ k by omega)) ?_
 (simp only [AS,e0,z1,e1,z2,Zr,Ach,LZ,seval])
 refine Ak (hM) ?_
 (simp only [AH,seval])
 have zz:=@Ah.eq_1;exact Bf hx [] ⟨rfl,rfl,rfl⟩
def Zp (D k i:Nat):Nat:=(i + 1) * 2 ^ (D - k) - 1
theorem FA (ok:OkPo M) (k359:Au M 359 Aaj=true) {D k i:Nat} (hD:D≤24) (hk:k≤D) (hi:i < 2 ^ k):Ag M 359 [W (pw k i),.int .i64 D] [] 0 (Q3 (Ah (W (BitVec.ofNat 64 (Zp D k i))) .nili) [] 0):=by
 refine Ab k359 rfl fun x hx=>?_
 have hp:=Tu hD
 have hq:=Tu (show D - k≤24 by omega)
 have e0:((D:Int) < (k:Int))=False:=eq_false Aa
 have e1:(24 < (D:Int))=False:=eq_false Aa
 have z2:IntKind.i64.wrap ((D:Int) - (k:Int))=((D - k:Nat):Int):=AZ
 have z1:0≤((D - k:Nat):Int):=Aa
 have e3:(BitVec.ofNat 64 i + 1#64) <<< (D - k) - 1#64=BitVec.ofNat 64 (Zp D k i):=by
  have h2:2 ^ D=2 ^ k * 2 ^ (D - k):=Ul
  have h3:(i + 1) * 2 ^ (D - k)≤2 ^ k * 2 ^ (D - k):=Nat.mul_le_mul_right _ hi
  have h4:1 * 2 ^ (D - k)≤(i + 1) * 2 ^ (D - k):=Nat.mul_le_mul_right _ Aa
  have h5:i < 16777216:=by have:=(Tu (show k≤24 by omega)).2;omega
  apply BitVec.eq_of_toNat_eq
  rw [BitVec.toNat_sub,BitVec.toNat_shiftLeft,BitVec.toNat_add,BitVec.toNat_ofNat,BitVec.toNat_ofNat,Nat.shiftLeft_eq,Zp]
  rw [show (i % 2 ^ 64 + 1 % 2 ^ 64) % 2 ^ 64=i + 1 by omega,BitVec.toNat_ofNat]
  omega
 refine es 2000 ?_;(simp only [Aaj,Aiy,LZ,seval])
 refine Ak (Bc ok (show k≤24 by omega) hi) ?_
 (simp only [AS,e0,e1,z2,z1,e3,LZ,seval])
 have zz:=@Ah.eq_1;exact Bf hx [] ⟨rfl,rfl,rfl⟩
variable {M:Seat}
structure OkLe (M:Seat):Prop where
 l:OkLd M
 k126:Au M 126 Ab0=true
 k133:Au M 133 Ai3=true
 k358:Au M 358 Ai2=true
theorem Hv (ok:OkLd M) (p:Int) (hp:p < 0 ∨ 8≤p):Ag M 258 [.ptr 0 [],.int .i64 p] [] 1 (Q3 (er 2) [] 1):=by
 refine Ab ok.k258 rfl fun x hx=>?_
 by_cases e0:p < 0
 ·refine es 2000 ?_;(simp only [XF,Yf,e0,LZ,seval])
  exact Ar.mkZ hx [0] ⟨rfl,rfl,rfl⟩
 ·have e1:(8≤p)=True:=eq_true Aa
  refine es 2000 ?_;(simp only [XF,Yf,e0,e1,LZ,seval])
  exact Ar.mkZ hx [0] ⟨rfl,rfl,rfl⟩
theorem OB (ok:OkLd M) (p:Int) (hp:p < 0 ∨ 8≤p) (v:BitVec 64):Ag M 355 [.ptr 0 [],.int .i64 p,W v] [] 1 (Q3 (er 2) [] 1):=by
 refine Ab ok.k355 rfl fun x hx=>?_
 refine es 2000 ?_;(simp only [YK,Xk,LZ,seval])
 refine Wx [0] [] (Hv ok p hp) (by constructor <;> (try simp only [LY,seval]) <;> exact q1) (by simp only [LX]) ?_
 (simp only [LZ,seval])
 exact Ar.mkZ hx [0] ⟨rfl,rfl,rfl⟩
theorem PA (ok:OkLd M) (p:Int) (hp:p < 0 ∨ 8≤p) (v:BitVec 64):Ag M 250 [.ptr 0 [],.int .i64 p,W v] [] 1 (Q3 (Ah (.int .i64 0) (er 2)) [] 1):=by
 refine Ab ok.k250 rfl fun x hx=>?_
 refine es 2000 ?_;(simp only [RQ,RW,LZ,seval])
 refine Wx [0] [] (OB ok p hp v) (by constructor <;> (try simp only [LY,seval]) <;> exact q1) (by simp only [LX]) ?_
 (simp only [LZ,seval])
 have zz:=@Ah.eq_1;exact Bf hx [0] ⟨rfl,rfl,rfl⟩
theorem OL (ok:OkLd M) (b:Nat→BitVec 64) (i o:BitVec 64) (bs:V) (n:Nat) (hbs:(bs = .nils∧n=1) ∨ ∃ m,bs = .sl 1 [] 0 m 2∧n=2) (k:BitVec 64) (p:Nat) (hp:p < 8) (v:BitVec 64) (h1:b p < v) :
 Ag M 355 [.ptr 0 [],.int .i64 p,W v] [(0,Aq b i o bs k)] n (Q3 (er 21) [(0,Aq b i o bs k)] n):=by
 refine Ab ok.k355 rfl fun x hx=>?_
 have e0:((p:Int) < 0)=False:=eq_false Aa
 have e1:((p:Int) < 8)=True:=eq_true Aa
 have e2:(0≤(p:Int))=True:=eq_true Aa
 rcases hbs with ⟨rfl,rfl⟩ | ⟨m,rfl,rfl⟩
 all_goals
  refine es 2000 ?_;(simp only [YK,Xk,Aq,LZ,seval])
  refine Wx [0] [] (Dq ok p hp) (by constructor <;> (try simp only [LY,seval]) <;> exact q1) (by simp only [LX]) ?_
  (simp only [Aq,h1,e0,e1,e2,LZ,seval])
  repeat refine sd ?_
 ·exact Ar.mkZ hx [0] ⟨rfl,rfl,rfl⟩
 ·exact Ar.mkZ hx [0,1] ⟨rfl,rfl,rfl⟩
theorem OY (ok:OkLd M) (b:Nat→BitVec 64) (i o:BitVec 64) (bs:V) (n:Nat) (hbs:(bs = .nils∧n=1) ∨ ∃ m,bs = .sl 1 [] 0 m 2∧n=2) (k:BitVec 64) (p:Nat) (hp:p < 8) (v:BitVec 64) (h1:b p < v) :
 Ag M 250 [.ptr 0 [],.int .i64 p,W v] [(0,Aq b i o bs k)] n (Q3 (Ah (.int .i64 0) (er 21)) [(0,Aq b i o bs k)] n):=by
 refine Ab ok.k250 rfl fun x hx=>?_
 have hT:=OL ok b i o bs n hbs k p hp v h1
 rcases hbs with ⟨rfl,rfl⟩ | ⟨m,rfl,rfl⟩
 ·refine es 2000 ?_;(simp only [RQ,RW,Aq,LZ,seval])
  have zz:=@Aq.eq_1;refine Om [0] [0] (hT) ?_
  (simp only [Aq,LZ,seval])
  have zz:=@Ah.eq_1;exact Bf hx [0] ⟨rfl,rfl,rfl⟩
 ·refine es 2000 ?_;(simp only [RQ,RW,Aq,LZ,seval])
  have zz:=@Aq.eq_1;refine Bw [0,1] [0] (hT) ?_
  (simp only [Aq,LZ,seval])
  have zz:=@Ah.eq_1;exact Bf hx [0,1] ⟨rfl,rfl,rfl⟩
theorem RY (ok:OkLe M) (p:Int) (hp:p < 0 ∨ 8≤p):Ag M 126 [.ptr 0 [],.int .i64 p] [] 1 (Q3 (Ah (W 0#64) (er 2)) [] 1):=by
 refine Ab ok.k126 rfl fun x hx=>?_
 refine es 2000 ?_;(simp only [Ab0,Ad0,LZ,seval])
 refine Wx [0] [] (Hv ok.l p hp) (by constructor <;> (try simp only [LY,seval]) <;> exact q1) (by simp only [LX]) ?_
 (simp only [LZ,seval])
 have zz:=@Ah.eq_1;exact Bf hx [0] ⟨rfl,rfl,rfl⟩
theorem J9 (ok:OkLe M) (b:Nat→BitVec 64) (i o:BitVec 64) (m:Nat) (k:BitVec 64) (p:Nat) (hp:p < 8) :
 Ag M 126 [.ptr 0 [],.int .i64 p] [(0,Aq b i o (.sl 1 [] 0 m 2) k)] 2 (Q3 (Ah (W (b p)) .nili) [(0,Aq b i o (.sl 1 [] 0 m 2) k)] 2):=by
 refine Ab ok.k126 rfl fun x hx=>?_
 have e0:((p:Int) < 0)=False:=eq_false Aa
 have e1:((p:Int) < 8)=True:=eq_true Aa
 have e2:(0≤(p:Int))=True:=eq_true Aa
 refine es 2000 ?_;(simp only [Ab0,Ad0,Aq,LZ,seval])
 refine Wx [0] [] (Dq ok.l p hp) (by constructor <;> (try simp only [LY,seval]) <;> exact q1) (by simp only [LX]) ?_
 (simp only [Aq,e0,e1,e2,LZ,seval])
 repeat refine sd ?_
 have zz:=@Ah.eq_1;exact Bf hx [0,1] ⟨rfl,rfl,rfl⟩
theorem H8 (ok:OkLe M) (b:Nat→BitVec 64) (i o:BitVec 64) (m:Nat) (k:BitVec 64) :
 Ag M 133 [.ptr 0 []] [(0,Aq b i o (.sl 1 [] 0 m 2) k)] 2 (Q3 (W k) [(0,Aq b i o (.sl 1 [] 0 m 2) k)] 2):=by
 refine Ab ok.k133 rfl fun x hx=>?_
 refine es 2000 ?_;(simp only [Ai3,Ag0,Aq,LZ,seval])
 exact Ar.mkZ hx [0,1] ⟨rfl,rfl,rfl⟩
theorem RI (ok:OkLe M) (b:Nat→BitVec 64) (i o:BitVec 64) (m:Nat) (k:BitVec 64) (v:Nat→BitVec 64) (g:Nat→Bool) (a:Nat) (ha:a < m) (hm:m < 1000) (hg:g a=false) (p:Nat) (hp:p < 8) :
 Ag M 358 [.ptr 0 [],.int .i64 a,.int .i64 p] [(0,Aq b i o (.sl 1 [] 0 m 2) k),(1,.ar 2 m fun j=>A4 (v j) (g j))] 2 (Q3 .nili [(0,Aq (fun j=>if j=p then b p + v a else b j) i o (.sl 1 [] 0 m 2) (k - v a)),(1,.ar 2 m fun j=>A4 (v j) (if j=a then true else g j))] 2):=by
 refine Ab ok.k358 rfl fun x hx=>?_
 have e0:((p:Int) < 0)=False:=eq_false Aa
 have e1:((p:Int) < 8)=True:=eq_true Aa
 have e2:(0≤(p:Int))=True:=eq_true Aa
 have d0:((a:Int) < 0)=False:=eq_false Aa
 have d1:((m:Int)≤(a:Int))=False:=eq_false Aa
 have d2:((a:Int) < (m:Int))=True:=eq_true Aa
 have d3:(0≤(a:Int))=True:=eq_true Aa
 refine es 2000 ?_;(simp only [Ai2,Afk,Aq,LZ,seval])
 refine Wx [0] [] (Dq ok.l p hp) (by constructor <;> (try simp only [LY,seval]) <;> exact q1) (by simp only [LX]) ?_
 (simp only [Aq,A4,hg,e0,e1,e2,d0,d1,d2,d3,LZ,seval])
 repeat refine sd ?_
 refine Ar.mk hx [0,1] [] .nili [(0,Aq (fun j=>if j=p then b p + v a else b j) i o (.sl 1 [] 0 m 2) (k - v a)),(1,.ar 2 m fun j=>A4 (v j) (if j=a then true else g j))] 2 Am (by (simp only [CU,Aq,seval])) (by simp only [LV,Aq,LY,seval]) ?_ ⟨rfl,rfl,rfl⟩
 simp only [Aq,A4,LY,seval]
 refine ⟨fun j hj=>?_,fun j hj=>?_⟩
 ·by_cases h:j=p <;> simp only [h,CL,LY,seval]
 ·by_cases h:j=a
  ·subst h
   simp only [if_true,LY,seval]
  ·simp only [h,if_false,LY,seval]
end Mv
