/- A part. -/
import Derived.Test.YtlfkjfonpacelaaGreatDoorJI
set_option linter.all false
set_option maxRecDepth 20000
set_option maxHeartbeats 8000000
namespace Mv
open Go
def Amr:LC:=(sr [mU 4 0,mn 5] (.seq (sr [mt 7 0,mt 8 1,kl 9 258 [(.t 7),(.t 8)],mt 6 9] (sr [mt 10 6,A1 11 (.eq true true (.iface [74]) (.t 10) (.c .nili))] (.cond (.t 11) (sr [mt 12 6,
  mU 4 0,mt 5 12] .ret) .skip))) (sr [mt 13 0,mt 14 1,nc 15 13,fa 16 0 15,ib 17 8 1 16 14,lb 18 1 17,mt 4 18,mn 5] .ret)))
def Alk:LF:=⟨Amr,2,0,19,[.tmp 4,.tmp 5]⟩
def Abq:LC:=(sr [bX 9 2,
 bX 11 4,mn 14] (.seq (sr [mt 27 0,nc 28 27,fa 29 35 28,lb 30 1 29,mt 31 5,kl 32 126 [(.t 30),(.t 31)],mt 26 32,ee 33 26 0,ee 34 26 1,mt 15 33,mt 16 34] (sr [mt 35 16,A1 36 (.eq true true (.iface [74]) (.t 35) (.c .nili))] (.cond (.t 36) (sr [mt 37 16,mt 14 37] .ret) .skip))) (.seq (sr [fa 39 1 9,lb 40 1 39,kl 41 130 [(.t 40)],mt 38 41,ee 42 38 0,ee 43 38 1,ee 44 38 2,mt 17 42,mt 18 43,mt 19 44] (sr [mt 45 17,mt 46 0,nc 47 46,fa 48 0 47,fa 49 0 48,lb 50 1 49,ak 51 .neq 45 50] (.cond (.t 51) (sr [A1 52 (.mkif 74 (cI 45)),mt 14 52] .ret) .skip))) (sr [mt 54 0,mt 55 1,mt 56 3,kl 57 356 [(.t 54),(.t 55),(.t 56)],mt 53 57,ee 58 53 0,ee 59 53 1,ee 60 53 2,ee 61 53 3,
  aB 20 32,
  aB 21 32,sb 32 20 58,sb 32 21 59,mt 22 60,mt 23 61] (.seq (.block 0 (sr [mt 63 23,A1 64 (.eq true true (.iface [74]) (.t 63) (.c .nili)),mt 62 64] (.cond (.t 62) (sr [mt 65 23,mt 14 65] .ret) (sr [fa 67 38 9,lb 68 1 67,mt 66 68] (.cond (.t 66) (sr [A1 69 (.mkif 74 (cI 41)),mt 14 69] .ret) .skip))))) (sr [mt 71 0,la 72 42 9,mt 73 6,kl 74 357 [(.t 71),(.t 72),(.t 73)],mt 70 74,ee 75 70 0,ee 76 70 1,mt 24 75,mt 23 76] (.seq (.block 1 (sr [mt 78 23,A1 79 (.eq true true (.iface [74]) (.t 78) (.c .nili)),mt 77 79] (.cond (.t 77) (sr [mt 80 23,mt 14 80] .ret) (sr [mt 82 24,mt 81 82] (.cond (.t 81) (sr [A1 83 (.mkif 74 (cI 42)),mt 14 83] .ret) .skip))))) (sr [la 85 32 20,la 86 116 11,kl 87 98 [(.t 85),(.t 86)],mt 84 87,ee 88 84 0,ee 89 84 1,
  aB 25 32,sb 32 25 88,mt 23 89] (.seq (.block 2 (sr [mt 91 23,A1 92 (.eq true true (.iface [74]) (.t 91) (.c .nili)),mt 90 92] (.cond (.t 90) (sr [mt 93 23,mt 14 93] .ret) (.seq (.regd [⟨0,0,la 95 32 25⟩,⟨1,0,la 96 32 21⟩,⟨2,3,A1 97 (.eq false false (.ar 32 1 false .int) (.t 95) (.t 96))⟩,⟨3,0,mt 98 0⟩,⟨4,8,nc 99 98⟩,⟨5,24,fa 100 0 99⟩,⟨6,56,fa 101 0 100⟩,⟨7,120,lb 102 1 101⟩,⟨8,0,mt 103 22⟩,⟨9,504,ak 104 .sub 102 103⟩,⟨10,1016,aI 105 .rem 104 2⟩,⟨11,2040,aI 106 .eql 105 0⟩,⟨12,4095,A1 107 (.eq false false .bool (.t 97) (.t 106))⟩,⟨13,8191,mt 94 107⟩]) (.cond (.t 94) (sr [A1 108 (.mkif 74 (cI 46)),mt 14 108] .ret) .skip))))) (sr [mn 14] .ret))))))))))
def Abr:LF:=⟨Abq,7,0,109,[.tmp 14]⟩
def Ab6:LC:=(sr [mn 6] (.seq (.block 0 (sr [mt 15 1,aI 16 .lss 15 0,mt 17 16,mg 18 17 false 1,mg 19 17 false 0,A2 20 17 false (.nilc (.t 19)),A2 21 17 false (.fadr 36 (.t 20)),A2 22 17 false (.load false 1 (.t 21)),A2 23 17 false (.len 0 (.t 22)),A2 24 17 false (.ari .geq (.t 18) (.t 23)),
  CQ 25 17 24,mt 14 25] (.cond (.t 14) (sr [A1 26 (.mkif 74 (cI 4)),mt 6 26] .ret) (sr [mt 28 0,nc 29 28,fa 30 36 29,lb 31 1 30,mt 32 1,ia 33 42 31 32,fa 34 39 33,lb 35 1 34,mt 27 35] (.cond (.t 27) (sr [A1 36 (.mkif 74 (cI 41)),mt 6 36] .ret) .skip))))) (sr [mt 37 0,nc 38 37,fa 39 36 38,lb 40 1 39,mt 41 1,ia 42 42 40 41,la 43 42 42,A1 7 (.alloc zC),sb 42 7 43] (sr [A1 44 (.build zC []),A1 8 (.alloc zC),sb 42 8 44,A1 9 (.mv (.c (.bool false)))] (.seq (sr [mt 45 0,nc 46 45,fa 47 36 46,lb 48 1 47,
  lN 49 0 48,
  mI 50 0] (.block 1 (.loop (sr [ak 51 .lss 50 49] (.seq (DJ 51 1) (.seq (.block 2 (sr [ia 52 42 48 50,la 53 42 52,A1 11 (.alloc zC),sb 42 11 53] (.block 3 (sr [fa 55 0 11,lb 56 1 55,mt 57 1,ak 58 .neq 56 57,mt 54 58] (.cond (.t 54) (.exit 2) (sr [fa 60 39 11,lb 61 1 60,A1 62 (.un .not (.t 61)),mt 59 62] (.cond (.t 59) (sr [A1 63 (.mkif 74 (cI 44)),mt 6 63] .ret) (sr [fa 65 40 11,lb 66 1 65,A1 67 (.un .not (.t 66)),mt 68 67,mg 69 68 true 9,A2 70 68 true (.un .not (.t 69)),mg 71 68 true 70,A2 72 71 false (.fadr 1 (.t 11)),A2 73 71 false (.load false 1 (.t 72)),A2 74 71 false (.fadr 1 (.t 8)),A2 75 71 false (.load false 1 (.t 74)),A2 76 71 false (.ari .lss (.t 73) (.t 75)),A2 77 68 true (.pick (.t 71) (.c (.bool true)) (.t 76)),
  HR 78 68 77,mt 64 78] (.cond (.t 64) (.reg [la 79 42 11,sb 42 8 79,A1 9 (.mv (.c (.bool true)))]) .skip))))))))) (.reg [aI 80 .add 50 1,mt 50 80]))))))) (sr [mt 82 0,la 83 42 7,mt 84 2,kl 85 357 [(.t 82),(.t 83),(.t 84)],mt 81 85,ee 86 81 0,ee 87 81 1,mt 12 86,mt 13 87] (.seq (.block 4 (sr [mt 89 13,A1 90 (.eq true true (.iface [74]) (.t 89) (.c .nili)),mt 88 90] (.cond (.t 88) (sr [mt 91 13,mt 6 91] .ret) (sr [mt 93 12,A1 94 (.un .not (.t 93)),mt 92 94] (.cond (.t 92) (sr [A1 95 (.mkif 74 (cI 44)),mt 6 95] .ret) .skip))))) (sr [fa 96 38 7,lb 97 1 96,mt 98 97,mg 99 98 false 9,
  CQ 100 98 99,fa 101 39 7,A0 (.store 1 (.t 101) (.c (.bool true))),fa 102 40 7,sb 1 102 100] (.seq (sr [mt 103 9,mt 104 103,A2 105 104 true (.fadr 38 (.t 7)),A2 106 104 true (.load false 1 (.t 105)),A2 107 104 true (.un .not (.t 106)),
  HR 108 104 107] (.cond (.t 108) (.reg [fa 109 34 8,lb 110 1 109,fa 111 41 7,sb 1 111 110]) .skip)) (.seq (.regd [⟨0,0,mt 112 0⟩,⟨1,1,nc 113 112⟩,⟨2,3,fa 114 36 113⟩,⟨3,7,lb 115 1 114⟩,⟨4,0,mt 116 1⟩,⟨5,0,la 117 42 7⟩,⟨6,63,ia 118 42 115 116⟩,⟨7,127,sb 42 118 117⟩]) (.seq (.regd [⟨0,0,mt 119 0⟩,⟨1,1,nc 120 119⟩,⟨2,3,fa 121 35 120⟩,⟨3,7,lb 122 1 121⟩,⟨4,0,fa 123 35 7⟩,⟨5,16,lb 124 1 123⟩,⟨6,0,fa 125 41 7⟩,⟨7,64,lb 126 1 125⟩,⟨8,255,kl 127 358 [(.t 122),(.t 124),(.t 126)]⟩,⟨9,511,mt 6 127⟩]) .ret)))))))))))
def Zy:LF:=⟨Ab6,3,0,128,[.tmp 6]⟩
def Ac3:LC:=(sr [aB 6 32,
 aB 7 32,
 mI 8 0,mn 9] (sr [mt 17 0,nc 18 17,fa 19 36 18,lb 20 1 19,mt 21 1,ia 22 42 20 21,la 23 42 22,A1 10 (.alloc zC),sb 42 10 23] (.seq (.regd [⟨0,0,fa 25 1 10⟩,⟨1,1,lb 26 1 25⟩,⟨2,0,mt 27 0⟩,⟨3,4,nc 28 27⟩,⟨4,12,fa 29 0 28⟩,⟨5,28,fa 30 0 29⟩,⟨6,60,lb 31 1 30⟩,⟨7,127,kl 32 359 [(.t 26),(.t 31)]⟩,⟨8,255,mt 24 32⟩,⟨9,511,ee 33 24 0⟩,⟨10,511,ee 34 24 1⟩,⟨11,1023,mt 11 33⟩,⟨12,4095,mt 12 34⟩]) (sr [mt 35 0,nc 36 35,fa 37 0 36,fa 38 0 37,lb 39 1 38,mt 8 39] (.seq (sr [mt 40 2,A1 41 (.un .not (.t 40))] (.cond (.t 41) (sr [mt 42 0,nc 43 42,fa 44 0 43,fa 45 3 44,la 46 32 45,sb 32 6 46] (.seq (sr [mt 47 11,
  aU 48 .gtr 47 0] (.cond (.t 48) (sr [mt 50 0,mt 51 1,mt 52 11,
  aU 53 .sub 52 1,kl 54 454 [(.t 50),(.t 51),(.t 53)],mt 49 54,ee 55 49 0,ee 56 49 1,A1 13 (.alloc zC),sb 42 13 55,mt 14 56] (.reg [fa 57 2 13,la 58 32 57,sb 32 6 58])) .skip)) (.seq (.regd [⟨0,0,la 59 32 6⟩,⟨4,1,sb 32 6 59⟩,⟨1,0,fa 60 2 10⟩,⟨2,4,la 61 32 60⟩,⟨5,15,sb 32 7 61⟩,⟨3,0,mt 62 8⟩,⟨6,63,mt 8 62⟩,⟨7,127,mn 9⟩]) .ret))) .skip)) (sr [mt 64 0,mt 65 1,mt 66 11,
  aU 67 .add 66 1,kl 68 454 [(.t 64),(.t 65),(.t 67)],mt 63 68,ee 69 63 0,ee 70 63 1,A1 15 (.alloc zC),sb 42 15 69,mt 16 70] (.seq (sr [mt 71 16,A1 72 (.un .not (.t 71))] (.cond (.t 72) (.seq (.regd [⟨0,0,la 73 32 6⟩,⟨3,1,sb 32 6 73⟩,⟨1,0,la 74 32 7⟩,⟨4,7,sb 32 7 74⟩,⟨2,0,A1 75 (.mkif 74 (cI 45))⟩,⟨5,15,mI 8 0⟩,⟨6,63,mt 9 75⟩]) .ret) .skip)) (sr [fa 77 1 15,lb 78 1 77,kl 79 130 [(.t 78)],mt 76 79,ee 80 76 0,ee 81 76 1,ee 82 76 2,mt 8 80] (.seq (.regd [⟨0,0,fa 83 2 10⟩,⟨1,1,la 84 32 83⟩,⟨5,3,sb 32 6 84⟩,⟨2,0,fa 85 2 15⟩,⟨3,8,la 86 32 85⟩,⟨6,31,sb 32 7 86⟩,⟨4,0,mt 87 8⟩,⟨7,127,mt 8 87⟩,⟨8,255,mn 9⟩]) .ret)))))))))
def YC:LF:=⟨Ac3,3,0,88,[.cell 6 true 32,.cell 7 true 32,.tmp 8,.tmp 9]⟩
def Ai8:LC:=(sr [bX 4 1,A1 6 (.mv (.c (.bool false))),mn 7] (.seq (.regd [⟨7,0,mt 15 0⟩,⟨8,0,la 16 42 4⟩,⟨9,3,kl 17 354 [(.t 15),(.t 16)]⟩,⟨0,0,mt 8 0⟩,⟨1,8,nc 9 8⟩,⟨2,24,fa 10 0 9⟩,⟨3,56,fa 11 1 10⟩,⟨4,120,la 12 2 11⟩,⟨5,0,fa 13 36 4⟩,⟨6,256,la 14 2 13⟩,⟨10,0,mt 18 2⟩,⟨11,2047,kl 19 455 [(.t 12),(.t 14),(.t 17),(.t 18)]⟩,⟨12,4095,ee 20 19 0⟩,⟨13,4095,ee 21 19 1⟩,⟨14,16383,mt 6 20⟩,⟨15,32767,mt 7 21⟩]) .ret))
def Al6:LF:=⟨Ai8,3,0,22,[.tmp 6,.tmp 7]⟩
def Ass:LC:=(sr [mn 6] (.seq (sr [mt 8 0,mt 9 2,kl 10 258 [(.t 8),(.t 9)],mt 7 10] (sr [mt 11 7,A1 12 (.eq true true (.iface [74]) (.t 11) (.c .nili))] (.cond (.t 12) (sr [mt 13 7,mt 6 13] .ret) .skip))) (.seq (.block 0 (sr [mt 15 1,aI 16 .lss 15 0,mt 17 16,mg 18 17 false 1,mg 19 17 false 0,A2 20 17 false (.nilc (.t 19)),A2 21 17 false (.fadr 10 (.t 20)),A2 22 17 false (.load false 1 (.t 21)),A2 23 17 false (.len 0 (.t 22)),A2 24 17 false (.ari .geq (.t 18) (.t 23)),
  CQ 25 17 24,mt 14 25] (.cond (.t 14) (sr [A1 26 (.mkif 74 (cI 4)),mt 6 26] .ret) (sr [mt 28 0,nc 29 28,fa 30 10 29,lb 31 1 30,mt 32 1,ia 33 2 31 32,fa 34 1 33,lb 35 1 34,mt 27 35] (.cond (.t 27) (sr [A1 36 (.mkif 74 (cI 41)),mt 6 36] .ret) .skip))))) (sr [mt 37 0,nc 38 37,fa 39 10 38,lb 40 1 39,mt 41 1,ia 42 2 40 41,fa 43 1 42,A0 (.store 1 (.t 43) (.c (.bool true)))] (.seq (.regd [⟨0,0,mt 44 0⟩,⟨1,1,nc 45 44⟩,⟨2,3,fa 46 11 45⟩,⟨3,7,lb 47 1 46⟩,⟨4,0,mt 48 0⟩,⟨5,16,nc 49 48⟩,⟨6,48,fa 50 10 49⟩,⟨7,112,lb 51 1 50⟩,⟨8,0,mt 52 1⟩,⟨9,496,ia 53 2 51 52⟩,⟨10,1008,fa 54 0 53⟩,⟨11,2032,lb 55 1 54⟩,⟨12,4095,ak 56 .sub 47 55⟩,⟨13,8191,nc 57 44⟩,⟨14,16383,fa 58 11 57⟩,⟨15,32767,sb 1 58 56⟩]) (.seq (.regd [⟨0,0,mt 59 0⟩,⟨1,0,mt 60 2⟩,⟨2,1,nc 61 59⟩,⟨3,5,fa 62 0 61⟩,⟨4,15,ib 63 8 1 62 60⟩,⟨5,31,lb 64 1 63⟩,⟨6,0,mt 65 0⟩,⟨7,64,nc 66 65⟩,⟨8,192,fa 67 10 66⟩,⟨9,448,lb 68 1 67⟩,⟨10,0,mt 69 1⟩,⟨11,1984,ia 70 2 68 69⟩,⟨12,4032,fa 71 0 70⟩,⟨13,8128,lb 72 1 71⟩,⟨14,16383,ak 73 .add 64 72⟩,⟨15,1,nc 74 59⟩,⟨16,32769,fa 75 0 74⟩,⟨17,131071,ib 76 8 1 75 60⟩,⟨18,262143,sb 1 76 73⟩]) (sr [mn 6] .ret)))))))
def Asq:LF:=⟨Ass,3,0,77,[.tmp 6]⟩
def Ar6:LC:=(sr [mU 4 0,mn 5] (sr [mt 10 0,kl 11 130 [(.t 10)],mt 9 11,ee 12 9 0,ee 13 9 1,ee 14 9 2,mt 6 12,mt 7 13,mt 8 14] (.seq (.block 0 (sr [mt 16 8,A1 17 (.eq true true (.iface [74]) (.t 16) (.c .nili)),mt 15 17] (.cond (.t 15) (sr [mt 18 8,
  mU 4 0,mt 5 18] .ret) (sr [mt 20 1,mt 21 6,ak 22 .lss 20 21,mt 23 22,mg 24 23 false 1,A2 25 23 false (.ari .gtr (.t 24) (cI 24)),
  CQ 26 23 25,mt 19 26] (.cond (.t 19) (sr [A1 27 (.mkif 74 (cI 2)),
  mU 4 0,mt 5 27] .ret) .skip))))) (sr [mt 28 7,
  aU 29 .add 28 1,mt 30 1,mt 31 6,ak 32 .sub 30 31,ak 33 .shl 29 32,
  aU 34 .sub 33 1,mt 4 34,mn 5] .ret))))
def M2:LF:=⟨Ar6,2,0,35,[.tmp 4,.tmp 5]⟩
def Atr:LC:=(sr [A1 6 (.alloc zC),A1 7 (.mv (.c (.bool false)))] (.seq (sr [mt 11 1,mt 8 11] (.block 0 (.loop (.seq (sr [mt 12 8,aI 13 .geq 12 0]
 (DJ 13 0)) (.seq (.block 1 (.seq (.regd [⟨0,0,mt 23 0⟩,⟨1,1,nc 24 23⟩,⟨2,3,fa 25 36 24⟩,⟨3,7,lb 26 1 25⟩,⟨4,0,mt 27 8⟩,⟨5,31,ia 28 42 26 27⟩,⟨6,63,fa 29 1 28⟩,⟨7,127,lb 30 1 29⟩,⟨8,0,mt 31 0⟩,⟨9,256,nc 32 31⟩,⟨10,768,fa 33 0 32⟩,⟨11,1792,fa 34 0 33⟩,⟨12,3840,lb 35 1 34⟩,⟨13,8191,kl 36 359 [(.t 30),(.t 35)]⟩,⟨14,16383,mt 22 36⟩,⟨15,32767,ee 37 22 0⟩,⟨16,32767,ee 38 22 1⟩,⟨17,65535,mt 9 37⟩,⟨18,262143,mt 10 38⟩]) (sr [mt 39 10,A1 40 (.eq false true (.iface [74]) (.t 39) (.c .nili)),mt 41 40,mg 42 41 true 9,mg 43 41 true 2,A2 44 41 true (.ari .eql (.t 42) (.t 43)),
  HR 45 41 44] (.cond (.t 45) (sr [mt 46 0,nc 47 46,fa 48 36 47,lb 49 1 48,mt 50 8,ia 51 42 49 50,la 52 42 51,sb 42 6 52,A1 7 (.mv (.c (.bool true)))] .ret) .skip)))) (.reg [mt 14 0,nc 15 14,fa 16 36 15,lb 17 1 16,mt 18 8,ia 19 42 17 18,fa 20 0 19,lb 21 1 20,mt 8 21])))))) (sr [A1 53 (.build zC []),sb 42 6 53,A1 7 (.mv (.c (.bool false)))] .ret)))
def Ara:LF:=⟨Atr,3,0,54,[.cell 6 true 42,.tmp 7]⟩
def Amg:LC:=(sr [bX 4 0,
 bX 5 1,A1 8 (.mv (.c (.bool false))),mn 9] (sr [la 13 2 4,la 14 2 5,mt 15 2,mt 16 3,kl 17 453 [(.t 13),(.t 14),(.t 15),(.t 16)],mt 12 17,ee 18 12 0,ee 19 12 1,mt 10 18,mt 11 19] (sr [mt 20 11,A1 21 (.eq false true (.iface [74]) (.t 20) (.c .nili)),mt 22 21,mg 23 22 true 10,A2 24 22 true (.fadr 0 (.t 4)),A2 25 22 true (.load false 1 (.t 24)),A2 26 22 true (.ari .geq (.t 23) (.t 25)),
  HR 27 22 26,mt 28 11,mt 8 27,mt 9 28] .ret)))
def Ang:LF:=⟨Amg,4,0,29,[.tmp 8,.tmp 9]⟩
variable {M:Seat}
def pw (k i:Nat):BitVec 64:=BitVec.ofNat 64 (2 ^ k + i)
theorem UO {k:Nat} (hk:k≤24):1≤2 ^ k∧2 ^ k≤16777216:=⟨Nat.one_le_two_pow,Nat.pow_le_pow_right Al hk⟩
theorem M3 {k i:Nat} (hk:k≤24) (hi:i < 2 ^ k):(pw k i).toNat=2 ^ k + i:=by
 have:=UO hk;rw [pw,BitVec.toNat_ofNat];omega
theorem QS {k i:Nat} (hk:k≤24) (hi:i < 2 ^ k):D1 (pw k i)=k + 1:=by
 have hn:=M3 hk hi;have hp:=UO hk;have h0:pw k i ≠ 0#64:=by
  intro h;rw [h] at hn;simp at hn;omega
 obtain ⟨hl,hr⟩:=M1 (pw k i);obtain ⟨h1,h2,h3⟩:=hr h0;rw [hn] at h2 h3;have e:2 ^ (k + 1)=2 * 2 ^ k:=KX;rcases Nat.lt_trichotomy (D1 (pw k i)) (k + 1) with h | h | h
 ·have:=Nat.pow_le_pow_right (n:=2) Al (show D1 (pw k i)≤k by omega);omega
 ·exact h
 ·have:=Nat.pow_le_pow_right (n:=2) Al (show k + 1≤D1 (pw k i) - 1 by omega);omega
theorem sh1 (k:Nat):1#64 <<< k=BitVec.ofNat 64 (2 ^ k):=by
 apply BitVec.eq_of_toNat_eq;rw [BitVec.toNat_shiftLeft,BitVec.toNat_ofNat,BitVec.toNat_ofNat,Nat.shiftLeft_eq];simp
theorem Zh {k i:Nat} (hk:k≤24) (hi:i < 2 ^ k):pw k i - 1#64 <<< k=BitVec.ofNat 64 i:=by
 have hp:=UO hk;rw [sh1];apply BitVec.eq_of_toNat_eq;rw [BitVec.toNat_sub,M3 hk hi,BitVec.toNat_ofNat,BitVec.toNat_ofNat];omega
theorem Bv (ok:OkPo M) {k i:Nat} (hk:k≤24) (hi:i < 2 ^ k):Ae M 130 [W (pw k i)] [] 0 (Q3 (B0 (.int .i64 k) (W (BitVec.ofNat 64 i)) .nili) [] 0):=by
 have h:=HA ok.p (pw k i);have hn:=M3 hk hi;have hp:=UO hk;rw [QS hk hi] at h;refine Ab ok.k130 rfl fun x hx=>?_;have e0:(pw k i=0#64)=False:=eq_false fun h=>by rw [h] at hn;simp at hn;omega
 have e1:(33554432#64≤pw k i)=False:=eq_false fun h=>by rw [BitVec.le_def,hn] at h;simp at h;omega
 have z0:IntKind.i64.wrap (((k + 1:Nat):Int) - 1)=(k:Int):=AW;have z1:0≤(k:Int):=Aa;refine eX ?_;simp only [Ak6,Aod,e0,e1,LZ,seval];refine Aj (h) ?_;simp only [z0,z1,Zh hk hi,LZ,seval];have zz:=@l5;exact AI hx [] ⟨rfl,rfl,rfl⟩
theorem No (ok:OkPo M) {k i:Nat} (hk:k≤24) (hi:i < 2 ^ k):Ae M 260 [.int .i64 k,W (BitVec.ofNat 64 i)] [] 0 (Q3 (Ai (W (pw k i)) .nili) [] 0):=by
 have hp:=UO hk;refine Ab ok.k260 rfl fun x hx=>?_;have e0:((k:Int) < 0)=False:=eq_false Aa;have e1:(24 < (k:Int))=False:=eq_false Aa;have z1:0≤(k:Int):=Aa;have e2:(1#64 <<< k≤BitVec.ofNat 64 i)=False:=eq_false fun h=>by
  rw [sh1,BitVec.le_def,BitVec.toNat_ofNat,BitVec.toNat_ofNat] at h;omega
 have e3:1#64 <<< k + BitVec.ofNat 64 i=pw k i:=by
  rw [sh1,pw,BitVec.ofNat_add]
 refine eX ?_;simp only [Aqe,Atl,e0,e1,e2,z1,LZ,seval];have zz:=AY @d9 e3;exact AI hx [] ⟨rfl,rfl,rfl⟩
theorem R5 (i:Nat):2#64 * BitVec.ofNat 64 i=BitVec.ofNat 64 (2 * i):=by rw [BitVec.ofNat_mul]
theorem SW (i:Nat):BitVec.ofNat 64 (2 * i) + 2#64=BitVec.ofNat 64 (2 * i + 2):=by rw [BitVec.ofNat_add]
theorem Ek (ok:OkPo M) {k i:Nat} (hk:k < 24) (hi:i < 2 ^ k):Ae M 131 [W (pw k i)] [] 0 (Q3 (Ai (W (pw (k + 1) (2 * i))) .nili) [] 0):=by
 have hM:=No ok (k:=k + 1) (i:=2 * i) Aa KX;refine Ab ok.k131 rfl fun x hx=>?_;have z1:IntKind.i64.wrap ((k:Int) + 1)=((k + 1:Nat):Int):=AW;refine eX ?_;simp only [Atm,Aty,LZ,seval];refine Aj (Bv ok (Nat.le_of_lt hk) hi) ?_;simp only [B0,z1,R5,LZ,seval];refine Aj (hM) ?_;simp only [Bb,seval];have zz:=@d9;exact AI hx [] ⟨rfl,rfl,rfl⟩
theorem Hm (ok:OkPo M) {k:Nat} (hk:k < 24):Ae M 132 [W (pw k (2 ^ k - 1))] [] 0 (Q3 (Ai (W 0#64) (er 45)) [] 0):=by
 have hp:=UO (Nat.le_of_lt hk);refine Ab ok.k132 rfl fun x hx=>?_;have e0:((k:Int)=24)=False:=eq_false Aa;have z1:0≤(k:Int):=Aa
 have e1:(BitVec.ofNat 64 (2 ^ k - 1)=1#64 <<< k - 1#64)=True:=eq_true (by
  rw [sh1];apply BitVec.eq_of_toNat_eq;rw [BitVec.toNat_sub,BitVec.toNat_ofNat,BitVec.toNat_ofNat];simp
  omega)
 refine eX ?_;simp only [Amm,Akb,LZ,seval];refine Aj (Bv ok (Nat.le_of_lt hk) (i:=2 ^ k - 1) Aa) ?_;simp only [B0,e0,z1,e1,LZ,seval];have zz:=@d9;exact AI hx [] ⟨rfl,rfl,rfl⟩
theorem Gt (ok:OkPo M) {k i:Nat} (hk:k < 24) (hi:i + 1 < 2 ^ k):Ae M 132 [W (pw k i)] [] 0 (Q3 (Ai (W (pw (k + 1) (2 * i + 2))) .nili) [] 0):=by
 have hp:=UO (Nat.le_of_lt hk);have hM:=No ok (k:=k + 1) (i:=2 * i + 2) Aa KX;refine Ab ok.k132 rfl fun x hx=>?_;have e0:((k:Int)=24)=False:=eq_false Aa;have z1:0≤(k:Int):=Aa;have z2:IntKind.i64.wrap ((k:Int) + 1)=((k + 1:Nat):Int):=AW
 have e1:(BitVec.ofNat 64 i=1#64 <<< k - 1#64)=False:=eq_false (by
  rw [sh1];intro h;have h:=congrArg BitVec.toNat h;rw [BitVec.toNat_sub,BitVec.toNat_ofNat,BitVec.toNat_ofNat] at h;simp at h
  omega)
 refine eX ?_;simp only [Amm,Akb,LZ,seval];refine Aj (Bv ok (Nat.le_of_lt hk) (show i < 2 ^ k by omega)) ?_;simp only [B0,e0,z1,e1,z2,R5,SW,LZ,seval];refine Aj (hM) ?_;simp only [Bb,seval];have zz:=@d9;exact AI hx [] ⟨rfl,rfl,rfl⟩
def E3 (D k i:Nat):Nat:=(i + 1) * 2 ^ (D - k) - 1
theorem Cy (ok:OkPo M) (k359:Ar M 359 M2=true) {D k i:Nat} (hD:D≤24) (hk:k≤D) (hi:i < 2 ^ k):Ae M 359 [W (pw k i),.int .i64 D] [] 0 (Q3 (Ai (W (BitVec.ofNat 64 (E3 D k i))) .nili) [] 0):=by
 refine Ab k359 rfl fun x hx=>?_;have hp:=UO hD;have hq:=UO (show D - k≤24 by omega);have e0:((D:Int) < (k:Int))=False:=eq_false Aa;have e1:(24 < (D:Int))=False:=eq_false Aa;have z2:IntKind.i64.wrap ((D:Int) - (k:Int))=((D - k:Nat):Int):=AW;have z1:0≤((D - k:Nat):Int):=Aa;have e3:(BitVec.ofNat 64 i + 1#64) <<< (D - k) - 1#64=BitVec.ofNat 64 (E3 D k i):=by
  have h2:2 ^ D=2 ^ k * 2 ^ (D - k):=WK;have h3:(i + 1) * 2 ^ (D - k)≤2 ^ k * 2 ^ (D - k):=Nat.mul_le_mul_right _ hi;have h4:1 * 2 ^ (D - k)≤(i + 1) * 2 ^ (D - k):=Nat.mul_le_mul_right _ Aa;have h5:i < 16777216:=by have:=(UO (show k≤24 by omega)).2;omega
  apply BitVec.eq_of_toNat_eq;rw [BitVec.toNat_sub,BitVec.toNat_shiftLeft,BitVec.toNat_add,BitVec.toNat_ofNat,BitVec.toNat_ofNat,Nat.shiftLeft_eq,E3];rw [show (i % 2 ^ 64 + 1 % 2 ^ 64) % 2 ^ 64=i + 1 by omega,BitVec.toNat_ofNat];omega
 refine eX ?_;simp only [M2,Ar6,LZ,seval];refine Aj (Bv ok (show k≤24 by omega) hi) ?_;simp only [B0,e0,e1,z2,z1,e3,LZ,seval];have zz:=@d9;exact AI hx [] ⟨rfl,rfl,rfl⟩
variable {M:Seat}
structure OkLe (M:Seat):Prop where
 l:OkLd M
 k126:Ar M 126 Alk=true
 k358:Ar M 358 Asq=true
theorem J4 (ok:OkLd M) (p:Int) (hp:p < 0 ∨ 8≤p):Ae M 258 [.ptr 0 [],.int .i64 p] [] 1 (Q3 (er 2) [] 1):=by
 refine Ab ok.k258 rfl fun x hx=>?_;by_cases e0:p < 0
 ·refine eX ?_;simp only [Aeb,Afd,e0,LZ,seval];exact Ap.mkZ hx [0] ⟨rfl,rfl,rfl⟩
 ·have e1:(8≤p)=True:=eq_true Aa;refine eX ?_;simp only [Aeb,Afd,e0,e1,LZ,seval];exact Ap.mkZ hx [0] ⟨rfl,rfl,rfl⟩
theorem TM (ok:OkLd M) (p:Int) (hp:p < 0 ∨ 8≤p) (v:BitVec 64):Ae M 355 [.ptr 0 [],.int .i64 p,W v] [] 1 (Q3 (er 2) [] 1):=by
 refine Ab ok.k355 rfl fun x hx=>?_;refine eX ?_;simp only [Adl,Ahl,LZ,seval];refine Nt [0] [] (J4 ok p hp) (by constructor <;> (try simp only [LY,seval]) <;> exact q1) (by simp only [LX]) ?_;simp only [LZ,seval];exact Ap.mkZ hx [0] ⟨rfl,rfl,rfl⟩
theorem S2 (ok:OkLd M) (p:Int) (hp:p < 0 ∨ 8≤p) (v:BitVec 64):Ae M 250 [.ptr 0 [],.int .i64 p,W v] [] 1 (Q3 (Ai (.int .i64 0) (er 2)) [] 1):=by
 refine Ab ok.k250 rfl fun x hx=>?_;refine eX ?_;simp only [Xb,WA,LZ,seval];refine Nt [0] [] (TM ok p hp v) (by constructor <;> (try simp only [LY,seval]) <;> exact q1) (by simp only [LX]) ?_;simp only [LZ,seval];have zz:=@d9;exact AI hx [0] ⟨rfl,rfl,rfl⟩
theorem Th (ok:OkLd M) (b:Nat→BitVec 64) (i o:BitVec 64) (bs:V) (n:Nat) (hbs:(bs = .nils∧n=1) ∨ ∃ m,bs = .sl 1 [] 0 m 2∧n=2) (k:BitVec 64) (p:Nat) (hp:p < 8) (v:BitVec 64) (h1:b p < v) :
 Ae M 355 [.ptr 0 [],.int .i64 p,W v] [(0,A6 b i o bs k)] n (Q3 (er 21) [(0,A6 b i o bs k)] n):=by
 refine Ab ok.k355 rfl fun x hx=>?_;have e0:((p:Int) < 0)=False:=eq_false Aa;have e1:((p:Int) < 8)=True:=eq_true Aa;have e2:(0≤(p:Int))=True:=eq_true Aa;rcases hbs with ⟨rfl,rfl⟩ | ⟨m,rfl,rfl⟩
 all_goals
  refine eX ?_;simp only [Adl,Ahl,A6,LZ,seval];refine Nt [0] [] (EH ok p hp) (by constructor <;> (try simp only [LY,seval]) <;> exact q1) (by simp only [LX]) ?_;simp only [A6,h1,e0,e1,e2,LZ,seval];repeat refine sd ?_
 ·exact Ap.mkZ hx [0] ⟨rfl,rfl,rfl⟩
 ·exact Ap.mkZ hx [0,1] ⟨rfl,rfl,rfl⟩
theorem S4 (ok:OkLd M) (b:Nat→BitVec 64) (i o:BitVec 64) (bs:V) (n:Nat) (hbs:(bs = .nils∧n=1) ∨ ∃ m,bs = .sl 1 [] 0 m 2∧n=2) (k:BitVec 64) (p:Nat) (hp:p < 8) (v:BitVec 64) (h1:b p < v) :
 Ae M 250 [.ptr 0 [],.int .i64 p,W v] [(0,A6 b i o bs k)] n (Q3 (Ai (.int .i64 0) (er 21)) [(0,A6 b i o bs k)] n):=by
 refine Ab ok.k250 rfl fun x hx=>?_;have hT:=Th ok b i o bs n hbs k p hp v h1;rcases hbs with ⟨rfl,rfl⟩ | ⟨m,rfl,rfl⟩
 ·refine eX ?_;simp only [Xb,WA,A6,LZ,seval];have zz:=@j4;refine Z8 [0] [0] (hT) ?_;simp only [A6,LZ,seval];have zz:=@d9;exact AI hx [0] ⟨rfl,rfl,rfl⟩
 ·refine eX ?_;simp only [Xb,WA,A6,LZ,seval];have zz:=@j4;refine By [0,1] [0] (hT) ?_;simp only [A6,LZ,seval];have zz:=@d9;exact AI hx [0,1] ⟨rfl,rfl,rfl⟩
theorem V8 (ok:OkLe M) (p:Int) (hp:p < 0 ∨ 8≤p):Ae M 126 [.ptr 0 [],.int .i64 p] [] 1 (Q3 (Ai (W 0#64) (er 2)) [] 1):=by
 refine Ab ok.k126 rfl fun x hx=>?_;refine eX ?_;simp only [Alk,Amr,LZ,seval];refine Nt [0] [] (J4 ok.l p hp) (by constructor <;> (try simp only [LY,seval]) <;> exact q1) (by simp only [LX]) ?_;simp only [LZ,seval];have zz:=@d9;exact AI hx [0] ⟨rfl,rfl,rfl⟩
theorem Aca (ok:OkLe M) (b:Nat→BitVec 64) (i o:BitVec 64) (m:Nat) (k:BitVec 64) (p:Nat) (hp:p < 8) :
 Ae M 126 [.ptr 0 [],.int .i64 p] [(0,A6 b i o (.sl 1 [] 0 m 2) k)] 2 (Q3 (Ai (W (b p)) .nili) [(0,A6 b i o (.sl 1 [] 0 m 2) k)] 2):=by
 refine Ab ok.k126 rfl fun x hx=>?_;have e0:((p:Int) < 0)=False:=eq_false Aa;have e1:((p:Int) < 8)=True:=eq_true Aa;have e2:(0≤(p:Int))=True:=eq_true Aa;refine eX ?_;simp only [Alk,Amr,A6,LZ,seval];refine Nt [0] [] (EH ok.l p hp) (by constructor <;> (try simp only [LY,seval]) <;> exact q1) (by simp only [LX]) ?_;simp only [A6,e0,e1,e2,LZ,seval];repeat refine sd ?_
 have zz:=@d9;exact AI hx [0,1] ⟨rfl,rfl,rfl⟩
theorem WP (ok:OkLe M) (b:Nat→BitVec 64) (i o:BitVec 64) (m:Nat) (k:BitVec 64) (v:Nat→BitVec 64) (g:Nat→Bool) (a:Nat) (ha:a < m) (hm:m < 1000) (hg:g a=false) (p:Nat) (hp:p < 8) :
 Ae M 358 [.ptr 0 [],.int .i64 a,.int .i64 p] [(0,A6 b i o (.sl 1 [] 0 m 2) k),(1,.ar 2 m fun j=>AM (v j) (g j))] 2 (Q3 .nili [(0,A6 (fun j=>if j=p then b p + v a else b j) i o (.sl 1 [] 0 m 2) (k - v a)),(1,.ar 2 m fun j=>AM (v j) (if j=a then true else g j))] 2):=by
 refine Ab ok.k358 rfl fun x hx=>?_;have e0:((p:Int) < 0)=False:=eq_false Aa;have e1:((p:Int) < 8)=True:=eq_true Aa;have e2:(0≤(p:Int))=True:=eq_true Aa;have d0:((a:Int) < 0)=False:=eq_false Aa;have d1:((m:Int)≤(a:Int))=False:=eq_false Aa;have d2:((a:Int) < (m:Int))=True:=eq_true Aa;have d3:(0≤(a:Int))=True:=eq_true Aa;refine eX ?_;simp only [Asq,Ass,A6,LZ,seval];refine Nt [0] [] (EH ok.l p hp) (by constructor <;> (try simp only [LY,seval]) <;> exact q1) (by simp only [LX]) ?_;simp only [A6,AM,hg,e0,e1,e2,d0,d1,d2,d3,LZ,seval];repeat refine sd ?_
 refine Ap.mk hx [0,1] [] .nili [(0,A6 (fun j=>if j=p then b p + v a else b j) i o (.sl 1 [] 0 m 2) (k - v a)),(1,.ar 2 m fun j=>AM (v j) (if j=a then true else g j))] 2 Al (by (simp only [Di,A6,seval])) (by simp only [LV,A6,LY,seval]) ?_ ⟨rfl,rfl,rfl⟩;simp only [A6,AM,LY,seval];refine ⟨fun j hj=>?_,fun j hj=>?_⟩
 ·by_cases h:j=p <;> simp only [h,B4,LY,seval]
 ·by_cases h:j=a
  ·subst h;simp only [if_true,LY,seval]
  ·simp only [h,if_false,LY,seval]
structure OkGm (M:Seat):Prop where
 n:OkGN M
 l:OkLd M
 p:OkPo M
 k249:Ar M 249 Aqa=true
 k248:Ar M 248 Alh=true
 k350:Ar M 350 XP=true
 k354:Ar M 354 Aj6=true
def As (d:Int) (l g:BitVec 64) (s:Dg) (ld cs:V):V:=.st 37 (.fcons 0 (Av d l g s) (.fcons 35 ld (.fcons 36 cs .fnil)))
def Ex (c e:Int):V:=.st 2 (.fcons 0 (.int .i64 c) (.fcons 1 (er e) .fnil))
theorem I2 {M:Seat} (ok:OkGm M) (c e:Int):Ae M 248 [.int .i64 c,er e] [] 0 (Q3 (.ifc 145 (.ptr 0 [])) [(0,Ex c e)] 1):=by
 refine Ab ok.k248 rfl fun x hx=>?_;refine eX ?_;simp only [Alh,Ank,LZ,seval];refine Ap.mk hx [96] [] (.ifc 145 (.ptr 0 [])) [(0,Ex c e)] 1 Al (by (simp only [Di,seval])) (by simp only [LV,LY,seval]) (by simp only [Ex,er,LY,seval]) ⟨rfl,rfl,rfl⟩
theorem Mt {M:Seat} (ok:OkGm M) (c:Int):Ae M 248 [.int .i64 c,.nili] [] 0 (Q3 .nili [] 0):=by
 refine Ab ok.k248 rfl fun x hx=>?_;refine eX ?_;simp only [Alh,Ank,LZ,seval];exact Ap.mkZ hx [] ⟨rfl,rfl,rfl⟩
def c9:=@As.eq_1
def l8:=@Ex.eq_1
def Aky (max:Bool) (x y z w:V) (H:Hp):Out:=match x,y,z,w with
 | .int k a,.int k1 b,.int k2 c,.int k3 d=>⟨k=k1∧k=k2∧k=k3,.int k (Ss max (Ss max (Ss max a b) c) d),H⟩
 | _,_,_,_=>Ci H
theorem Pu (A:List V) (H:Hp) (n:Nat) (max:Bool) (x y z w:X):Af A H n (.mm4 max x y z w)=Aky max (x.ev A) (y.ev A) (z.ev A) (w.ev A) H:=rfl
def mxW (a b:BitVec 64):BitVec 64:=if a < b then b else a
theorem At6 (a b:BitVec 64):Ss true (a.toNat:Int) (b.toNat:Int)=((mxW a b).toNat:Int):=by
 unfold Ss mxW;simp only [if_true,BitVec.lt_def];by_cases h:a.toNat < b.toNat
 ·rw [if_pos h,if_pos Aa]
 ·rw [if_neg h,if_neg Aa]
theorem TX (a b c d:BitVec 64) (H:Hp):Aky true (W a) (W b) (W c) (W d) H=⟨True,W (mxW (mxW (mxW a b) c) d),H⟩:=by
 simp only [W,Aky,At6,and_self]
structure OkMv (M:Seat):Prop where
 g:OkGm M
 k351:Ar M 351 Am4=true
 k352:Ar M 352 Aa7=true
 k353:Ar M 353 Afm=true
 k452:Ar M 452 Aof=true
 k453:Ar M 453 Amn=true
 k487:Ar M 487 Ahj=true
 k247:Ar M 247 Ab8=true
 fn352:Gf M 352
theorem Aiq {M:Seat} {f:Nat} {v w:V} {us:List V} {H:Hp} {n:Nat} {K:V→Hp→Prop} (hf:Gf M f) (hv:(v.solid && !v.isAgg)=true) (hw:(w.solid && !w.isAgg)=true) (h:Bg M f (us ++ [v,w]) H n K):Fl M (.fn f (.st 2 (.fcons 0 v (.fcons 1 w .fnil)))) us H n K:=by
 refine .inl ⟨⟨hf,?_⟩,h⟩;simp [V.fhas,V.fget,List.range_succ] at hv hw ⊢;exact ⟨hv,hw⟩
variable {M:Seat}
def RY (l g:BitVec 64):Prop:=¬ l < 1#64∧¬ 1099511627776#64 < l∧¬ l < g
def KA (u a b n:BitVec 64):Prop:=n < a ∨ 1099511627776#64 < mxW (mxW (mxW u a) b) n
def mnW (a b:BitVec 64):BitVec 64:=if a < b then a else b
theorem At7 (a b:BitVec 64) (H:Hp):vmm false (W a) (W b) H=⟨True,W (mnW a b),H⟩:=by
 have:vmm false (W a) (W b) H=⟨IntKind.u64=IntKind.u64,.int .u64 (Ss false (a.toNat:Int) (b.toNat:Int)),H⟩:=rfl;rw [this];have h:Ss false (a.toNat:Int) (b.toNat:Int)=((mnW a b).toNat:Int):=by
  unfold Ss mnW;simp only [To,BitVec.lt_def]
  repeat' split
  all_goals omega
 rw [h];simp [W]
structure OkCl (M:Seat):Prop where
 v:OkMv M
 k455:Ar M 455 Ang=true
theorem G5 (ok:OkMv M) (l g:BitVec 64) (h:RY l g):Ae M 249 [Ad l g] [] 0 (Q3 .nili [] 0):=by
 obtain ⟨h1,h2,h3⟩:=h;refine Ab ok.g.k249 rfl fun x hx=>?_;refine eX ?_;simp only [Aqa,Aue,Ad,h1,h2,h3,LZ,seval];exact Ap.mkZ hx [] ⟨rfl,rfl,rfl⟩
theorem Qn (ok:OkMv M) (u a b n:BitVec 64) (h:KA u a b n):Ae M 487 [Ad u a,W b,W n] [] 0 (Q3 (Ai (W 0#64) (er 2)) [] 0):=by
 refine Ab ok.k487 rfl fun x hx=>?_;by_cases h1:n < a
 ·refine eX ?_;simp only [Ahj,Adz,Ad,Pu,TX,h1,LZ,seval];have zz:=@d9;exact AI hx [] ⟨rfl,rfl,rfl⟩
 ·have h2:1099511627776#64 < mxW (mxW (mxW u a) b) n:=h.resolve_left h1;refine eX ?_;simp only [Ahj,Adz,Ad,Pu,TX,h1,h2,LZ,seval];have zz:=@d9;exact AI hx [] ⟨rfl,rfl,rfl⟩
theorem RJ (ok:OkMv M) (u a b n:BitVec 64) (h:¬ KA u a b n):Ae M 487 [Ad u a,W b,W n] [] 0 (Q3 (Ai (W (b + n - a)) .nili) [] 0):=by
 obtain ⟨h1,h2⟩:=not_or.1 h;refine Ab ok.k487 rfl fun x hx=>?_;refine eX ?_;simp only [Ahj,Adz,Ad,Pu,TX,h1,h2,LZ,seval];have zz:=@d9;exact AI hx [] ⟨rfl,rfl,rfl⟩
theorem J7 (ok:OkMv M) (l g u a b n:BitVec 64) (hc:RY l g) (h:KA u a b n):Ae M 453 [Ad l g,Ad u a,W b,W n] [] 0 (Q3 (Ai (W 0#64) (er 2)) [] 0):=by
 refine Ab ok.k453 rfl fun x hx=>?_;refine eX ?_;simp only [Amn,Aor,Ad,LZ,seval];have zz:=@b9;refine Dh (G5 ok l g hc) ?_;simp only [LZ,seval];have zz:=@b9;refine Dh (Qn ok u a b n h) ?_;simp only [Bb,seval];have zz:=@d9;exact AI hx [] ⟨rfl,rfl,rfl⟩
theorem Gy (ok:OkMv M) (l g u a b n:BitVec 64) (hc:RY l g) (h:¬ KA u a b n):Ae M 453 [Ad l g,Ad u a,W b,W n] [] 0 (Q3 (Ai (W (b + n - a)) .nili) [] 0):=by
 refine Ab ok.k453 rfl fun x hx=>?_;refine eX ?_;simp only [Amn,Aor,Ad,LZ,seval];have zz:=@b9;refine Dh (G5 ok l g hc) ?_;simp only [LZ,seval];have zz:=@b9;refine Dh (RJ ok u a b n h) ?_;simp only [Bb,seval];have zz:=@d9;exact AI hx [] ⟨rfl,rfl,rfl⟩
theorem Uf (ok:OkMv M) (l g u a b n:BitVec 64) (hc:RY l g) (h:KA u a b n):Ae M 353 [Ad l g,Ad u a,W b,W n] [] 0 (Q3 (Ai (Ad 0#64 0#64) (er 2)) [] 0):=by
 refine Ab ok.k353 rfl fun x hx=>?_;refine eX ?_;simp only [Afm,Aej,Ad,LZ,seval];have zz:=@b9;refine Dh (J7 ok l g u a b n hc h) ?_;simp only [Bb,seval];have zz:=AY @d9 @b9;exact AI hx [] ⟨rfl,rfl,rfl⟩
theorem Sm (ok:OkMv M) (l g u a b n:BitVec 64) (hc:RY l g) (h:¬ KA u a b n) (hl:l≤b + n - a):Ae M 353 [Ad l g,Ad u a,W b,W n] [] 0 (Q3 (Ai (Ad 0#64 0#64) (er 42)) [] 0):=by
 refine Ab ok.k353 rfl fun x hx=>?_;refine eX ?_;simp only [Afm,Aej,Ad,LZ,seval];have zz:=@b9;refine Dh (Gy ok l g u a b n hc h) ?_;simp only [Bb,hl,seval];have zz:=AY @d9 @b9;exact AI hx [] ⟨rfl,rfl,rfl⟩
theorem KJ (ok:OkMv M) (l g u a b n:BitVec 64) (hc:RY l g) (h:¬ KA u a b n) (hl:¬ l≤b + n - a):Ae M 353 [Ad l g,Ad u a,W b,W n] [] 0 (Q3 (Ai (Ad (mnW (b + n - a) (l - g)) n) .nili) [] 0):=by
 refine Ab ok.k353 rfl fun x hx=>?_;refine eX ?_;simp only [Afm,Aej,Ad,LZ,seval];have zz:=@b9;refine Dh (Gy ok l g u a b n hc h) ?_;simp only [Bb,hl,At7,seval];have zz:=AY @d9 @b9;exact AI hx [] ⟨rfl,rfl,rfl⟩
theorem Tz (ok:OkCl M) (l g u a b n:BitVec 64) (hc:RY l g) (h:KA u a b n):Ae M 455 [Ad l g,Ad u a,W b,W n] [] 0 (Q3 (Ai (.bool false) (er 2)) [] 0):=by
 refine Ab ok.k455 rfl fun x hx=>?_;refine eX ?_;simp only [Ang,Amg,Ad,LZ,seval];have zz:=@b9;refine Dh (J7 ok.v l g u a b n hc h) ?_;simp only [Bb,seval];have zz:=@d9;exact AI hx [] ⟨rfl,rfl,rfl⟩
theorem Sy (ok:OkCl M) (l g u a b n:BitVec 64) (hc:RY l g) (h:¬ KA u a b n):Ae M 455 [Ad l g,Ad u a,W b,W n] [] 0 (Q3 (Ai (.bool (decide (l≤b + n - a))) .nili) [] 0):=by
 refine Ab ok.k455 rfl fun x hx=>?_;refine eX ?_;simp only [Ang,Amg,Ad,LZ,seval];have zz:=@b9;refine Dh (Gy ok.v l g u a b n hc h) ?_;simp only [Bb,seval];have zz:=@d9;exact AI hx [] ⟨rfl,rfl,rfl⟩
end Mv
