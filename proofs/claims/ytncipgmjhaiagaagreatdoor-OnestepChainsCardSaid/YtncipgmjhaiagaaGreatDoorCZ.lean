/- A part. -/
import Derived.Test.YtncipgmjhaiagaaGreatDoorCY
set_option linter.all false
set_option maxRecDepth 20000
set_option maxHeartbeats 4000000
namespace Mv
open Go
def ZW : LC := (sr [A1 8 (.mv (cU 0)),
 A1 9 (.mv (cI 0))]
 (.seq (sr [mt 18 0]
 (.block 0 (sr [A1 20 (.ari .eql (.t 18) (cI 1)),
  mt 19 20]
 (.cond (.t 19) (sr [mt 21 1,
  mt 22 2,
  A1 23 (.ari .add (.t 21) (.t 22)),
  mt 8 23,
  A1 9 (.mv (cI 0))]
 (.ret)) (sr [A1 25 (.ari .eql (.t 18) (cI 2)),
  mt 24 25]
 (.cond (.t 24) (sr [mt 26 1,
  mt 27 2,
  A1 28 (.ari .sub (.t 26) (.t 27)),
  mt 8 28,
  A1 9 (.mv (cI 0))]
 (.ret)) (sr [A1 30 (.ari .eql (.t 18) (cI 3)),
  mt 29 30]
 (.cond (.t 29) (sr [mt 32 1,
  mt 33 2,
  kl 34 226 [(.t 32), (.t 33)],
  mt 31 34,
  A1 35 (.ext (.t 31) 0),
  A1 36 (.ext (.t 31) 1),
  mt 10 35,
  mt 11 36]
 (sr [mt 37 11,
  mt 8 37,
  A1 9 (.mv (cI 0))]
 (.ret))) (.seq (sr [A1 39 (.ari .eql (.t 18) (cI 4)),
  mt 38 39]
 (.cond (.t 38) (.skip) (sr [A1 40 (.ari .eql (.t 18) (cI 5)),
  mt 38 40]
 (.cond (.t 38) (.skip) (sr [A1 41 (.ari .eql (.t 18) (cI 6)),
  mt 38 41]
 (.cond (.t 38) (.skip) (.reg [A1 42 (.ari .eql (.t 18) (cI 7)),
  mt 38 42])))))))
 (.cond (.t 38) (sr [mt 43 0,
  mt 44 1,
  mt 45 2,
  kl 46 227 [(.t 43), (.t 44), (.t 45)],
  mt 8 46,
  A1 9 (.mv (cI 0))]
 (.ret)) (.seq (sr [A1 48 (.ari .eql (.t 18) (cI 8)),
  mt 47 48]
 (.cond (.t 47) (.skip) (.reg [A1 49 (.ari .eql (.t 18) (cI 9)),
  mt 47 49])))
 (.cond (.t 47) (.seq (sr [mt 50 3,
  A1 51 (.ari .eql (.t 50) (cU 0))]
 (.cond (.t 51) (sr [A1 8 (.mv (cU 0)),
  A1 9 (.mv (cI 0))]
 (.ret)) (.skip)))
 (sr [mt 53 1,
  mt 54 2,
  kl 55 226 [(.t 53), (.t 54)],
  mt 52 55,
  A1 56 (.ext (.t 52) 0),
  A1 57 (.ext (.t 52) 1),
  mt 12 56,
  mt 13 57]
 (.seq (sr [mt 58 0,
  A1 59 (.ari .eql (.t 58) (cI 8))]
 (.cond (.t 59) (sr [mt 60 1,
  mt 61 2,
  A1 62 (.ari .add (.t 60) (.t 61)),
  mt 13 62]
 (.reg [mt 63 13,
  mt 64 1,
  A1 65 (.ari .lss (.t 63) (.t 64)),
  kl 66 228 [(.t 65)],
  mt 12 66])) (.skip)))
 (sr [mt 68 12,
  mt 69 13,
  mt 70 3,
  kl 71 229 [(.t 68), (.t 69), (.t 70)],
  mt 67 71,
  A1 72 (.ext (.t 67) 0),
  A1 73 (.ext (.t 67) 1),
  mt 14 72,
  mt 15 73]
 (sr [mt 74 15,
  mt 8 74,
  A1 9 (.mv (cI 0))]
 (.ret)))))) (sr [A1 76 (.ari .eql (.t 18) (cI 10)),
  mt 75 76]
 (.cond (.t 75) (sr [A1 16 (.mv (cU 1))]
 (.seq (sr [A1 17 (.mv (cI 63))]
 (.block 1 (.loop (.seq (sr [mt 77 17,
  A1 78 (.ari .geq (.t 77) (cI 0))]
 (.cond (.t 78) (.skip) (.exit 1)))
 (.seq (.block 2 (sr [mt 81 16,
  mt 82 16,
  A1 83 (.ari .mul (.t 81) (.t 82)),
  mt 16 83]
 (sr [mt 84 2,
  mt 85 17,
  A1 86 (.conv .u64 (.t 85)),
  A1 87 (.ari .shr (.t 84) (.t 86)),
  A1 88 (.ari .and (.t 87) (cU 1)),
  A1 89 (.ari .eql (.t 88) (cU 1))]
 (.cond (.t 89) (.reg [mt 90 16,
  mt 91 1,
  A1 92 (.ari .mul (.t 90) (.t 91)),
  mt 16 92]) (.skip)))))
 (.reg [mt 79 17,
  A1 80 (.ari .sub (.t 79) (cI 1)),
  mt 17 80]))))))
 (sr [mt 93 16,
  mt 8 93,
  A1 9 (.mv (cI 0))]
 (.ret)))) (.seq (sr [A1 95 (.ari .eql (.t 18) (cI 11)),
  mt 94 95]
 (.cond (.t 94) (.skip) (sr [A1 96 (.ari .eql (.t 18) (cI 12)),
  mt 94 96]
 (.cond (.t 94) (.skip) (sr [A1 97 (.ari .eql (.t 18) (cI 13)),
  mt 94 97]
 (.cond (.t 94) (.skip) (sr [A1 98 (.ari .eql (.t 18) (cI 14)),
  mt 94 98]
 (.cond (.t 94) (.skip) (.reg [A1 99 (.ari .eql (.t 18) (cI 15)),
  mt 94 99])))))))))
 (.cond (.t 94) (sr [mt 100 0,
  mt 101 1,
  mt 102 2,
  kl 103 230 [(.t 100), (.t 101), (.t 102)],
  mt 8 103,
  A1 9 (.mv (cI 0))]
 (.ret)) (sr [A1 105 (.ari .eql (.t 18) (cI 16)),
  mt 104 105]
 (.cond (.t 104) (sr [mt 106 1,
  mt 107 2,
  A1 108 (.ari .lss (.t 106) (.t 107)),
  kl 109 228 [(.t 108)],
  mt 8 109,
  A1 9 (.mv (cI 0))]
 (.ret)) (sr [A1 111 (.ari .eql (.t 18) (cI 17)),
  mt 110 111]
 (.cond (.t 110) (sr [mt 112 1,
  mt 113 2,
  A1 114 (.ari .gtr (.t 112) (.t 113)),
  kl 115 228 [(.t 114)],
  mt 8 115,
  A1 9 (.mv (cI 0))]
 (.ret)) (sr [A1 117 (.ari .eql (.t 18) (cI 18)),
  mt 116 117]
 (.cond (.t 116) (sr [mt 118 1,
  A1 119 (.ari .xor (.t 118) (cU 9223372036854775808)),
  mt 120 2,
  A1 121 (.ari .xor (.t 120) (cU 9223372036854775808)),
  A1 122 (.ari .lss (.t 119) (.t 121)),
  kl 123 228 [(.t 122)],
  mt 8 123,
  A1 9 (.mv (cI 0))]
 (.ret)) (sr [A1 125 (.ari .eql (.t 18) (cI 19)),
  mt 124 125]
 (.cond (.t 124) (sr [mt 126 1,
  A1 127 (.ari .xor (.t 126) (cU 9223372036854775808)),
  mt 128 2,
  A1 129 (.ari .xor (.t 128) (cU 9223372036854775808)),
  A1 130 (.ari .gtr (.t 127) (.t 129)),
  kl 131 228 [(.t 130)],
  mt 8 131,
  A1 9 (.mv (cI 0))]
 (.ret)) (sr [A1 133 (.ari .eql (.t 18) (cI 20)),
  mt 132 133]
 (.cond (.t 132) (sr [mt 134 1,
  mt 135 2,
  A1 136 (.ari .eql (.t 134) (.t 135)),
  kl 137 228 [(.t 136)],
  mt 8 137,
  A1 9 (.mv (cI 0))]
 (.ret)) (sr [A1 139 (.ari .eql (.t 18) (cI 21)),
  mt 138 139]
 (.cond (.t 138) (sr [mt 140 1,
  A1 141 (.ari .eql (.t 140) (cU 0)),
  kl 142 228 [(.t 141)],
  mt 8 142,
  A1 9 (.mv (cI 0))]
 (.ret)) (sr [A1 144 (.ari .eql (.t 18) (cI 22)),
  mt 143 144]
 (.cond (.t 143) (sr [mt 145 1,
  mt 146 2,
  A1 147 (.ari .and (.t 145) (.t 146)),
  mt 8 147,
  A1 9 (.mv (cI 0))]
 (.ret)) (sr [A1 149 (.ari .eql (.t 18) (cI 23)),
  mt 148 149]
 (.cond (.t 148) (sr [mt 150 1,
  mt 151 2,
  A1 152 (.ari .or (.t 150) (.t 151)),
  mt 8 152,
  A1 9 (.mv (cI 0))]
 (.ret)) (sr [A1 154 (.ari .eql (.t 18) (cI 24)),
  mt 153 154]
 (.cond (.t 153) (sr [mt 155 1,
  mt 156 2,
  A1 157 (.ari .xor (.t 155) (.t 156)),
  mt 8 157,
  A1 9 (.mv (cI 0))]
 (.ret)) (sr [A1 159 (.ari .eql (.t 18) (cI 25)),
  mt 158 159]
 (.cond (.t 158) (sr [mt 160 1,
  A1 161 (.ari .xor (.t 160) (cU 18446744073709551615)),
  mt 8 161,
  A1 9 (.mv (cI 0))]
 (.ret)) (.skip)))))))))))))))))))))))))))))))))))))
 (sr [A1 8 (.mv (cU 0)),
  A1 9 (.mv (cI 10))]
 (.ret))))
def YK : LF := ⟨ZW, 4, 0, 162, [.tmp 8, .tmp 9]⟩
def Ald : LC := (sr [A1 4 (.mv (cU 0)),
 A1 5 (.mv (cU 0))]
 (sr [mt 13 0,
  A1 14 (.ari .and (.t 13) (cU 4294967295)),
  mt 15 0,
  A1 16 (.ari .shr (.t 15) (cU 32)),
  mt 6 14,
  mt 7 16]
 (sr [mt 17 1,
  A1 18 (.ari .and (.t 17) (cU 4294967295)),
  mt 19 1,
  A1 20 (.ari .shr (.t 19) (cU 32)),
  mt 8 18,
  mt 9 20]
 (sr [mt 21 6,
  mt 22 8,
  A1 23 (.ari .mul (.t 21) (.t 22)),
  mt 10 23]
 (sr [mt 24 7,
  mt 25 8,
  A1 26 (.ari .mul (.t 24) (.t 25)),
  mt 27 10,
  A1 28 (.ari .shr (.t 27) (cU 32)),
  A1 29 (.ari .add (.t 26) (.t 28)),
  mt 11 29]
 (sr [mt 30 6,
  mt 31 9,
  A1 32 (.ari .mul (.t 30) (.t 31)),
  mt 33 11,
  A1 34 (.ari .and (.t 33) (cU 4294967295)),
  A1 35 (.ari .add (.t 32) (.t 34)),
  mt 12 35]
 (sr [mt 36 7,
  mt 37 9,
  A1 38 (.ari .mul (.t 36) (.t 37)),
  mt 39 11,
  A1 40 (.ari .shr (.t 39) (cU 32)),
  A1 41 (.ari .add (.t 38) (.t 40)),
  mt 42 12,
  A1 43 (.ari .shr (.t 42) (cU 32)),
  A1 44 (.ari .add (.t 41) (.t 43)),
  mt 45 12,
  A1 46 (.ari .shl (.t 45) (cU 32)),
  mt 47 10,
  A1 48 (.ari .and (.t 47) (cU 4294967295)),
  A1 49 (.ari .or (.t 46) (.t 48)),
  mt 4 44,
  mt 5 49]
 (.ret))))))))
def Ah9 : LF := ⟨Ald, 2, 0, 50, [.tmp 4, .tmp 5]⟩
def Ob : LC := (sr [A1 6 (.mv (cU 0))]
 (.seq (sr [mt 11 2,
  A1 12 (.ari .eql (.t 11) (cU 0))]
 (.cond (.t 12) (sr [A1 6 (.mv (cU 0))]
 (.ret)) (.skip)))
 (.seq (sr [mt 13 0,
  A1 14 (.ari .eql (.t 13) (cI 4)),
  mt 15 14,
  A2 16 15 false (.mv (.t 0)),
  A2 17 15 false (.ari .eql (.t 16) (cI 6)),
  A1 18 (.pick (.t 15) (.c (.bool true)) (.t 17))]
 (.cond (.t 18) (sr [mt 20 1,
  mt 21 2,
  kl 22 229 [(cU 0), (.t 20), (.t 21)],
  mt 19 22,
  A1 23 (.ext (.t 19) 0),
  A1 24 (.ext (.t 19) 1),
  mt 7 23,
  mt 8 24]
 (.seq (sr [mt 25 0,
  A1 26 (.ari .eql (.t 25) (cI 4))]
 (.cond (.t 26) (sr [mt 27 7,
  mt 6 27]
 (.ret)) (.skip)))
 (sr [mt 28 8,
  mt 6 28]
 (.ret)))) (.skip)))
 (sr [mt 30 1,
  kl 31 335 [(.t 30)],
  mt 32 2,
  kl 33 335 [(.t 32)],
  kl 34 229 [(cU 0), (.t 31), (.t 33)],
  mt 29 34,
  A1 35 (.ext (.t 29) 0),
  A1 36 (.ext (.t 29) 1),
  mt 9 35,
  mt 10 36]
 (.seq (sr [mt 37 0,
  A1 38 (.ari .eql (.t 37) (cI 5)),
  mt 39 38,
  A2 40 39 true (.mv (.t 1)),
  ⟨(some 41), .call 336 [(.t 40)], (some (39, true))⟩,
  A2 42 39 true (.mv (.t 2)),
  ⟨(some 43), .call 336 [(.t 42)], (some (39, true))⟩,
  A2 44 39 true (.eq true false .bool (.t 41) (.t 43)),
  A1 45 (.pick (.t 39) (.t 44) (.c (.bool false)))]
 (.cond (.t 45) (sr [mt 46 9,
  A1 47 (.ari .sub (cU 0) (.t 46)),
  mt 6 47]
 (.ret)) (.skip)))
 (.seq (sr [mt 48 0,
  A1 49 (.ari .eql (.t 48) (cI 5))]
 (.cond (.t 49) (sr [mt 50 9,
  mt 6 50]
 (.ret)) (.skip)))
 (.seq (sr [mt 51 1,
  kl 52 336 [(.t 51)]]
 (.cond (.t 52) (sr [mt 53 10,
  A1 54 (.ari .sub (cU 0) (.t 53)),
  mt 6 54]
 (.ret)) (.skip)))
 (sr [mt 55 10,
  mt 6 55]
 (.ret)))))))))
def Lf : LF := ⟨Ob, 3, 0, 56, [.tmp 6]⟩
def Alz : LC := (sr [A1 2 (.mv (cU 0))]
 (.seq (sr [mt 3 0]
 (.cond (.t 3) (sr [A1 2 (.mv (cU 1))]
 (.ret)) (.skip)))
 (sr [A1 2 (.mv (cU 0))]
 (.ret))))
def Ahc : LF := ⟨Alz, 1, 0, 4, [.tmp 2]⟩
def Ajc : LC := (sr [A1 6 (.mv (cU 0)),
 A1 7 (.mv (cU 0))]
 (sr [A1 8 (.mv (cU 0)),
  A1 9 (.mv (cU 0))]
 (.seq (sr [A1 10 (.mv (cI 127))]
 (.block 0 (.loop (.seq (sr [mt 13 10,
  A1 14 (.ari .geq (.t 13) (cI 0))]
 (.cond (.t 14) (.skip) (.exit 0)))
 (.seq (.block 1 (sr [A1 11 (.mv (cU 0))]
 (.seq (sr [mt 17 10,
  A1 18 (.ari .geq (.t 17) (cI 64))]
 (.cond (.t 18) (.reg [mt 19 0,
  mt 20 10,
  A1 21 (.ari .sub (.t 20) (cI 64)),
  A1 22 (.conv .u64 (.t 21)),
  A1 23 (.ari .shr (.t 19) (.t 22)),
  A1 24 (.ari .and (.t 23) (cU 1)),
  mt 11 24]) (.reg [mt 25 1,
  mt 26 10,
  A1 27 (.conv .u64 (.t 26)),
  A1 28 (.ari .shr (.t 25) (.t 27)),
  A1 29 (.ari .and (.t 28) (cU 1)),
  mt 11 29])))
 (sr [mt 30 9,
  A1 31 (.ari .shr (.t 30) (cU 63)),
  mt 12 31]
 (sr [mt 32 9,
  A1 33 (.ari .shl (.t 32) (cU 1)),
  mt 34 11,
  A1 35 (.ari .or (.t 33) (.t 34)),
  mt 9 35]
 (sr [mt 36 8,
  A1 37 (.ari .shl (.t 36) (cU 1)),
  mt 8 37]
 (sr [mt 38 12,
  A1 39 (.ari .eql (.t 38) (cU 1)),
  mt 40 39,
  A2 41 40 false (.mv (.t 9)),
  A2 42 40 false (.mv (.t 2)),
  A2 43 40 false (.ari .geq (.t 41) (.t 42)),
  A1 44 (.pick (.t 40) (.c (.bool true)) (.t 43))]
 (.cond (.t 44) (sr [mt 45 9,
  mt 46 2,
  A1 47 (.ari .sub (.t 45) (.t 46)),
  mt 9 47]
 (.reg [mt 48 8,
  A1 49 (.ari .or (.t 48) (cU 1)),
  mt 8 49])) (.skip)))))))))
 (.reg [mt 15 10,
  A1 16 (.ari .sub (.t 15) (cI 1)),
  mt 10 16]))))))
 (sr [mt 50 8,
  mt 51 9,
  mt 6 50,
  mt 7 51]
 (.ret)))))
def Agf : LF := ⟨Ajc, 3, 0, 52, [.tmp 6, .tmp 7]⟩
def UE : LC := (sr [A1 6 (.mv (cU 0))]
 (sr [A1 7 (.mv (cU 0))]
 (.seq (sr [A1 8 (.mv (cU 0))]
 (.block 0 (.loop (.seq (sr [mt 11 8,
  A1 12 (.ari .lss (.t 11) (cU 64))]
 (.cond (.t 12) (.skip) (.exit 0)))
 (.seq (.block 1 (sr [mt 15 8,
  mt 9 15]
 (sr [A1 10 (.mv (.c (.bool true)))]
 (.seq (sr [mt 16 0]
 (.block 2 (sr [A1 18 (.ari .eql (.t 16) (cI 11)),
  mt 17 18]
 (.cond (.t 17) (sr [mt 19 1,
  A1 20 (.ari .lss (.t 19) (cU 8))]
 (.cond (.t 20) (.reg [mt 21 8,
  mt 22 1,
  A1 23 (.ari .mul (cU 8) (.t 22)),
  A1 24 (.ari .add (.t 23) (cU 7)),
  A1 25 (.mm false (.t 21) (.t 24)),
  mt 9 25]) (.skip))) (sr [A1 27 (.ari .eql (.t 16) (cI 12)),
  mt 26 27]
 (.cond (.t 26) (sr [mt 28 8,
  A1 29 (.ari .lss (.t 28) (cU 8)),
  mt 30 29,
  A2 31 30 true (.mv (.t 1)),
  A2 32 30 true (.ari .lss (.t 31) (cU 8)),
  A1 33 (.pick (.t 30) (.t 32) (.c (.bool false))),
  mt 10 33]
 (.reg [mt 34 1,
  A1 35 (.mm false (.t 34) (cU 7)),
  A1 36 (.ari .mul (cU 8) (.t 35)),
  A1 37 (.ari .sub (cU 56) (.t 36)),
  mt 38 8,
  A1 39 (.ari .add (.t 37) (.t 38)),
  mt 9 39])) (sr [A1 41 (.ari .eql (.t 16) (cI 13)),
  mt 40 41]
 (.cond (.t 40) (sr [mt 42 1,
  mt 43 8,
  A1 44 (.ari .leq (.t 42) (.t 43)),
  mt 10 44]
 (.reg [mt 45 8,
  mt 46 1,
  A1 47 (.ari .sub (.t 45) (.t 46)),
  mt 9 47])) (.seq (sr [A1 49 (.ari .eql (.t 16) (cI 14)),
  mt 48 49]
 (.cond (.t 48) (.skip) (.reg [A1 50 (.ari .eql (.t 16) (cI 15)),
  mt 48 50])))
 (.cond (.t 48) (sr [mt 51 1,
  mt 52 8,
  A1 53 (.ari .sub (cU 64) (.t 52)),
  A1 54 (.ari .lss (.t 51) (.t 53)),
  mt 10 54]
 (sr [mt 55 8,
  mt 56 1,
  A1 57 (.ari .add (.t 55) (.t 56)),
  mt 9 57]
 (sr [mt 58 0,
  A1 59 (.ari .eql (.t 58) (cI 15)),
  mt 60 59,
  A2 61 60 true (.mv (.t 10)),
  A2 62 60 true (.un .not (.t 61)),
  A1 63 (.pick (.t 60) (.t 62) (.c (.bool false)))]
 (.cond (.t 63) (sr [A1 10 (.mv (.c (.bool true)))]
 (.reg [A1 9 (.mv (cU 63))])) (.skip))))) (.skip)))))))))))
 (sr [mt 64 10,
  mt 65 64,
  A2 66 65 true (.mv (.t 9)),
  A2 67 65 true (.ari .lss (.t 66) (cU 64)),
  A1 68 (.pick (.t 65) (.t 67) (.c (.bool false))),
  mt 69 68,
  A2 70 69 true (.mv (.t 2)),
  A2 71 69 true (.mv (.t 9)),
  A2 72 69 true (.ari .shr (.t 70) (.t 71)),
  A2 73 69 true (.ari .and (.t 72) (cU 1)),
  A2 74 69 true (.ari .eql (.t 73) (cU 1)),
  A1 75 (.pick (.t 69) (.t 74) (.c (.bool false)))]
 (.cond (.t 75) (.reg [mt 76 7,
  mt 77 8,
  A1 78 (.ari .shl (cU 1) (.t 77)),
  A1 79 (.ari .or (.t 76) (.t 78)),
  mt 7 79]) (.skip)))))))
 (.reg [mt 13 8,
  A1 14 (.ari .add (.t 13) (cU 1)),
  mt 8 14]))))))
 (sr [mt 80 7,
  mt 6 80]
 (.ret)))))
def QQ : LF := ⟨UE, 3, 0, 81, [.tmp 6]⟩
def Agk : LC := (sr [A1 2 (.mv (cU 0))]
 (.seq (sr [mt 3 0,
  kl 4 336 [(.t 3)]]
 (.cond (.t 4) (sr [mt 5 0,
  A1 6 (.ari .sub (cU 0) (.t 5)),
  mt 2 6]
 (.ret)) (.skip)))
 (sr [mt 7 0,
  mt 2 7]
 (.ret))))
def ZO : LF := ⟨Agk, 1, 0, 8, [.tmp 2]⟩
def Amh : LC := (sr [A1 2 (.mv (.c (.bool false)))]
 (sr [mt 3 0,
  A1 4 (.ari .geq (.t 3) (cU 9223372036854775808)),
  mt 2 4]
 (.ret)))
def Adt : LF := ⟨Amh, 1, 0, 5, [.tmp 2]⟩
variable {M : Seat}
structure OkX (M : Seat) : Prop where
 k90 : Al M 90 YK = true
 k226 : Al M 226 Ah9 = true
 k227 : Al M 227 Lf = true
 k228 : Al M 228 Ahc = true
 k229 : Al M 229 Agf = true
 k230 : Al M 230 QQ = true
 k335 : Al M 335 ZO = true
 k336 : Al M 336 Adt = true
def Ka (r n b : BitVec 64) : Prop := r >>> 63 = 1#64 ∨ n ≤ (r <<< 1 ||| b)
instance (r n b : BitVec 64) : Decidable (Ka r n b) := inferInstanceAs (Decidable (_ ∨ _))
theorem Vb (r n b q : BitVec 64) (P : Nat) (hb : b.toNat < 2) (hn : 0 < n.toNat) (hr : r.toNat = P % n.toNat) (hq : q.toNat = P / n.toNat % 18446744073709551616) :
 (if Ka r n b then (r <<< 1 ||| b) - n else (r <<< 1 ||| b)).toNat = (2 * P + b.toNat) % n.toNat ∧
 (if Ka r n b then q <<< 1 ||| 1#64 else q <<< 1).toNat = (2 * P + b.toNat) / n.toNat % 18446744073709551616 := by
 have hrn : r.toNat < n.toNat := by rw [hr]; exact Nat.mod_lt _ hn
 have hnl := n.isLt
 have e1 : (r <<< 1 ||| b).toNat = 2 * r.toNat % 18446744073709551616 + b.toNat := by
  rw [BitVec.toNat_or, BitVec.toNat_shiftLeft, Nat.shiftLeft_eq]
  have h2 : r.toNat * 2 ^ 1 % 2 ^ 64 = 2 * (r.toNat % 2 ^ 63) := Aa
  rw [h2, show 2 * (r.toNat % 2 ^ 63) = (r.toNat % 2 ^ 63) <<< 1 by rw [Nat.shiftLeft_eq]; omega, ← Nat.shiftLeft_add_eq_or_of_lt Aa, Nat.shiftLeft_eq]
  omega
 have e2 : (r >>> 63 = 1#64) ↔ 18446744073709551616 ≤ 2 * r.toNat := by
  have e : (r >>> 63).toNat = r.toNat / 9223372036854775808 := by rw [BitVec.toNat_ushiftRight, Nat.shiftRight_eq_div_pow]
  constructor
  ·intro h
   rw [h] at e
   have e' : 1 = r.toNat / 9223372036854775808 := e
   omega
  ·intro h
   apply BitVec.eq_of_toNat_eq
   rw [e]
   show _ = 1
   have := r.isLt
   omega
 have hc : Ka r n b ↔ n.toNat ≤ 2 * r.toNat + b.toNat := by
  unfold Ka
  rw [e2, BitVec.le_def, e1]
  omega
 have eP := Nat.div_add_mod P n.toNat
 rw [← hr] at eP
 have eq1 : (q <<< 1).toNat = 2 * (P / n.toNat) % 18446744073709551616 := by
  rw [BitVec.toNat_shiftLeft, Nat.shiftLeft_eq, hq]; omega
 have eq2 : (q <<< 1 ||| 1#64).toNat = (2 * (P / n.toNat) + 1) % 18446744073709551616 := by
  rw [BitVec.toNat_or, eq1, show (1#64 : BitVec 64).toNat = 1 from rfl]
  have h3 : 2 * (P / n.toNat) % 18446744073709551616 = (P / n.toNat % 9223372036854775808) <<< 1 := by rw [Nat.shiftLeft_eq]; omega
  rw [h3, ← Nat.shiftLeft_add_eq_or_of_lt Aa, Nat.shiftLeft_eq]
  omega
 by_cases h : Ka r n b
 ·rw [if_pos h, if_pos h]
  have h' := hc.1 h
  have er : (r <<< 1 ||| b) - n = BitVec.ofNat 64 (2 * r.toNat + b.toNat - n.toNat) := by
   apply BitVec.eq_of_toNat_eq
   rw [BitVec.toNat_sub, e1, BitVec.toNat_ofNat]
   omega
  have e3 : 2 * P + b.toNat = n.toNat * (2 * (P / n.toNat) + 1) + (2 * r.toNat + b.toNat - n.toNat) := by
   rw [Nat.mul_add, Nat.mul_one, Nat.mul_left_comm]
   omega
  constructor
  ·rw [er, BitVec.toNat_ofNat, e3, Nat.mul_add_mod, Nat.mod_eq_of_lt (a := 2 * r.toNat + b.toNat - n.toNat) (b := n.toNat) Aa, Nat.mod_eq_of_lt Aa]
  ·rw [eq2, e3, Nat.mul_add_div hn, Nat.div_eq_of_lt (a := 2 * r.toNat + b.toNat - n.toNat) (b := n.toNat) Aa, Nat.add_zero]
 ·rw [if_neg h, if_neg h]
  have h' : ¬ n.toNat ≤ 2 * r.toNat + b.toNat := fun x => h (hc.2 x)
  have e3 : 2 * P + b.toNat = n.toNat * (2 * (P / n.toNat)) + (2 * r.toNat + b.toNat) := by
   rw [Nat.mul_left_comm]
   omega
  constructor
  ·rw [e1, e3, Nat.mul_add_mod, Nat.mod_eq_of_lt (a := 2 * r.toNat + b.toNat) (b := n.toNat) Aa]
   omega
  ·rw [eq1, e3, Nat.mul_add_div hn, Nat.div_eq_of_lt (a := 2 * r.toNat + b.toNat) (b := n.toNat) Aa, Nat.add_zero]
theorem On (ok : OkX M) (t : Bool) : Af M 228 [.bool t] [] 0 (Q3 (W (Vg t)) [] 0) := by
 refine Ac ok.k228 rfl fun x hx => ?_
 cases t
 all_goals refine es 2000 ?_; (simp only [Ahc, Alz, LZ, seval])
 all_goals (have zz := @Vg.eq_1; exact Bg hx [] ⟨rfl, rfl, rfl⟩)
theorem Ac1 (a : BitVec 64) : (9223372036854775808#64 ≤ a) = (a.toInt < 0) := by
 rw [BitVec.le_def, BitVec.toInt_eq_toNat_cond]
 have := a.isLt
 have e : (9223372036854775808#64 : BitVec 64).toNat = 9223372036854775808 := rfl
 rw [e]
 apply propext
 split <;> omega
theorem BT (ok : OkX M) (a : BitVec 64) : Af M 336 [W a] [] 0 (Q3 (.bool (decide (a.toInt < 0))) [] 0) := by
 refine Ac ok.k336 rfl fun x hx => ?_
 refine es 2000 ?_; (simp only [Adt, Amh, Ac1, LZ, seval])
 exact Aq.mkZ hx [] ⟨rfl, rfl, rfl⟩
def Rf (a : BitVec 64) : BitVec 64 := if a.toInt < 0 then -a else a
theorem Gm (ok : OkX M) (a : BitVec 64) : Af M 335 [W a] [] 0 (Q3 (W (Rf a)) [] 0) := by
 refine Ac ok.k335 rfl fun x hx => ?_
 rcases Classical.propComplete (a.toInt < 0) with h | h
 ·have e : Rf a = 0#64 - a := by rw [Rf, if_pos (of_eq_true h), BitVec.zero_sub]
  rw [e]
  refine es 2000 ?_; (simp only [ZO, Agk, LZ, seval])
  refine Ah (BT ok a) ?_
  (simp only [h, LZ, seval])
  exact Aq.mkZ hx [] ⟨rfl, rfl, rfl⟩
 ·have e : Rf a = a := by rw [Rf, if_neg (of_eq_false h)]
  rw [e]
  refine es 2000 ?_; (simp only [ZO, Agk, LZ, seval])
  refine Ah (BT ok a) ?_
  (simp only [h, LZ, seval])
  exact Aq.mkZ hx [] ⟨rfl, rfl, rfl⟩
theorem Ab1 (a b : BitVec 64) : ((a &&& 4294967295#64) * (b >>> 32) + ((a >>> 32) * (b &&& 4294967295#64) + ((a &&& 4294967295#64) * (b &&& 4294967295#64)) >>> 32 &&& 4294967295#64)) <<< 32 ||| ((a &&& 4294967295#64) * (b &&& 4294967295#64) &&& 4294967295#64) = a * b := by
 have ha := a.isLt
 have hb := b.isLt
 have l1 : (a &&& 4294967295#64).toNat < 4294967296 := by rw [Ly]; omega
 have l2 : (b &&& 4294967295#64).toNat < 4294967296 := by rw [Ly]; omega
 have l3 : (a >>> 32).toNat < 4294967296 := by rw [Eu]; omega
 have l4 : (b >>> 32).toNat < 4294967296 := by rw [Eu]; omega
 have m1 := Q0 l1 l2
 have m2 := Q0 l3 l2
 have m3 := Q0 l1 l4
 have b1 := IL l1 l2
 have b2 := IL l3 l2
 have b3 := IL l1 l4
 have ea : a.toNat = (a >>> 32).toNat * 4294967296 + (a &&& 4294967295#64).toNat := ZV
 have eb : b.toNat = (b >>> 32).toNat * 4294967296 + (b &&& 4294967295#64).toNat := ZV
 have ep : a.toNat * b.toNat = (a >>> 32).toNat * (b >>> 32).toNat * 18446744073709551616 + ((a >>> 32).toNat * (b &&& 4294967295#64).toNat + (a &&& 4294967295#64).toNat * (b >>> 32).toNat) * 4294967296 + (a &&& 4294967295#64).toNat * (b &&& 4294967295#64).toNat := by
  rw [ea, eb]
  generalize (a >>> 32).toNat = p
  generalize (b >>> 32).toNat = q
  generalize (a &&& 4294967295#64).toNat = r
  generalize (b &&& 4294967295#64).toNat = s
  rw [Nat.add_mul, Nat.mul_add, Nat.mul_add, Nat.mul_mul_mul_comm, Nat.mul_right_comm p _ s, ← Nat.mul_assoc r q, Nat.add_mul]
  omega
 apply BitVec.eq_of_toNat_eq
 rw [BitVec.toNat_mul, ep]
 generalize (a &&& 4294967295#64) = x0 at *
 generalize (b &&& 4294967295#64) = y0 at *
 generalize (a >>> 32) = x1 at *
 generalize (b >>> 32) = y1 at *
 have t1 : (x1 * y0 + (x0 * y0) >>> 32).toNat = x1.toNat * y0.toNat + x0.toNat * y0.toNat / 4294967296 := by
  rw [Rg (by rw [Eu, m1, m2]; omega), Eu, m1, m2]
 have t2 : (x0 * y1 + ((x1 * y0 + (x0 * y0) >>> 32) &&& 4294967295#64)).toNat = x0.toNat * y1.toNat + (x1.toNat * y0.toNat + x0.toNat * y0.toNat / 4294967296) % 4294967296 := by
  rw [Rg (by rw [Ly, t1, m3]; omega), Ly, t1, m3]
 rw [BitVec.toNat_or, BitVec.toNat_shiftLeft, t2, Ly, m1, Nat.shiftLeft_eq]
 generalize x0.toNat * y0.toNat = A at *
 generalize x1.toNat * y0.toNat = B at *
 generalize x0.toNat * y1.toNat = C at *
 have e1 : (C + (B + A / 4294967296) % 4294967296) * 2 ^ 32 % 2 ^ 64 = ((C + (B + A / 4294967296) % 4294967296) % 4294967296) <<< 32 := by
  rw [Nat.shiftLeft_eq]; omega
 rw [e1, ← Nat.shiftLeft_add_eq_or_of_lt Aa, Nat.shiftLeft_eq]
 omega
theorem Iw (ok : OkX M) (a b : BitVec 64) : Af M 226 [W a, W b] [] 0 (Q3 (Ao (W (UH a b)) (W (a * b))) [] 0) := by
 refine Ac ok.k226 rfl fun x hx => ?_
 have e : UH a b = (a >>> 32) * (b >>> 32) + ((a >>> 32) * (b &&& 4294967295#64) + ((a &&& 4294967295#64) * (b &&& 4294967295#64)) >>> 32) >>> 32 + ((a &&& 4294967295#64) * (b >>> 32) + ((a >>> 32) * (b &&& 4294967295#64) + ((a &&& 4294967295#64) * (b &&& 4294967295#64)) >>> 32 &&& 4294967295#64)) >>> 32 := by
  rw [UH, BitVec.add_comm ((a &&& 4294967295#64) * (b >>> 32))]
 rw [e, ← Ab1 a b]
 refine es 2000 ?_; (simp only [Ah9, Ald, LZ, seval])
 have zz := @Ao.eq_1; exact Bg hx [] ⟨rfl, rfl, rfl⟩
def E4 (hi lo : BitVec 64) : Nat := hi.toNat * 18446744073709551616 + lo.toNat
theorem Adw (hi lo : BitVec 64) (k : Nat) (h : 64 ≤ k) : (hi >>> (k - 64) &&& 1#64).toNat = E4 hi lo / 2 ^ k % 2 := by
 obtain ⟨j, rfl⟩ : ∃ j, k = 64 + j := ⟨k - 64, by omega⟩
 rw [BitVec.toNat_and, BitVec.toNat_ushiftRight, Nat.shiftRight_eq_div_pow, show 64 + j - 64 = j by omega, show (1#64 : BitVec 64).toNat = 1 from rfl, Nat.and_one_is_mod, Nat.pow_add, ← Nat.div_div_eq_div_mul, E4]
 have := lo.isLt
 have e : (hi.toNat * 18446744073709551616 + lo.toNat) / 2 ^ 64 = hi.toNat := by
  have e2 : (2 : Nat) ^ 64 = 18446744073709551616 := Ak
  rw [e2]; omega
 rw [e]
theorem Aed (hi lo : BitVec 64) (k : Nat) (h : k < 64) : (lo >>> k &&& 1#64).toNat = E4 hi lo / 2 ^ k % 2 := by
 rw [BitVec.toNat_and, BitVec.toNat_ushiftRight, Nat.shiftRight_eq_div_pow, show (1#64 : BitVec 64).toNat = 1 from rfl, Nat.and_one_is_mod, E4]
 have e : hi.toNat * 18446744073709551616 = 2 ^ k * (2 * (hi.toNat * 2 ^ (63 - k))) := by
  have e2 : (18446744073709551616 : Nat) = 2 ^ k * 2 * 2 ^ (63 - k) := by
   rw [← Nat.pow_succ, ← Nat.pow_add, show k + 1 + (63 - k) = 64 by omega]
  rw [e2, Nat.mul_assoc (2 ^ k), Nat.mul_left_comm hi.toNat, Nat.mul_left_comm hi.toNat]
 rw [e, Nat.mul_add_div (Nat.pow_pos Ak)]
 omega
def rsQ (hi lo n : BitVec 64) : BitVec 64 := BitVec.ofNat 64 (E4 hi lo / n.toNat)
def rsR (hi lo n : BitVec 64) : BitVec 64 := BitVec.ofNat 64 (E4 hi lo % n.toNat)
def rsI (hi lo n : BitVec 64) (s : Nat × BitVec 64 × BitVec 64) : Prop := s.1 ≤ 128 ∧ s.2.2.toNat = E4 hi lo / 2 ^ s.1 % n.toNat ∧ s.2.1.toNat = E4 hi lo / 2 ^ s.1 / n.toNat % 18446744073709551616
theorem XY {hi lo n : BitVec 64} (hn : 0 < n.toNat) {k : Nat} {q r b q' r' : BitVec 64} (h : rsI hi lo n (k + 1, q, r)) (hb : b.toNat = E4 hi lo / 2 ^ k % 2)
 (hr : r' = if Ka r n b then (r <<< 1 ||| b) - n else (r <<< 1 ||| b)) (hq : q' = if Ka r n b then q <<< 1 ||| 1#64 else q <<< 1) : rsI hi lo n (k, q', r') := by
 obtain ⟨h1, h2, h3⟩ := h
 dsimp only at h1 h2 h3
 have hs := Vb r n b q _ Aa hn h2 h3
 have e : 2 * (E4 hi lo / 2 ^ (k + 1)) + b.toNat = E4 hi lo / 2 ^ k := by
  rw [Nat.pow_succ, ← Nat.div_div_eq_div_mul, hb]; omega
 rw [e] at hs
 exact ⟨by show k ≤ 128; omega, by rw [hr]; exact hs.1, by rw [hq]; exact hs.2⟩
theorem D6 (ok : OkX M) (hi lo n : BitVec 64) (hn : 0 < n.toNat) : Af M 229 [W hi, W lo, W n] [] 0 (Q3 (Ao (W (rsQ hi lo n)) (W (rsR hi lo n))) [] 0) := by
 refine Ac ok.k229 rfl fun x hx => ?_
 generalize hF : rsQ hi lo n = F
 generalize hG : rsR hi lo n = G
 refine es 2000 ?_; (simp only [Agf, Ajc, LZ, seval])
 refine Ag (σ := Nat × BitVec 64 × BitVec 64) (rsI hi lo n) (fun s => fr 52 [(0, W hi), (1, W lo), (2, W n), (8, W s.2.1), (9, W s.2.2), (10, .int .i64 ((s.1 : Int) - 1))]) (fun _ => []) (fun _ => 0) (fun s => s.1) (128, 0#64, 0#64) ?_ ?_ ?_
 ·have hT : E4 hi lo / 2 ^ 128 = 0 := by
   refine Nat.div_eq_of_lt ?_
   have h1 := hi.isLt
   have h2 := lo.isLt
   have e : (2 : Nat) ^ 128 = 18446744073709551616 * 18446744073709551616 := Ak
   rw [E4, e]; omega
  refine ⟨Nat.le_refl _, ?_, ?_⟩
  ·show 0 = _; rw [hT, Nat.zero_mod]
  ·show 0 = _; rw [hT, Nat.zero_div]
 ·refine Aj.fr [] [] hx Ax Ak ?_ ?_
  ·simp only [LY, seval]
  ·trivial
 ·rintro ⟨k, q, r⟩ hI
  refine es 2000 ?_
  cases k with
  | zero =>
    have hz : (((0 : Nat) : Int) - 1) = -1 := rfl
    obtain ⟨_, h2, h3⟩ := hI
    dsimp only at h2 h3
    rw [Nat.pow_zero, Nat.div_one] at h2 h3
    have e1 : q = F := by rw [← hF]; exact BitVec.eq_of_toNat_eq (by rw [h3, rsQ, BitVec.toNat_ofNat])
    have e2 : r = G := by rw [← hG]; exact BitVec.eq_of_toNat_eq (by rw [h2, rsR, BitVec.toNat_ofNat]; exact (Nat.mod_eq_of_lt (Nat.lt_trans (Nat.mod_lt _ hn) n.isLt)).symm)
    subst e1 e2
    (simp only [hz, LZ, seval])
    exact Aq.mkZ hx [] ⟨rfl, rfl, rfl⟩
  | succ k =>
    have hk := hI.1
    dsimp only at hk
    have hz : (((k + 1 : Nat) : Int) - 1) = k := Aa
    have g0 : (0 ≤ (k : Int)) = True := eq_true Aa
    have w1 : IntKind.i64.wrap ((k : Int) - 1) = (k : Int) - 1 := AI Aa
    have hstep := fun b q' r' => XY (b := b) (q' := q') (r' := r') hn hI
    have tl : ∀ b : BitVec 64, (r >>> 63 = 1#64) = True → Ka r n b := fun b h => Or.inl (of_eq_true h)
    have tr : ∀ b : BitVec 64, (n ≤ (r <<< 1 ||| b)) = True → Ka r n b := fun b h => Or.inr (of_eq_true h)
    have tn : ∀ b : BitVec 64, (r >>> 63 = 1#64) = False → (n ≤ (r <<< 1 ||| b)) = False → ¬ Ka r n b := fun b h h' x => x.elim (of_eq_false h) (of_eq_false h')
    by_cases h64 : 64 ≤ k
    ·have g64 : ((64 : Int) ≤ (k : Int)) = True := eq_true Aa
     have w2 : IntKind.i64.wrap ((k : Int) - 64) = ((k - 64 : Nat) : Int) := A9
     have w3 := Ih (k - 64) Aa
     have hb := Adw hi lo k h64
     obtain ⟨b, hbe⟩ : ∃ b, (hi >>> (k - 64) &&& 1#64) = b := ⟨_, rfl⟩
     rw [hbe] at hb
     rcases Classical.propComplete (r >>> 63 = 1#64) with c1 | c1
     ·skip
      (simp only [hz, g0, g64, w1, w2, w3, hbe, c1, LZ, seval])
      refine ⟨(k, q <<< 1 ||| 1#64, (r <<< 1 ||| b) - n), hstep b _ _ hb Aax Aax, Nat.lt_succ_self k, ?_⟩
      refine Aj.fr [] [] hx Ax Ak ?_ ?_
      ·simp only [LY, seval]
      ·trivial
     ·rcases Classical.propComplete (n ≤ (r <<< 1 ||| b)) with c2 | c2
      ·skip
       (simp only [hz, g0, g64, w1, w2, w3, hbe, c1, c2, LZ, seval])
       refine ⟨(k, q <<< 1 ||| 1#64, (r <<< 1 ||| b) - n), hstep b _ _ hb Abk Abk, Nat.lt_succ_self k, ?_⟩
       refine Aj.fr [] [] hx Ax Ak ?_ ?_
       ·simp only [LY, seval]
       ·trivial
      ·skip
       (simp only [hz, g0, g64, w1, w2, w3, hbe, c1, c2, LZ, seval])
       refine ⟨(k, q <<< 1, r <<< 1 ||| b), hstep b _ _ hb Abz Abz, Nat.lt_succ_self k, ?_⟩
       refine Aj.fr [] [] hx Ax Ak ?_ ?_
       ·simp only [LY, seval]
       ·trivial
    ·have g64 : ((64 : Int) ≤ (k : Int)) = False := eq_false Aa
     have w3 := Ih k Aa
     have hb := Aed hi lo k Aa
     obtain ⟨b, hbe⟩ : ∃ b, (lo >>> k &&& 1#64) = b := ⟨_, rfl⟩
     rw [hbe] at hb
     rcases Classical.propComplete (r >>> 63 = 1#64) with c1 | c1
     ·skip
      (simp only [hz, g0, g64, w1, w3, hbe, c1, LZ, seval])
      refine ⟨(k, q <<< 1 ||| 1#64, (r <<< 1 ||| b) - n), hstep b _ _ hb Aax Aax, Nat.lt_succ_self k, ?_⟩
      refine Aj.fr [] [] hx Ax Ak ?_ ?_
      ·simp only [LY, seval]
      ·trivial
     ·rcases Classical.propComplete (n ≤ (r <<< 1 ||| b)) with c2 | c2
      ·skip
       (simp only [hz, g0, g64, w1, w3, hbe, c1, c2, LZ, seval])
       refine ⟨(k, q <<< 1 ||| 1#64, (r <<< 1 ||| b) - n), hstep b _ _ hb Abk Abk, Nat.lt_succ_self k, ?_⟩
       refine Aj.fr [] [] hx Ax Ak ?_ ?_
       ·simp only [LY, seval]
       ·trivial
      ·skip
       (simp only [hz, g0, g64, w1, w3, hbe, c1, c2, LZ, seval])
       refine ⟨(k, q <<< 1, r <<< 1 ||| b), hstep b _ _ hb Abz Abz, Nat.lt_succ_self k, ?_⟩
       refine Aj.fr [] [] hx Ax Ak ?_ ?_
       ·simp only [LY, seval]
       ·trivial
theorem FM (a b : BitVec 64) (hb : ¬ b = 0#64) : rsQ 0#64 a b = a / b ∧ rsR 0#64 a b = a % b := by
 have ha := a.isLt
 have e : E4 0#64 a = a.toNat := by simp [E4]
 refine ⟨BitVec.eq_of_toNat_eq ?_, BitVec.eq_of_toNat_eq ?_⟩
 ·rw [rsQ, e, BitVec.toNat_ofNat, BitVec.toNat_udiv, Nat.mod_eq_of_lt (Nat.lt_of_le_of_lt (Nat.div_le_self _ _) ha)]
 ·rw [rsR, e, BitVec.toNat_ofNat, BitVec.toNat_umod, Nat.mod_eq_of_lt (Nat.lt_of_le_of_lt (Nat.mod_le _ _) ha)]
theorem Ge (b : BitVec 64) (hb : ¬ b = 0#64) : ¬ Rf b = 0#64 := by
 unfold Rf
 split
 ·exact fun h => hb (by have := congrArg (fun x => -x) h; simpa using this)
 ·exact hb
theorem M4 (b : BitVec 64) (h : ¬ b = 0#64) : 0 < b.toNat := Nat.pos_of_ne_zero fun e => h (BitVec.eq_of_toNat_eq (by simpa using e))
theorem VP (ok : OkX M) (a b : BitVec 64) : Af M 227 [.int .i64 4, W a, W b] [] 0 (Q3 (W (E3 4 a b)) [] 0) := by
 refine Ac ok.k227 rfl fun x hx => ?_
 by_cases hb : b = 0#64
 ·subst hb
  refine es 2000 ?_; (simp only [Lf, Ob, LZ, seval])
  have zz := @E3.eq_1; exact Bg hx [] ⟨rfl, rfl, rfl⟩
 ·have r1 := D6 ok 0#64 a b (M4 b hb)
  rw [(FM a b hb).1, (FM a b hb).2] at r1
  have z0 : (b = 0#64) = False := eq_false hb
  generalize hF : E3 4 a b = F
  simp only [E3, hb, CD, seval] at hF
  subst hF
  refine es 2000 ?_; (simp only [Lf, Ob, z0, LZ, seval])
  refine Ah (r1) ?_
  (simp only [Cb, seval])
  exact Aq.mkZ hx [] ⟨rfl, rfl, rfl⟩
theorem Yn (ok : OkX M) (a b : BitVec 64) : Af M 227 [.int .i64 6, W a, W b] [] 0 (Q3 (W (E3 6 a b)) [] 0) := by
 refine Ac ok.k227 rfl fun x hx => ?_
 by_cases hb : b = 0#64
 ·subst hb
  refine es 2000 ?_; (simp only [Lf, Ob, LZ, seval])
  have zz := @E3.eq_1; exact Bg hx [] ⟨rfl, rfl, rfl⟩
 ·have r1 := D6 ok 0#64 a b (M4 b hb)
  rw [(FM a b hb).1, (FM a b hb).2] at r1
  have z0 : (b = 0#64) = False := eq_false hb
  generalize hF : E3 6 a b = F
  simp only [E3, hb, CD, seval] at hF
  subst hF
  refine es 2000 ?_; (simp only [Lf, Ob, z0, LZ, seval])
  refine Ah (r1) ?_
  (simp only [Cb, seval])
  exact Aq.mkZ hx [] ⟨rfl, rfl, rfl⟩
theorem W7 (ok : OkX M) (a b : BitVec 64) : Af M 227 [.int .i64 5, W a, W b] [] 0 (Q3 (W (E3 5 a b)) [] 0) := by
 refine Ac ok.k227 rfl fun x hx => ?_
 by_cases hb : b = 0#64
 ·subst hb
  refine es 2000 ?_; (simp only [Lf, Ob, LZ, seval])
  have zz := @E3.eq_1; exact Bg hx [] ⟨rfl, rfl, rfl⟩
 ·have r2 := D6 ok 0#64 (Rf a) (Rf b) (M4 _ (Ge b hb))
  rw [(FM _ _ (Ge b hb)).1, (FM _ _ (Ge b hb)).2] at r2
  have s1 := Gm ok a
  have s2 := Gm ok b
  have n1 := BT ok a
  have n2 := BT ok b
  have e1 : (Rf a) = if a.toInt < 0 then -a else a := rfl
  have e2 : (Rf b) = if b.toInt < 0 then -b else b := rfl
  generalize hF : E3 5 a b = F
  have z0 : (b = 0#64) = False := eq_false hb
  rcases Classical.propComplete (a.toInt < 0) with h1 | h1 <;> rcases Classical.propComplete (b.toInt < 0) with h2 | h2
  all_goals
   simp only [h1, h2, CD] at e1 e2
   simp only [E3, hb, h1, h2, Vj, iff_self, iff_true, iff_false, true_iff, false_iff, not_false_eq_true, seval] at hF
   simp only [e1, e2] at s1 s2 r2
   simp only [h1, h2, decide_true, decide_false] at n1 n2
   try rw [← BitVec.zero_sub] at hF
   subst hF
   refine es 2000 ?_; (simp only [Lf, Ob, z0, LZ, seval])
   refine Ah (s1) ?_
   (simp only [LZ, seval])
   refine Ah (s2) ?_
   (simp only [LZ, seval])
   refine Ah (r2) ?_
   (simp only [Cb, seval])
   try (refine Ah (n1) ?_)
   (simp only [LZ, seval])
   try (refine Ah (n2) ?_)
   try (simp only [LZ, seval])
   exact Aq.mkZ hx [] ⟨rfl, rfl, rfl⟩
theorem VV (ok : OkX M) (a b : BitVec 64) : Af M 227 [.int .i64 7, W a, W b] [] 0 (Q3 (W (E3 7 a b)) [] 0) := by
 refine Ac ok.k227 rfl fun x hx => ?_
 by_cases hb : b = 0#64
 ·subst hb
  refine es 2000 ?_; (simp only [Lf, Ob, LZ, seval])
  have zz := @E3.eq_1; exact Bg hx [] ⟨rfl, rfl, rfl⟩
 ·have r2 := D6 ok 0#64 (Rf a) (Rf b) (M4 _ (Ge b hb))
  rw [(FM _ _ (Ge b hb)).1, (FM _ _ (Ge b hb)).2] at r2
  have s1 := Gm ok a
  have s2 := Gm ok b
  have n1 := BT ok a
  have n2 := BT ok b
  have e1 : (Rf a) = if a.toInt < 0 then -a else a := rfl
  have e2 : (Rf b) = if b.toInt < 0 then -b else b := rfl
  generalize hF : E3 7 a b = F
  have z0 : (b = 0#64) = False := eq_false hb
  rcases Classical.propComplete (a.toInt < 0) with h1 | h1 <;> rcases Classical.propComplete (b.toInt < 0) with h2 | h2
  all_goals
   simp only [h1, h2, CD] at e1 e2
   simp only [E3, hb, h1, h2, Vj, iff_self, iff_true, iff_false, true_iff, false_iff, not_false_eq_true, seval] at hF
   simp only [e1, e2] at s1 s2 r2
   simp only [h1, h2, decide_true, decide_false] at n1 n2
   try rw [← BitVec.zero_sub] at hF
   subst hF
   refine es 2000 ?_; (simp only [Lf, Ob, z0, LZ, seval])
   refine Ah (s1) ?_
   (simp only [LZ, seval])
   refine Ah (s2) ?_
   (simp only [LZ, seval])
   refine Ah (r2) ?_
   (simp only [Cb, seval])
   try (refine Ah (n1) ?_)
   (simp only [LZ, seval])
   try (refine Ah (n2) ?_)
   try (simp only [LZ, seval])
   exact Aq.mkZ hx [] ⟨rfl, rfl, rfl⟩
end Mv
