/- The document's answer for layer 1: the same words. -/
import Derived.Test.YtdenaplelfkecaaDoorT
import Derived.Test.YtdenaplelfkecaaDoorW1
import Derived.Test.YtdenaplelfkecaaDoorX2
set_option linter.unusedSimpArgs false
set_option linter.unusedVariables false
namespace Mv
open Go
/-- moot/mootref01.Args -/
def c89 : LC := (.seq (.reg [A1 2 (.mv (.c (.int .i64 0))),
  A1 3 (.mv (.c (.int .i64 0)))])
 ((.seq ((.seq (.reg [A1 4 (.mv (.t 0)),
  A1 5 (.ari .lss (.t 4) (.c (.int .i64 1))),
  A1 6 (.mv (.t 5)),
  A2 7 6 false (.mv (.t 0)),
  A2 8 6 false (.ari .gtr (.t 7) (.c (.int .i64 25))),
  A1 9 (.pick (.t 6) (.c (.bool true)) (.t 8))])
 (.cond (.t 9) ((.seq (.reg [A1 2 (.mv (.c (.int .i64 0))),
  A1 3 (.mv (.c (.int .i64 10)))])
 (.ret))) (.skip))))
 ((.seq ((.seq (.reg [A1 10 (.mv (.t 0)),
  A1 11 (.ari .eql (.t 10) (.c (.int .i64 8))),
  A1 12 (.mv (.t 11)),
  A2 13 12 false (.mv (.t 0)),
  A2 14 12 false (.ari .eql (.t 13) (.c (.int .i64 9))),
  A1 15 (.pick (.t 12) (.c (.bool true)) (.t 14))])
 (.cond (.t 15) ((.seq (.reg [A1 2 (.mv (.c (.int .i64 3))),
  A1 3 (.mv (.c (.int .i64 0)))])
 (.ret))) (.skip))))
 ((.seq ((.seq (.reg [A1 16 (.mv (.t 0)),
  A1 17 (.ari .eql (.t 16) (.c (.int .i64 21))),
  A1 18 (.mv (.t 17)),
  A2 19 18 false (.mv (.t 0)),
  A2 20 18 false (.ari .eql (.t 19) (.c (.int .i64 25))),
  A1 21 (.pick (.t 18) (.c (.bool true)) (.t 20))])
 (.cond (.t 21) ((.seq (.reg [A1 2 (.mv (.c (.int .i64 1))),
  A1 3 (.mv (.c (.int .i64 0)))])
 (.ret))) (.skip))))
 ((.seq (.reg [A1 2 (.mv (.c (.int .i64 2))),
  A1 3 (.mv (.c (.int .i64 0)))])
 (.ret))))))))))
def f89 : LF := ⟨c89, 1, 0, 22, [.tmp 2, .tmp 3]⟩

/-- moot/mootref01.Apply -/
def c90 : LC := (.seq (.reg [A1 8 (.mv (.c (.int .u64 0))),
  A1 9 (.mv (.c (.int .i64 0)))])
 ((.seq ((.seq (.reg [A1 18 (.mv (.t 0))])
 (.block 0 ((.seq (.reg [A1 20 (.ari .eql (.t 18) (.c (.int .i64 1))),
  A1 19 (.mv (.t 20))])
 (.cond (.t 19) ((.seq (.reg [A1 21 (.mv (.t 1)),
  A1 22 (.mv (.t 2)),
  A1 23 (.ari .add (.t 21) (.t 22)),
  A1 8 (.mv (.t 23)),
  A1 9 (.mv (.c (.int .i64 0)))])
 (.ret))) ((.seq (.reg [A1 25 (.ari .eql (.t 18) (.c (.int .i64 2))),
  A1 24 (.mv (.t 25))])
 (.cond (.t 24) ((.seq (.reg [A1 26 (.mv (.t 1)),
  A1 27 (.mv (.t 2)),
  A1 28 (.ari .sub (.t 26) (.t 27)),
  A1 8 (.mv (.t 28)),
  A1 9 (.mv (.c (.int .i64 0)))])
 (.ret))) ((.seq (.reg [A1 30 (.ari .eql (.t 18) (.c (.int .i64 3))),
  A1 29 (.mv (.t 30))])
 (.cond (.t 29) ((.seq (.reg [A1 32 (.mv (.t 1)),
  A1 33 (.mv (.t 2)),
  ⟨(some 34), .call 226 [(.t 32), (.t 33)], none⟩,
  A1 31 (.mv (.t 34)),
  A1 35 (.ext (.t 31) 0),
  A1 36 (.ext (.t 31) 1),
  A1 10 (.mv (.t 35)),
  A1 11 (.mv (.t 36))])
 ((.seq (.reg [A1 37 (.mv (.t 11)),
  A1 8 (.mv (.t 37)),
  A1 9 (.mv (.c (.int .i64 0)))])
 (.ret))))) ((.seq ((.seq (.reg [A1 39 (.ari .eql (.t 18) (.c (.int .i64 4))),
  A1 38 (.mv (.t 39))])
 (.cond (.t 38) (.skip) ((.seq (.reg [A1 40 (.ari .eql (.t 18) (.c (.int .i64 5))),
  A1 38 (.mv (.t 40))])
 (.cond (.t 38) (.skip) ((.seq (.reg [A1 41 (.ari .eql (.t 18) (.c (.int .i64 6))),
  A1 38 (.mv (.t 41))])
 (.cond (.t 38) (.skip) (.reg [A1 42 (.ari .eql (.t 18) (.c (.int .i64 7))),
  A1 38 (.mv (.t 42))]))))))))))
 (.cond (.t 38) ((.seq (.reg [A1 43 (.mv (.t 0)),
  A1 44 (.mv (.t 1)),
  A1 45 (.mv (.t 2)),
  ⟨(some 46), .call 227 [(.t 43), (.t 44), (.t 45)], none⟩,
  A1 8 (.mv (.t 46)),
  A1 9 (.mv (.c (.int .i64 0)))])
 (.ret))) ((.seq ((.seq (.reg [A1 48 (.ari .eql (.t 18) (.c (.int .i64 8))),
  A1 47 (.mv (.t 48))])
 (.cond (.t 47) (.skip) (.reg [A1 49 (.ari .eql (.t 18) (.c (.int .i64 9))),
  A1 47 (.mv (.t 49))]))))
 (.cond (.t 47) ((.seq ((.seq (.reg [A1 50 (.mv (.t 3)),
  A1 51 (.ari .eql (.t 50) (.c (.int .u64 0)))])
 (.cond (.t 51) ((.seq (.reg [A1 8 (.mv (.c (.int .u64 0))),
  A1 9 (.mv (.c (.int .i64 0)))])
 (.ret))) (.skip))))
 ((.seq (.reg [A1 53 (.mv (.t 1)),
  A1 54 (.mv (.t 2)),
  ⟨(some 55), .call 226 [(.t 53), (.t 54)], none⟩,
  A1 52 (.mv (.t 55)),
  A1 56 (.ext (.t 52) 0),
  A1 57 (.ext (.t 52) 1),
  A1 12 (.mv (.t 56)),
  A1 13 (.mv (.t 57))])
 ((.seq ((.seq (.reg [A1 58 (.mv (.t 0)),
  A1 59 (.ari .eql (.t 58) (.c (.int .i64 8)))])
 (.cond (.t 59) ((.seq (.reg [A1 60 (.mv (.t 1)),
  A1 61 (.mv (.t 2)),
  A1 62 (.ari .add (.t 60) (.t 61)),
  A1 13 (.mv (.t 62))])
 (.reg [A1 63 (.mv (.t 13)),
  A1 64 (.mv (.t 1)),
  A1 65 (.ari .lss (.t 63) (.t 64)),
  ⟨(some 66), .call 228 [(.t 65)], none⟩,
  A1 12 (.mv (.t 66))]))) (.skip))))
 ((.seq (.reg [A1 68 (.mv (.t 12)),
  A1 69 (.mv (.t 13)),
  A1 70 (.mv (.t 3)),
  ⟨(some 71), .call 229 [(.t 68), (.t 69), (.t 70)], none⟩,
  A1 67 (.mv (.t 71)),
  A1 72 (.ext (.t 67) 0),
  A1 73 (.ext (.t 67) 1),
  A1 14 (.mv (.t 72)),
  A1 15 (.mv (.t 73))])
 ((.seq (.reg [A1 74 (.mv (.t 15)),
  A1 8 (.mv (.t 74)),
  A1 9 (.mv (.c (.int .i64 0)))])
 (.ret))))))))))) ((.seq (.reg [A1 76 (.ari .eql (.t 18) (.c (.int .i64 10))),
  A1 75 (.mv (.t 76))])
 (.cond (.t 75) ((.seq (.reg [A1 16 (.mv (.c (.int .u64 1)))])
 ((.seq ((.seq (.reg [A1 17 (.mv (.c (.int .i64 63)))])
 (.block 1 (.loop ((.seq ((.seq (.reg [A1 77 (.mv (.t 17)),
  A1 78 (.ari .geq (.t 77) (.c (.int .i64 0)))])
 (.cond (.t 78) (.skip) (.exit 1))))
 ((.seq (.block 2 ((.seq (.reg [A1 81 (.mv (.t 16)),
  A1 82 (.mv (.t 16)),
  A1 83 (.ari .mul (.t 81) (.t 82)),
  A1 16 (.mv (.t 83))])
 ((.seq (.reg [A1 84 (.mv (.t 2)),
  A1 85 (.mv (.t 17)),
  A1 86 (.conv .u64 (.t 85)),
  A1 87 (.ari .shr (.t 84) (.t 86)),
  A1 88 (.ari .and (.t 87) (.c (.int .u64 1))),
  A1 89 (.ari .eql (.t 88) (.c (.int .u64 1)))])
 (.cond (.t 89) (.reg [A1 90 (.mv (.t 16)),
  A1 91 (.mv (.t 1)),
  A1 92 (.ari .mul (.t 90) (.t 91)),
  A1 16 (.mv (.t 92))]) (.skip)))))))
 (.reg [A1 79 (.mv (.t 17)),
  A1 80 (.ari .sub (.t 79) (.c (.int .i64 1))),
  A1 17 (.mv (.t 80))])))))))))
 ((.seq (.reg [A1 93 (.mv (.t 16)),
  A1 8 (.mv (.t 93)),
  A1 9 (.mv (.c (.int .i64 0)))])
 (.ret))))))) ((.seq ((.seq (.reg [A1 95 (.ari .eql (.t 18) (.c (.int .i64 11))),
  A1 94 (.mv (.t 95))])
 (.cond (.t 94) (.skip) ((.seq (.reg [A1 96 (.ari .eql (.t 18) (.c (.int .i64 12))),
  A1 94 (.mv (.t 96))])
 (.cond (.t 94) (.skip) ((.seq (.reg [A1 97 (.ari .eql (.t 18) (.c (.int .i64 13))),
  A1 94 (.mv (.t 97))])
 (.cond (.t 94) (.skip) ((.seq (.reg [A1 98 (.ari .eql (.t 18) (.c (.int .i64 14))),
  A1 94 (.mv (.t 98))])
 (.cond (.t 94) (.skip) (.reg [A1 99 (.ari .eql (.t 18) (.c (.int .i64 15))),
  A1 94 (.mv (.t 99))])))))))))))))
 (.cond (.t 94) ((.seq (.reg [A1 100 (.mv (.t 0)),
  A1 101 (.mv (.t 1)),
  A1 102 (.mv (.t 2)),
  ⟨(some 103), .call 230 [(.t 100), (.t 101), (.t 102)], none⟩,
  A1 8 (.mv (.t 103)),
  A1 9 (.mv (.c (.int .i64 0)))])
 (.ret))) ((.seq (.reg [A1 105 (.ari .eql (.t 18) (.c (.int .i64 16))),
  A1 104 (.mv (.t 105))])
 (.cond (.t 104) ((.seq (.reg [A1 106 (.mv (.t 1)),
  A1 107 (.mv (.t 2)),
  A1 108 (.ari .lss (.t 106) (.t 107)),
  ⟨(some 109), .call 228 [(.t 108)], none⟩,
  A1 8 (.mv (.t 109)),
  A1 9 (.mv (.c (.int .i64 0)))])
 (.ret))) ((.seq (.reg [A1 111 (.ari .eql (.t 18) (.c (.int .i64 17))),
  A1 110 (.mv (.t 111))])
 (.cond (.t 110) ((.seq (.reg [A1 112 (.mv (.t 1)),
  A1 113 (.mv (.t 2)),
  A1 114 (.ari .gtr (.t 112) (.t 113)),
  ⟨(some 115), .call 228 [(.t 114)], none⟩,
  A1 8 (.mv (.t 115)),
  A1 9 (.mv (.c (.int .i64 0)))])
 (.ret))) ((.seq (.reg [A1 117 (.ari .eql (.t 18) (.c (.int .i64 18))),
  A1 116 (.mv (.t 117))])
 (.cond (.t 116) ((.seq (.reg [A1 118 (.mv (.t 1)),
  A1 119 (.ari .xor (.t 118) (.c (.int .u64 9223372036854775808))),
  A1 120 (.mv (.t 2)),
  A1 121 (.ari .xor (.t 120) (.c (.int .u64 9223372036854775808))),
  A1 122 (.ari .lss (.t 119) (.t 121)),
  ⟨(some 123), .call 228 [(.t 122)], none⟩,
  A1 8 (.mv (.t 123)),
  A1 9 (.mv (.c (.int .i64 0)))])
 (.ret))) ((.seq (.reg [A1 125 (.ari .eql (.t 18) (.c (.int .i64 19))),
  A1 124 (.mv (.t 125))])
 (.cond (.t 124) ((.seq (.reg [A1 126 (.mv (.t 1)),
  A1 127 (.ari .xor (.t 126) (.c (.int .u64 9223372036854775808))),
  A1 128 (.mv (.t 2)),
  A1 129 (.ari .xor (.t 128) (.c (.int .u64 9223372036854775808))),
  A1 130 (.ari .gtr (.t 127) (.t 129)),
  ⟨(some 131), .call 228 [(.t 130)], none⟩,
  A1 8 (.mv (.t 131)),
  A1 9 (.mv (.c (.int .i64 0)))])
 (.ret))) ((.seq (.reg [A1 133 (.ari .eql (.t 18) (.c (.int .i64 20))),
  A1 132 (.mv (.t 133))])
 (.cond (.t 132) ((.seq (.reg [A1 134 (.mv (.t 1)),
  A1 135 (.mv (.t 2)),
  A1 136 (.ari .eql (.t 134) (.t 135)),
  ⟨(some 137), .call 228 [(.t 136)], none⟩,
  A1 8 (.mv (.t 137)),
  A1 9 (.mv (.c (.int .i64 0)))])
 (.ret))) ((.seq (.reg [A1 139 (.ari .eql (.t 18) (.c (.int .i64 21))),
  A1 138 (.mv (.t 139))])
 (.cond (.t 138) ((.seq (.reg [A1 140 (.mv (.t 1)),
  A1 141 (.ari .eql (.t 140) (.c (.int .u64 0))),
  ⟨(some 142), .call 228 [(.t 141)], none⟩,
  A1 8 (.mv (.t 142)),
  A1 9 (.mv (.c (.int .i64 0)))])
 (.ret))) ((.seq (.reg [A1 144 (.ari .eql (.t 18) (.c (.int .i64 22))),
  A1 143 (.mv (.t 144))])
 (.cond (.t 143) ((.seq (.reg [A1 145 (.mv (.t 1)),
  A1 146 (.mv (.t 2)),
  A1 147 (.ari .and (.t 145) (.t 146)),
  A1 8 (.mv (.t 147)),
  A1 9 (.mv (.c (.int .i64 0)))])
 (.ret))) ((.seq (.reg [A1 149 (.ari .eql (.t 18) (.c (.int .i64 23))),
  A1 148 (.mv (.t 149))])
 (.cond (.t 148) ((.seq (.reg [A1 150 (.mv (.t 1)),
  A1 151 (.mv (.t 2)),
  A1 152 (.ari .or (.t 150) (.t 151)),
  A1 8 (.mv (.t 152)),
  A1 9 (.mv (.c (.int .i64 0)))])
 (.ret))) ((.seq (.reg [A1 154 (.ari .eql (.t 18) (.c (.int .i64 24))),
  A1 153 (.mv (.t 154))])
 (.cond (.t 153) ((.seq (.reg [A1 155 (.mv (.t 1)),
  A1 156 (.mv (.t 2)),
  A1 157 (.ari .xor (.t 155) (.t 156)),
  A1 8 (.mv (.t 157)),
  A1 9 (.mv (.c (.int .i64 0)))])
 (.ret))) ((.seq (.reg [A1 159 (.ari .eql (.t 18) (.c (.int .i64 25))),
  A1 158 (.mv (.t 159))])
 (.cond (.t 158) ((.seq (.reg [A1 160 (.mv (.t 1)),
  A1 161 (.ari .xor (.t 160) (.c (.int .u64 18446744073709551615))),
  A1 8 (.mv (.t 161)),
  A1 9 (.mv (.c (.int .i64 0)))])
 (.ret))) (.skip)))))))))))))))))))))))))))))))))))))))))))))))))))))))
 ((.seq (.reg [A1 8 (.mv (.c (.int .u64 0))),
  A1 9 (.mv (.c (.int .i64 10)))])
 (.ret))))))
def f90 : LF := ⟨c90, 4, 0, 162, [.tmp 8, .tmp 9]⟩

/-- moot/mootref01.Wide -/
def c226 : LC := (.seq (.reg [A1 4 (.mv (.c (.int .u64 0))),
  A1 5 (.mv (.c (.int .u64 0)))])
 ((.seq (.reg [A1 13 (.mv (.t 0)),
  A1 14 (.ari .and (.t 13) (.c (.int .u64 4294967295))),
  A1 15 (.mv (.t 0)),
  A1 16 (.ari .shr (.t 15) (.c (.int .u64 32))),
  A1 6 (.mv (.t 14)),
  A1 7 (.mv (.t 16))])
 ((.seq (.reg [A1 17 (.mv (.t 1)),
  A1 18 (.ari .and (.t 17) (.c (.int .u64 4294967295))),
  A1 19 (.mv (.t 1)),
  A1 20 (.ari .shr (.t 19) (.c (.int .u64 32))),
  A1 8 (.mv (.t 18)),
  A1 9 (.mv (.t 20))])
 ((.seq (.reg [A1 21 (.mv (.t 6)),
  A1 22 (.mv (.t 8)),
  A1 23 (.ari .mul (.t 21) (.t 22)),
  A1 10 (.mv (.t 23))])
 ((.seq (.reg [A1 24 (.mv (.t 7)),
  A1 25 (.mv (.t 8)),
  A1 26 (.ari .mul (.t 24) (.t 25)),
  A1 27 (.mv (.t 10)),
  A1 28 (.ari .shr (.t 27) (.c (.int .u64 32))),
  A1 29 (.ari .add (.t 26) (.t 28)),
  A1 11 (.mv (.t 29))])
 ((.seq (.reg [A1 30 (.mv (.t 6)),
  A1 31 (.mv (.t 9)),
  A1 32 (.ari .mul (.t 30) (.t 31)),
  A1 33 (.mv (.t 11)),
  A1 34 (.ari .and (.t 33) (.c (.int .u64 4294967295))),
  A1 35 (.ari .add (.t 32) (.t 34)),
  A1 12 (.mv (.t 35))])
 ((.seq (.reg [A1 36 (.mv (.t 7)),
  A1 37 (.mv (.t 9)),
  A1 38 (.ari .mul (.t 36) (.t 37)),
  A1 39 (.mv (.t 11)),
  A1 40 (.ari .shr (.t 39) (.c (.int .u64 32))),
  A1 41 (.ari .add (.t 38) (.t 40)),
  A1 42 (.mv (.t 12)),
  A1 43 (.ari .shr (.t 42) (.c (.int .u64 32))),
  A1 44 (.ari .add (.t 41) (.t 43)),
  A1 45 (.mv (.t 12)),
  A1 46 (.ari .shl (.t 45) (.c (.int .u64 32))),
  A1 47 (.mv (.t 10)),
  A1 48 (.ari .and (.t 47) (.c (.int .u64 4294967295))),
  A1 49 (.ari .or (.t 46) (.t 48)),
  A1 4 (.mv (.t 44)),
  A1 5 (.mv (.t 49))])
 (.ret))))))))))))))
def f226 : LF := ⟨c226, 2, 0, 50, [.tmp 4, .tmp 5]⟩

/-- moot/mootref01.divided -/
def c227 : LC := (.seq (.reg [A1 6 (.mv (.c (.int .u64 0)))])
 ((.seq ((.seq (.reg [A1 11 (.mv (.t 2)),
  A1 12 (.ari .eql (.t 11) (.c (.int .u64 0)))])
 (.cond (.t 12) ((.seq (.reg [A1 6 (.mv (.c (.int .u64 0)))])
 (.ret))) (.skip))))
 ((.seq ((.seq (.reg [A1 13 (.mv (.t 0)),
  A1 14 (.ari .eql (.t 13) (.c (.int .i64 4))),
  A1 15 (.mv (.t 14)),
  A2 16 15 false (.mv (.t 0)),
  A2 17 15 false (.ari .eql (.t 16) (.c (.int .i64 6))),
  A1 18 (.pick (.t 15) (.c (.bool true)) (.t 17))])
 (.cond (.t 18) ((.seq (.reg [A1 20 (.mv (.t 1)),
  A1 21 (.mv (.t 2)),
  ⟨(some 22), .call 229 [(.c (.int .u64 0)), (.t 20), (.t 21)], none⟩,
  A1 19 (.mv (.t 22)),
  A1 23 (.ext (.t 19) 0),
  A1 24 (.ext (.t 19) 1),
  A1 7 (.mv (.t 23)),
  A1 8 (.mv (.t 24))])
 ((.seq ((.seq (.reg [A1 25 (.mv (.t 0)),
  A1 26 (.ari .eql (.t 25) (.c (.int .i64 4)))])
 (.cond (.t 26) ((.seq (.reg [A1 27 (.mv (.t 7)),
  A1 6 (.mv (.t 27))])
 (.ret))) (.skip))))
 ((.seq (.reg [A1 28 (.mv (.t 8)),
  A1 6 (.mv (.t 28))])
 (.ret))))))) (.skip))))
 ((.seq (.reg [A1 30 (.mv (.t 1)),
  ⟨(some 31), .call 335 [(.t 30)], none⟩,
  A1 32 (.mv (.t 2)),
  ⟨(some 33), .call 335 [(.t 32)], none⟩,
  ⟨(some 34), .call 229 [(.c (.int .u64 0)), (.t 31), (.t 33)], none⟩,
  A1 29 (.mv (.t 34)),
  A1 35 (.ext (.t 29) 0),
  A1 36 (.ext (.t 29) 1),
  A1 9 (.mv (.t 35)),
  A1 10 (.mv (.t 36))])
 ((.seq ((.seq (.reg [A1 37 (.mv (.t 0)),
  A1 38 (.ari .eql (.t 37) (.c (.int .i64 5))),
  A1 39 (.mv (.t 38)),
  A2 40 39 true (.mv (.t 1)),
  ⟨(some 41), .call 336 [(.t 40)], (some (39, true))⟩,
  A2 42 39 true (.mv (.t 2)),
  ⟨(some 43), .call 336 [(.t 42)], (some (39, true))⟩,
  A2 44 39 true (.eq true false .bool (.t 41) (.t 43)),
  A1 45 (.pick (.t 39) (.t 44) (.c (.bool false)))])
 (.cond (.t 45) ((.seq (.reg [A1 46 (.mv (.t 9)),
  A1 47 (.ari .sub (.c (.int .u64 0)) (.t 46)),
  A1 6 (.mv (.t 47))])
 (.ret))) (.skip))))
 ((.seq ((.seq (.reg [A1 48 (.mv (.t 0)),
  A1 49 (.ari .eql (.t 48) (.c (.int .i64 5)))])
 (.cond (.t 49) ((.seq (.reg [A1 50 (.mv (.t 9)),
  A1 6 (.mv (.t 50))])
 (.ret))) (.skip))))
 ((.seq ((.seq (.reg [A1 51 (.mv (.t 1)),
  ⟨(some 52), .call 336 [(.t 51)], none⟩])
 (.cond (.t 52) ((.seq (.reg [A1 53 (.mv (.t 10)),
  A1 54 (.ari .sub (.c (.int .u64 0)) (.t 53)),
  A1 6 (.mv (.t 54))])
 (.ret))) (.skip))))
 ((.seq (.reg [A1 55 (.mv (.t 10)),
  A1 6 (.mv (.t 55))])
 (.ret))))))))))))))))
def f227 : LF := ⟨c227, 3, 0, 56, [.tmp 6]⟩

/-- moot/mootref01.one -/
def c228 : LC := (.seq (.reg [A1 2 (.mv (.c (.int .u64 0)))])
 ((.seq ((.seq (.reg [A1 3 (.mv (.t 0))])
 (.cond (.t 3) ((.seq (.reg [A1 2 (.mv (.c (.int .u64 1)))])
 (.ret))) (.skip))))
 ((.seq (.reg [A1 2 (.mv (.c (.int .u64 0)))])
 (.ret))))))
def f228 : LF := ⟨c228, 1, 0, 4, [.tmp 2]⟩

/-- moot/mootref01.Rest -/
def c229 : LC := (.seq (.reg [A1 6 (.mv (.c (.int .u64 0))),
  A1 7 (.mv (.c (.int .u64 0)))])
 ((.seq (.reg [A1 8 (.mv (.c (.int .u64 0))),
  A1 9 (.mv (.c (.int .u64 0)))])
 ((.seq ((.seq (.reg [A1 10 (.mv (.c (.int .i64 127)))])
 (.block 0 (.loop ((.seq ((.seq (.reg [A1 13 (.mv (.t 10)),
  A1 14 (.ari .geq (.t 13) (.c (.int .i64 0)))])
 (.cond (.t 14) (.skip) (.exit 0))))
 ((.seq (.block 1 ((.seq (.reg [A1 11 (.mv (.c (.int .u64 0)))])
 ((.seq ((.seq (.reg [A1 17 (.mv (.t 10)),
  A1 18 (.ari .geq (.t 17) (.c (.int .i64 64)))])
 (.cond (.t 18) (.reg [A1 19 (.mv (.t 0)),
  A1 20 (.mv (.t 10)),
  A1 21 (.ari .sub (.t 20) (.c (.int .i64 64))),
  A1 22 (.conv .u64 (.t 21)),
  A1 23 (.ari .shr (.t 19) (.t 22)),
  A1 24 (.ari .and (.t 23) (.c (.int .u64 1))),
  A1 11 (.mv (.t 24))]) (.reg [A1 25 (.mv (.t 1)),
  A1 26 (.mv (.t 10)),
  A1 27 (.conv .u64 (.t 26)),
  A1 28 (.ari .shr (.t 25) (.t 27)),
  A1 29 (.ari .and (.t 28) (.c (.int .u64 1))),
  A1 11 (.mv (.t 29))]))))
 ((.seq (.reg [A1 30 (.mv (.t 9)),
  A1 31 (.ari .shr (.t 30) (.c (.int .u64 63))),
  A1 12 (.mv (.t 31))])
 ((.seq (.reg [A1 32 (.mv (.t 9)),
  A1 33 (.ari .shl (.t 32) (.c (.int .u64 1))),
  A1 34 (.mv (.t 11)),
  A1 35 (.ari .or (.t 33) (.t 34)),
  A1 9 (.mv (.t 35))])
 ((.seq (.reg [A1 36 (.mv (.t 8)),
  A1 37 (.ari .shl (.t 36) (.c (.int .u64 1))),
  A1 8 (.mv (.t 37))])
 ((.seq (.reg [A1 38 (.mv (.t 12)),
  A1 39 (.ari .eql (.t 38) (.c (.int .u64 1))),
  A1 40 (.mv (.t 39)),
  A2 41 40 false (.mv (.t 9)),
  A2 42 40 false (.mv (.t 2)),
  A2 43 40 false (.ari .geq (.t 41) (.t 42)),
  A1 44 (.pick (.t 40) (.c (.bool true)) (.t 43))])
 (.cond (.t 44) ((.seq (.reg [A1 45 (.mv (.t 9)),
  A1 46 (.mv (.t 2)),
  A1 47 (.ari .sub (.t 45) (.t 46)),
  A1 9 (.mv (.t 47))])
 (.reg [A1 48 (.mv (.t 8)),
  A1 49 (.ari .or (.t 48) (.c (.int .u64 1))),
  A1 8 (.mv (.t 49))]))) (.skip)))))))))))))))
 (.reg [A1 15 (.mv (.t 10)),
  A1 16 (.ari .sub (.t 15) (.c (.int .i64 1))),
  A1 10 (.mv (.t 16))])))))))))
 ((.seq (.reg [A1 50 (.mv (.t 8)),
  A1 51 (.mv (.t 9)),
  A1 6 (.mv (.t 50)),
  A1 7 (.mv (.t 51))])
 (.ret))))))))
def f229 : LF := ⟨c229, 3, 0, 52, [.tmp 6, .tmp 7]⟩

/-- moot/mootref01.turned -/
def c230 : LC := (.seq (.reg [A1 6 (.mv (.c (.int .u64 0)))])
 ((.seq (.reg [A1 7 (.mv (.c (.int .u64 0)))])
 ((.seq ((.seq (.reg [A1 8 (.mv (.c (.int .u64 0)))])
 (.block 0 (.loop ((.seq ((.seq (.reg [A1 11 (.mv (.t 8)),
  A1 12 (.ari .lss (.t 11) (.c (.int .u64 64)))])
 (.cond (.t 12) (.skip) (.exit 0))))
 ((.seq (.block 1 ((.seq (.reg [A1 15 (.mv (.t 8)),
  A1 9 (.mv (.t 15))])
 ((.seq (.reg [A1 10 (.mv (.c (.bool true)))])
 ((.seq ((.seq (.reg [A1 16 (.mv (.t 0))])
 (.block 2 ((.seq (.reg [A1 18 (.ari .eql (.t 16) (.c (.int .i64 11))),
  A1 17 (.mv (.t 18))])
 (.cond (.t 17) ((.seq (.reg [A1 19 (.mv (.t 1)),
  A1 20 (.ari .lss (.t 19) (.c (.int .u64 8)))])
 (.cond (.t 20) (.reg [A1 21 (.mv (.t 8)),
  A1 22 (.mv (.t 1)),
  A1 23 (.ari .mul (.c (.int .u64 8)) (.t 22)),
  A1 24 (.ari .add (.t 23) (.c (.int .u64 7))),
  A1 25 (.mm false (.t 21) (.t 24)),
  A1 9 (.mv (.t 25))]) (.skip)))) ((.seq (.reg [A1 27 (.ari .eql (.t 16) (.c (.int .i64 12))),
  A1 26 (.mv (.t 27))])
 (.cond (.t 26) ((.seq (.reg [A1 28 (.mv (.t 8)),
  A1 29 (.ari .lss (.t 28) (.c (.int .u64 8))),
  A1 30 (.mv (.t 29)),
  A2 31 30 true (.mv (.t 1)),
  A2 32 30 true (.ari .lss (.t 31) (.c (.int .u64 8))),
  A1 33 (.pick (.t 30) (.t 32) (.c (.bool false))),
  A1 10 (.mv (.t 33))])
 (.reg [A1 34 (.mv (.t 1)),
  A1 35 (.mm false (.t 34) (.c (.int .u64 7))),
  A1 36 (.ari .mul (.c (.int .u64 8)) (.t 35)),
  A1 37 (.ari .sub (.c (.int .u64 56)) (.t 36)),
  A1 38 (.mv (.t 8)),
  A1 39 (.ari .add (.t 37) (.t 38)),
  A1 9 (.mv (.t 39))]))) ((.seq (.reg [A1 41 (.ari .eql (.t 16) (.c (.int .i64 13))),
  A1 40 (.mv (.t 41))])
 (.cond (.t 40) ((.seq (.reg [A1 42 (.mv (.t 1)),
  A1 43 (.mv (.t 8)),
  A1 44 (.ari .leq (.t 42) (.t 43)),
  A1 10 (.mv (.t 44))])
 (.reg [A1 45 (.mv (.t 8)),
  A1 46 (.mv (.t 1)),
  A1 47 (.ari .sub (.t 45) (.t 46)),
  A1 9 (.mv (.t 47))]))) ((.seq ((.seq (.reg [A1 49 (.ari .eql (.t 16) (.c (.int .i64 14))),
  A1 48 (.mv (.t 49))])
 (.cond (.t 48) (.skip) (.reg [A1 50 (.ari .eql (.t 16) (.c (.int .i64 15))),
  A1 48 (.mv (.t 50))]))))
 (.cond (.t 48) ((.seq (.reg [A1 51 (.mv (.t 1)),
  A1 52 (.mv (.t 8)),
  A1 53 (.ari .sub (.c (.int .u64 64)) (.t 52)),
  A1 54 (.ari .lss (.t 51) (.t 53)),
  A1 10 (.mv (.t 54))])
 ((.seq (.reg [A1 55 (.mv (.t 8)),
  A1 56 (.mv (.t 1)),
  A1 57 (.ari .add (.t 55) (.t 56)),
  A1 9 (.mv (.t 57))])
 ((.seq (.reg [A1 58 (.mv (.t 0)),
  A1 59 (.ari .eql (.t 58) (.c (.int .i64 15))),
  A1 60 (.mv (.t 59)),
  A2 61 60 true (.mv (.t 10)),
  A2 62 60 true (.un .not (.t 61)),
  A1 63 (.pick (.t 60) (.t 62) (.c (.bool false)))])
 (.cond (.t 63) ((.seq (.reg [A1 10 (.mv (.c (.bool true)))])
 (.reg [A1 9 (.mv (.c (.int .u64 63)))]))) (.skip)))))))) (.skip))))))))))))))))
 ((.seq (.reg [A1 64 (.mv (.t 10)),
  A1 65 (.mv (.t 64)),
  A2 66 65 true (.mv (.t 9)),
  A2 67 65 true (.ari .lss (.t 66) (.c (.int .u64 64))),
  A1 68 (.pick (.t 65) (.t 67) (.c (.bool false))),
  A1 69 (.mv (.t 68)),
  A2 70 69 true (.mv (.t 2)),
  A2 71 69 true (.mv (.t 9)),
  A2 72 69 true (.ari .shr (.t 70) (.t 71)),
  A2 73 69 true (.ari .and (.t 72) (.c (.int .u64 1))),
  A2 74 69 true (.ari .eql (.t 73) (.c (.int .u64 1))),
  A1 75 (.pick (.t 69) (.t 74) (.c (.bool false)))])
 (.cond (.t 75) (.reg [A1 76 (.mv (.t 7)),
  A1 77 (.mv (.t 8)),
  A1 78 (.ari .shl (.c (.int .u64 1)) (.t 77)),
  A1 79 (.ari .or (.t 76) (.t 78)),
  A1 7 (.mv (.t 79))]) (.skip)))))))))))
 (.reg [A1 13 (.mv (.t 8)),
  A1 14 (.ari .add (.t 13) (.c (.int .u64 1))),
  A1 8 (.mv (.t 14))])))))))))
 ((.seq (.reg [A1 80 (.mv (.t 7)),
  A1 6 (.mv (.t 80))])
 (.ret))))))))
def f230 : LF := ⟨c230, 3, 0, 81, [.tmp 6]⟩

/-- moot/mootref01.size -/
def c335 : LC := (.seq (.reg [A1 2 (.mv (.c (.int .u64 0)))])
 ((.seq ((.seq (.reg [A1 3 (.mv (.t 0)),
  ⟨(some 4), .call 336 [(.t 3)], none⟩])
 (.cond (.t 4) ((.seq (.reg [A1 5 (.mv (.t 0)),
  A1 6 (.ari .sub (.c (.int .u64 0)) (.t 5)),
  A1 2 (.mv (.t 6))])
 (.ret))) (.skip))))
 ((.seq (.reg [A1 7 (.mv (.t 0)),
  A1 2 (.mv (.t 7))])
 (.ret))))))
def f335 : LF := ⟨c335, 1, 0, 8, [.tmp 2]⟩

/-- moot/mootref01.negative -/
def c336 : LC := (.seq (.reg [A1 2 (.mv (.c (.bool false)))])
 ((.seq (.reg [A1 3 (.mv (.t 0)),
  A1 4 (.ari .geq (.t 3) (.c (.int .u64 9223372036854775808))),
  A1 2 (.mv (.t 4))])
 (.ret))))
def f336 : LF := ⟨c336, 1, 0, 5, [.tmp 2]⟩

end Mv
namespace Mv
open Go
set_option maxRecDepth 20000
set_option maxHeartbeats 4000000
set_option linter.unusedSimpArgs false

structure OkX (M : Seat) : Prop where
  k89 : chkF M 89 f89 = true
  k90 : chkF M 90 f90 = true
  k226 : chkF M 226 f226 = true
  k227 : chkF M 227 f227 = true
  k228 : chkF M 228 f228 = true
  k229 : chkF M 229 f229 = true
  k230 : chkF M 230 f230 = true
  k335 : chkF M 335 f335 = true
  k336 : chkF M 336 f336 = true

/-- One bit brought down. -/
def rcnd (r n b : BitVec 64) : Prop := r >>> 63 = 1#64 ∨ n ≤ (r <<< 1 ||| b)
instance (r n b : BitVec 64) : Decidable (rcnd r n b) := inferInstanceAs (Decidable (_ ∨ _))
theorem rest_step (r n b q : BitVec 64) (P : Nat) (hb : b.toNat < 2) (hn : 0 < n.toNat) (hr : r.toNat = P % n.toNat) (hq : q.toNat = P / n.toNat % 18446744073709551616) :
    (if rcnd r n b then (r <<< 1 ||| b) - n else (r <<< 1 ||| b)).toNat = (2 * P + b.toNat) % n.toNat ∧
    (if rcnd r n b then q <<< 1 ||| 1#64 else q <<< 1).toNat = (2 * P + b.toNat) / n.toNat % 18446744073709551616 := by
  have hrn : r.toNat < n.toNat := by rw [hr]; exact Nat.mod_lt _ hn
  have hnl := n.isLt
  have e1 : (r <<< 1 ||| b).toNat = 2 * r.toNat % 18446744073709551616 + b.toNat := by
    rw [BitVec.toNat_or, BitVec.toNat_shiftLeft, Nat.shiftLeft_eq]
    have h2 : r.toNat * 2 ^ 1 % 2 ^ 64 = 2 * (r.toNat % 2 ^ 63) := by omega
    rw [h2, show 2 * (r.toNat % 2 ^ 63) = (r.toNat % 2 ^ 63) <<< 1 by rw [Nat.shiftLeft_eq]; omega, ← Nat.shiftLeft_add_eq_or_of_lt (by omega), Nat.shiftLeft_eq]
    omega
  have e2 : (r >>> 63 = 1#64) ↔ 18446744073709551616 ≤ 2 * r.toNat := by
    have e : (r >>> 63).toNat = r.toNat / 9223372036854775808 := by rw [BitVec.toNat_ushiftRight, Nat.shiftRight_eq_div_pow]
    constructor
    · intro h
      rw [h] at e
      have e' : 1 = r.toNat / 9223372036854775808 := e
      omega
    · intro h
      apply BitVec.eq_of_toNat_eq
      rw [e]
      show _ = 1
      have := r.isLt
      omega
  have hc : rcnd r n b ↔ n.toNat ≤ 2 * r.toNat + b.toNat := by
    unfold rcnd
    rw [e2, BitVec.le_def, e1]
    omega
  have eP := Nat.div_add_mod P n.toNat
  rw [← hr] at eP
  have eq1 : (q <<< 1).toNat = 2 * (P / n.toNat) % 18446744073709551616 := by
    rw [BitVec.toNat_shiftLeft, Nat.shiftLeft_eq, hq]; omega
  have eq2 : (q <<< 1 ||| 1#64).toNat = (2 * (P / n.toNat) + 1) % 18446744073709551616 := by
    rw [BitVec.toNat_or, eq1, show (1#64 : BitVec 64).toNat = 1 from rfl]
    have h3 : 2 * (P / n.toNat) % 18446744073709551616 = (P / n.toNat % 9223372036854775808) <<< 1 := by rw [Nat.shiftLeft_eq]; omega
    rw [h3, ← Nat.shiftLeft_add_eq_or_of_lt (by omega), Nat.shiftLeft_eq]
    omega
  by_cases h : rcnd r n b
  · rw [if_pos h, if_pos h]
    have h' := hc.1 h
    have er : (r <<< 1 ||| b) - n = BitVec.ofNat 64 (2 * r.toNat + b.toNat - n.toNat) := by
      apply BitVec.eq_of_toNat_eq
      rw [BitVec.toNat_sub, e1, BitVec.toNat_ofNat]
      omega
    have e3 : 2 * P + b.toNat = n.toNat * (2 * (P / n.toNat) + 1) + (2 * r.toNat + b.toNat - n.toNat) := by
      rw [Nat.mul_add, Nat.mul_one, Nat.mul_left_comm]
      omega
    constructor
    · rw [er, BitVec.toNat_ofNat, e3, Nat.mul_add_mod, Nat.mod_eq_of_lt (a := 2 * r.toNat + b.toNat - n.toNat) (b := n.toNat) (by omega), Nat.mod_eq_of_lt (by omega)]
    · rw [eq2, e3, Nat.mul_add_div hn, Nat.div_eq_of_lt (a := 2 * r.toNat + b.toNat - n.toNat) (b := n.toNat) (by omega), Nat.add_zero]
  · rw [if_neg h, if_neg h]
    have h' : ¬ n.toNat ≤ 2 * r.toNat + b.toNat := fun x => h (hc.2 x)
    have e3 : 2 * P + b.toNat = n.toNat * (2 * (P / n.toNat)) + (2 * r.toNat + b.toNat) := by
      rw [Nat.mul_left_comm]
      omega
    constructor
    · rw [e1, e3, Nat.mul_add_mod, Nat.mod_eq_of_lt (a := 2 * r.toNat + b.toNat) (b := n.toNat) (by omega)]
      omega
    · rw [eq1, e3, Nat.mul_add_div hn, Nat.div_eq_of_lt (a := 2 * r.toNat + b.toNat) (b := n.toNat) (by omega), Nat.add_zero]

theorem runs_one {M : Seat} (ok : OkX M) (t : Bool) : Runs M 228 [.bool t] [] 0 (fun r H' k' => r = W (flg t) ∧ H' = [] ∧ k' = 0) := by
  refine runs_fr ok.k228 rfl fun x hx => ?_
  cases t
  all_goals refine ex_sound 2000 _ _ _ _ ?_; (simp (maxSteps := 4000000) only [f228, c228, LZ, seval, reduceCtorEq, forall_const])
  all_goals refine RetS.mk hx [] [] _ _ _ (by decide) (by (simp only [LV, flg, LZ, seval, reduceCtorEq, forall_const])) (by ((try simp only [LV, flg, LZ, seval, reduceCtorEq, forall_const, LY, seval, reduceCtorEq, implies_true]); first | done | exact True.intro | (intros; rfl))) (by ((try simp only [flg, LY, seval, reduceCtorEq, implies_true]); first | done | exact True.intro | (intros; rfl))) ⟨rfl, rfl, rfl⟩
theorem neg_top (a : BitVec 64) : (9223372036854775808#64 ≤ a) = (a.toInt < 0) := by
  rw [BitVec.le_def, BitVec.toInt_eq_toNat_cond]
  have := a.isLt
  have e : (9223372036854775808#64 : BitVec 64).toNat = 9223372036854775808 := rfl
  rw [e]
  apply propext
  split <;> omega
theorem runs_negative {M : Seat} (ok : OkX M) (a : BitVec 64) : Runs M 336 [W a] [] 0 (fun r H' k' => r = .bool (decide (a.toInt < 0)) ∧ H' = [] ∧ k' = 0) := by
  refine runs_fr ok.k336 rfl fun x hx => ?_
  refine ex_sound 2000 _ _ _ _ ?_; (simp (maxSteps := 4000000) only [f336, c336, neg_top, LZ, seval, reduceCtorEq, forall_const])
  exact RetS.mkZ hx [] ⟨rfl, rfl, rfl⟩
def szW (a : BitVec 64) : BitVec 64 := if a.toInt < 0 then -a else a
theorem runs_size {M : Seat} (ok : OkX M) (a : BitVec 64) : Runs M 335 [W a] [] 0 (fun r H' k' => r = W (szW a) ∧ H' = [] ∧ k' = 0) := by
  refine runs_fr ok.k335 rfl fun x hx => ?_
  rcases Classical.propComplete (a.toInt < 0) with h | h
  · have e : szW a = 0#64 - a := by rw [szW, if_pos (of_eq_true h), BitVec.zero_sub]
    rw [e]
    refine ex_sound 2000 _ _ _ _ ?_; (simp (maxSteps := 4000000) only [f335, c335, LZ, seval, reduceCtorEq, forall_const])
    refine call_pZ (runs_negative ok a) ?_
    (simp (maxSteps := 4000000) only [h, LZ, seval, reduceCtorEq, forall_const])
    exact RetS.mkZ hx [] ⟨rfl, rfl, rfl⟩
  · have e : szW a = a := by rw [szW, if_neg (of_eq_false h)]
    rw [e]
    refine ex_sound 2000 _ _ _ _ ?_; (simp (maxSteps := 4000000) only [f335, c335, LZ, seval, reduceCtorEq, forall_const])
    refine call_pZ (runs_negative ok a) ?_
    (simp (maxSteps := 4000000) only [h, LZ, seval, reduceCtorEq, forall_const])
    exact RetS.mkZ hx [] ⟨rfl, rfl, rfl⟩

theorem wide_lo (a b : BitVec 64) : ((a &&& 4294967295#64) * (b >>> 32) + ((a >>> 32) * (b &&& 4294967295#64) + ((a &&& 4294967295#64) * (b &&& 4294967295#64)) >>> 32 &&& 4294967295#64)) <<< 32 ||| ((a &&& 4294967295#64) * (b &&& 4294967295#64) &&& 4294967295#64) = a * b := by
  have ha := a.isLt
  have hb := b.isLt
  have l1 : (a &&& 4294967295#64).toNat < 4294967296 := by rw [lowW]; omega
  have l2 : (b &&& 4294967295#64).toNat < 4294967296 := by rw [lowW]; omega
  have l3 : (a >>> 32).toNat < 4294967296 := by rw [highW]; omega
  have l4 : (b >>> 32).toNat < 4294967296 := by rw [highW]; omega
  have m1 := mulW l1 l2
  have m2 := mulW l3 l2
  have m3 := mulW l1 l4
  have b1 := mul32 l1 l2
  have b2 := mul32 l3 l2
  have b3 := mul32 l1 l4
  have ea : a.toNat = (a >>> 32).toNat * 4294967296 + (a &&& 4294967295#64).toNat := by rw [lowW, highW]; omega
  have eb : b.toNat = (b >>> 32).toNat * 4294967296 + (b &&& 4294967295#64).toNat := by rw [lowW, highW]; omega
  have ep : a.toNat * b.toNat = (a >>> 32).toNat * (b >>> 32).toNat * 18446744073709551616 + ((a >>> 32).toNat * (b &&& 4294967295#64).toNat + (a &&& 4294967295#64).toNat * (b >>> 32).toNat) * 4294967296 + (a &&& 4294967295#64).toNat * (b &&& 4294967295#64).toNat := by
    rw [ea, eb]
    generalize (a >>> 32).toNat = p
    generalize (b >>> 32).toNat = q
    generalize (a &&& 4294967295#64).toNat = r
    generalize (b &&& 4294967295#64).toNat = s
    rw [Nat.add_mul, Nat.mul_add, Nat.mul_add, Nat.mul_mul_mul_comm, Nat.mul_right_comm p _ s, ← Nat.mul_assoc r q, Nat.add_mul]
    omega
  apply BitVec.eq_of_toNat_eq
  rw [BitVec.toNat_mul, ep]
  generalize (a &&& 4294967295#64) = x0 at *
  generalize (b &&& 4294967295#64) = y0 at *
  generalize (a >>> 32) = x1 at *
  generalize (b >>> 32) = y1 at *
  have t1 : (x1 * y0 + (x0 * y0) >>> 32).toNat = x1.toNat * y0.toNat + x0.toNat * y0.toNat / 4294967296 := by
    rw [addW (by rw [highW, m1, m2]; omega), highW, m1, m2]
  have t2 : (x0 * y1 + ((x1 * y0 + (x0 * y0) >>> 32) &&& 4294967295#64)).toNat = x0.toNat * y1.toNat + (x1.toNat * y0.toNat + x0.toNat * y0.toNat / 4294967296) % 4294967296 := by
    rw [addW (by rw [lowW, t1, m3]; omega), lowW, t1, m3]
  rw [BitVec.toNat_or, BitVec.toNat_shiftLeft, t2, lowW, m1, Nat.shiftLeft_eq]
  generalize x0.toNat * y0.toNat = A at *
  generalize x1.toNat * y0.toNat = B at *
  generalize x0.toNat * y1.toNat = C at *
  have e1 : (C + (B + A / 4294967296) % 4294967296) * 2 ^ 32 % 2 ^ 64 = ((C + (B + A / 4294967296) % 4294967296) % 4294967296) <<< 32 := by
    rw [Nat.shiftLeft_eq]; omega
  rw [e1, ← Nat.shiftLeft_add_eq_or_of_lt (by omega), Nat.shiftLeft_eq]
  omega
theorem runs_Wide {M : Seat} (ok : OkX M) (a b : BitVec 64) : Runs M 226 [W a, W b] [] 0 (fun r H' k' => r = tup2 (W (mhi a b)) (W (a * b)) ∧ H' = [] ∧ k' = 0) := by
  refine runs_fr ok.k226 rfl fun x hx => ?_
  have e : mhi a b = (a >>> 32) * (b >>> 32) + ((a >>> 32) * (b &&& 4294967295#64) + ((a &&& 4294967295#64) * (b &&& 4294967295#64)) >>> 32) >>> 32 + ((a &&& 4294967295#64) * (b >>> 32) + ((a >>> 32) * (b &&& 4294967295#64) + ((a &&& 4294967295#64) * (b &&& 4294967295#64)) >>> 32 &&& 4294967295#64)) >>> 32 := by
    rw [mhi, BitVec.add_comm ((a &&& 4294967295#64) * (b >>> 32))]
  rw [e, ← wide_lo a b]
  refine ex_sound 2000 _ _ _ _ ?_; (simp (maxSteps := 4000000) only [f226, c226, LZ, seval, reduceCtorEq, forall_const])
  refine RetS.mk hx [] [] _ _ _ (by decide) (by (simp only [LV, tup2, LZ, seval, reduceCtorEq, forall_const])) (by ((try simp only [LV, tup2, LZ, seval, reduceCtorEq, forall_const, LY, seval, reduceCtorEq, implies_true]); first | done | exact True.intro | (intros; rfl))) (by ((try simp only [tup2, LY, seval, reduceCtorEq, implies_true]); first | done | exact True.intro | (intros; rfl))) ⟨rfl, rfl, rfl⟩

def T128 (hi lo : BitVec 64) : Nat := hi.toNat * 18446744073709551616 + lo.toNat
theorem bit_hi (hi lo : BitVec 64) (k : Nat) (h : 64 ≤ k) : (hi >>> (k - 64) &&& 1#64).toNat = T128 hi lo / 2 ^ k % 2 := by
  obtain ⟨j, rfl⟩ : ∃ j, k = 64 + j := ⟨k - 64, by omega⟩
  rw [BitVec.toNat_and, BitVec.toNat_ushiftRight, Nat.shiftRight_eq_div_pow, show 64 + j - 64 = j by omega, show (1#64 : BitVec 64).toNat = 1 from rfl, Nat.and_one_is_mod, Nat.pow_add, ← Nat.div_div_eq_div_mul, T128]
  have := lo.isLt
  have e : (hi.toNat * 18446744073709551616 + lo.toNat) / 2 ^ 64 = hi.toNat := by
    have e2 : (2 : Nat) ^ 64 = 18446744073709551616 := by decide
    rw [e2]; omega
  rw [e]
theorem bit_lo (hi lo : BitVec 64) (k : Nat) (h : k < 64) : (lo >>> k &&& 1#64).toNat = T128 hi lo / 2 ^ k % 2 := by
  rw [BitVec.toNat_and, BitVec.toNat_ushiftRight, Nat.shiftRight_eq_div_pow, show (1#64 : BitVec 64).toNat = 1 from rfl, Nat.and_one_is_mod, T128]
  have e : hi.toNat * 18446744073709551616 = 2 ^ k * (2 * (hi.toNat * 2 ^ (63 - k))) := by
    have e2 : (18446744073709551616 : Nat) = 2 ^ k * 2 * 2 ^ (63 - k) := by
      rw [← Nat.pow_succ, ← Nat.pow_add, show k + 1 + (63 - k) = 64 by omega]
    rw [e2, Nat.mul_assoc (2 ^ k), Nat.mul_left_comm hi.toNat, Nat.mul_left_comm hi.toNat]
  rw [e, Nat.mul_add_div (Nat.pow_pos (by decide))]
  omega
def rsQ (hi lo n : BitVec 64) : BitVec 64 := BitVec.ofNat 64 (T128 hi lo / n.toNat)
def rsR (hi lo n : BitVec 64) : BitVec 64 := BitVec.ofNat 64 (T128 hi lo % n.toNat)
def rsI (hi lo n : BitVec 64) (s : Nat × BitVec 64 × BitVec 64) : Prop := s.1 ≤ 128 ∧ s.2.2.toNat = T128 hi lo / 2 ^ s.1 % n.toNat ∧ s.2.1.toNat = T128 hi lo / 2 ^ s.1 / n.toNat % 18446744073709551616
theorem rsI_step {hi lo n : BitVec 64} (hn : 0 < n.toNat) {k : Nat} {q r b q' r' : BitVec 64} (h : rsI hi lo n (k + 1, q, r)) (hb : b.toNat = T128 hi lo / 2 ^ k % 2)
    (hr : r' = if rcnd r n b then (r <<< 1 ||| b) - n else (r <<< 1 ||| b)) (hq : q' = if rcnd r n b then q <<< 1 ||| 1#64 else q <<< 1) : rsI hi lo n (k, q', r') := by
  obtain ⟨h1, h2, h3⟩ := h
  dsimp only at h1 h2 h3
  have hs := rest_step r n b q _ (by omega) hn h2 h3
  have e : 2 * (T128 hi lo / 2 ^ (k + 1)) + b.toNat = T128 hi lo / 2 ^ k := by
    rw [Nat.pow_succ, ← Nat.div_div_eq_div_mul, hb]; omega
  rw [e] at hs
  exact ⟨by show k ≤ 128; omega, by rw [hr]; exact hs.1, by rw [hq]; exact hs.2⟩
theorem runs_Rest {M : Seat} (ok : OkX M) (hi lo n : BitVec 64) (hn : 0 < n.toNat) : Runs M 229 [W hi, W lo, W n] [] 0 (fun r H' k' => r = tup2 (W (rsQ hi lo n)) (W (rsR hi lo n)) ∧ H' = [] ∧ k' = 0) := by
  refine runs_fr ok.k229 rfl fun x hx => ?_
  generalize hF : rsQ hi lo n = F
  generalize hG : rsR hi lo n = G
  refine ex_sound 2000 _ _ _ _ ?_; (simp (maxSteps := 4000000) only [f229, c229, LZ, seval, reduceCtorEq, forall_const])
  refine loop_rule (σ := Nat × BitVec 64 × BitVec 64) (rsI hi lo n) (fun s => fr 52 [(0, W hi), (1, W lo), (2, W n), (8, W s.2.1), (9, W s.2.2), (10, .int .i64 ((s.1 : Int) - 1))]) (fun _ => []) (fun _ => 0) (fun s => s.1) (128, 0#64, 0#64) ?_ ?_ ?_
  · have hT : T128 hi lo / 2 ^ 128 = 0 := by
      refine Nat.div_eq_of_lt ?_
      have h1 := hi.isLt
      have h2 := lo.isLt
      have e : (2 : Nat) ^ 128 = 18446744073709551616 * 18446744073709551616 := by decide
      rw [T128, e]; omega
    refine ⟨Nat.le_refl _, ?_, ?_⟩
    · show 0 = _; rw [hT, Nat.zero_mod]
    · show 0 = _; rw [hT, Nat.zero_div]
  · refine Weak.fr [] [] hx (by simp only [fr_length]) (by decide) ?_ ?_
    · simp only [LY, seval, reduceCtorEq, implies_true]
    · trivial
  · rintro ⟨k, q, r⟩ hI
    refine ex_sound 2000 _ _ _ _ ?_
    cases k with
    | zero =>
      have hz : (((0 : Nat) : Int) - 1) = -1 := rfl
      obtain ⟨_, h2, h3⟩ := hI
      dsimp only at h2 h3
      rw [Nat.pow_zero, Nat.div_one] at h2 h3
      have e1 : q = F := by rw [← hF]; exact BitVec.eq_of_toNat_eq (by rw [h3, rsQ, BitVec.toNat_ofNat])
      have e2 : r = G := by rw [← hG]; exact BitVec.eq_of_toNat_eq (by rw [h2, rsR, BitVec.toNat_ofNat]; exact (Nat.mod_eq_of_lt (Nat.lt_trans (Nat.mod_lt _ hn) n.isLt)).symm)
      subst e1 e2
      (simp (maxSteps := 4000000) only [hz, LZ, seval, reduceCtorEq, forall_const])
      exact RetS.mkZ hx [] ⟨rfl, rfl, rfl⟩
    | succ k =>
      have hk := hI.1
      dsimp only at hk
      have hz : (((k + 1 : Nat) : Int) - 1) = k := by omega
      have g0 : (0 ≤ (k : Int)) = True := eq_true (by omega)
      have w1 : IntKind.i64.wrap ((k : Int) - 1) = (k : Int) - 1 := wrap_i64 (by omega)
      have hstep := fun b q' r' => rsI_step (b := b) (q' := q') (r' := r') hn hI
      have tl : ∀ b : BitVec 64, (r >>> 63 = 1#64) = True → rcnd r n b := fun b h => Or.inl (of_eq_true h)
      have tr : ∀ b : BitVec 64, (n ≤ (r <<< 1 ||| b)) = True → rcnd r n b := fun b h => Or.inr (of_eq_true h)
      have tn : ∀ b : BitVec 64, (r >>> 63 = 1#64) = False → (n ≤ (r <<< 1 ||| b)) = False → ¬ rcnd r n b := fun b h h' x => x.elim (of_eq_false h) (of_eq_false h')
      by_cases h64 : 64 ≤ k
      · have g64 : ((64 : Int) ≤ (k : Int)) = True := eq_true (by omega)
        have w2 : IntKind.i64.wrap ((k : Int) - 64) = ((k - 64 : Nat) : Int) := by rw [wrap_i64 (by omega)]; omega
        have w3 := ofInt_sm (k - 64) (by omega)
        have hb := bit_hi hi lo k h64
        obtain ⟨b, hbe⟩ : ∃ b, (hi >>> (k - 64) &&& 1#64) = b := ⟨_, rfl⟩
        rw [hbe] at hb
        rcases Classical.propComplete (r >>> 63 = 1#64) with c1 | c1
        · skip
          (simp (maxSteps := 4000000) only [hz, g0, g64, w1, w2, w3, hbe, c1, LZ, seval, reduceCtorEq, forall_const])
          refine ⟨(k, q <<< 1 ||| 1#64, (r <<< 1 ||| b) - n), hstep b _ _ hb (by rw [if_pos (tl b c1)]) (by rw [if_pos (tl b c1)]), Nat.lt_succ_self k, ?_⟩
          refine Weak.fr [] [] hx (by simp only [fr_length]) (by decide) ?_ ?_
          · simp only [LY, seval, reduceCtorEq, implies_true]
          · trivial
        · rcases Classical.propComplete (n ≤ (r <<< 1 ||| b)) with c2 | c2
          · skip
            (simp (maxSteps := 4000000) only [hz, g0, g64, w1, w2, w3, hbe, c1, c2, LZ, seval, reduceCtorEq, forall_const])
            refine ⟨(k, q <<< 1 ||| 1#64, (r <<< 1 ||| b) - n), hstep b _ _ hb (by rw [if_pos (tr b c2)]) (by rw [if_pos (tr b c2)]), Nat.lt_succ_self k, ?_⟩
            refine Weak.fr [] [] hx (by simp only [fr_length]) (by decide) ?_ ?_
            · simp only [LY, seval, reduceCtorEq, implies_true]
            · trivial
          · skip
            (simp (maxSteps := 4000000) only [hz, g0, g64, w1, w2, w3, hbe, c1, c2, LZ, seval, reduceCtorEq, forall_const])
            refine ⟨(k, q <<< 1, r <<< 1 ||| b), hstep b _ _ hb (by rw [if_neg (tn b c1 c2)]) (by rw [if_neg (tn b c1 c2)]), Nat.lt_succ_self k, ?_⟩
            refine Weak.fr [] [] hx (by simp only [fr_length]) (by decide) ?_ ?_
            · simp only [LY, seval, reduceCtorEq, implies_true]
            · trivial
      · have g64 : ((64 : Int) ≤ (k : Int)) = False := eq_false (by omega)
        have w3 := ofInt_sm k (by omega)
        have hb := bit_lo hi lo k (by omega)
        obtain ⟨b, hbe⟩ : ∃ b, (lo >>> k &&& 1#64) = b := ⟨_, rfl⟩
        rw [hbe] at hb
        rcases Classical.propComplete (r >>> 63 = 1#64) with c1 | c1
        · skip
          (simp (maxSteps := 4000000) only [hz, g0, g64, w1, w3, hbe, c1, LZ, seval, reduceCtorEq, forall_const])
          refine ⟨(k, q <<< 1 ||| 1#64, (r <<< 1 ||| b) - n), hstep b _ _ hb (by rw [if_pos (tl b c1)]) (by rw [if_pos (tl b c1)]), Nat.lt_succ_self k, ?_⟩
          refine Weak.fr [] [] hx (by simp only [fr_length]) (by decide) ?_ ?_
          · simp only [LY, seval, reduceCtorEq, implies_true]
          · trivial
        · rcases Classical.propComplete (n ≤ (r <<< 1 ||| b)) with c2 | c2
          · skip
            (simp (maxSteps := 4000000) only [hz, g0, g64, w1, w3, hbe, c1, c2, LZ, seval, reduceCtorEq, forall_const])
            refine ⟨(k, q <<< 1 ||| 1#64, (r <<< 1 ||| b) - n), hstep b _ _ hb (by rw [if_pos (tr b c2)]) (by rw [if_pos (tr b c2)]), Nat.lt_succ_self k, ?_⟩
            refine Weak.fr [] [] hx (by simp only [fr_length]) (by decide) ?_ ?_
            · simp only [LY, seval, reduceCtorEq, implies_true]
            · trivial
          · skip
            (simp (maxSteps := 4000000) only [hz, g0, g64, w1, w3, hbe, c1, c2, LZ, seval, reduceCtorEq, forall_const])
            refine ⟨(k, q <<< 1, r <<< 1 ||| b), hstep b _ _ hb (by rw [if_neg (tn b c1 c2)]) (by rw [if_neg (tn b c1 c2)]), Nat.lt_succ_self k, ?_⟩
            refine Weak.fr [] [] hx (by simp only [fr_length]) (by decide) ?_ ?_
            · simp only [LY, seval, reduceCtorEq, implies_true]
            · trivial

theorem rs_div (a b : BitVec 64) (hb : ¬ b = 0#64) : rsQ 0#64 a b = a / b ∧ rsR 0#64 a b = a % b := by
  have ha := a.isLt
  have e : T128 0#64 a = a.toNat := by simp [T128]
  refine ⟨BitVec.eq_of_toNat_eq ?_, BitVec.eq_of_toNat_eq ?_⟩
  · rw [rsQ, e, BitVec.toNat_ofNat, BitVec.toNat_udiv, Nat.mod_eq_of_lt (Nat.lt_of_le_of_lt (Nat.div_le_self _ _) ha)]
  · rw [rsR, e, BitVec.toNat_ofNat, BitVec.toNat_umod, Nat.mod_eq_of_lt (Nat.lt_of_le_of_lt (Nat.mod_le _ _) ha)]
theorem sz_zero (b : BitVec 64) (hb : ¬ b = 0#64) : ¬ szW b = 0#64 := by
  unfold szW
  split
  · exact fun h => hb (by have := congrArg (fun x => -x) h; simpa using this)
  · exact hb
theorem pos_w (b : BitVec 64) (h : ¬ b = 0#64) : 0 < b.toNat := Nat.pos_of_ne_zero fun e => h (BitVec.eq_of_toNat_eq (by simpa using e))
theorem runs_dv4 {M : Seat} (ok : OkX M) (a b : BitVec 64) : Runs M 227 [.int .i64 4, W a, W b] [] 0 (fun r H' k' => r = W (divd 4 a b) ∧ H' = [] ∧ k' = 0) := by
  refine runs_fr ok.k227 rfl fun x hx => ?_
  by_cases hb : b = 0#64
  · subst hb
    refine ex_sound 2000 _ _ _ _ ?_; (simp (maxSteps := 4000000) only [f227, c227, LZ, seval, reduceCtorEq, forall_const])
    refine RetS.mk hx [] [] _ _ _ (by decide) (by (simp only [LV, divd, LZ, seval, reduceCtorEq, forall_const])) (by ((try simp only [LV, divd, LZ, seval, reduceCtorEq, forall_const, LY, seval, reduceCtorEq, implies_true]); first | done | exact True.intro | (intros; rfl))) (by ((try simp only [divd, LY, seval, reduceCtorEq, implies_true]); first | done | exact True.intro | (intros; rfl))) ⟨rfl, rfl, rfl⟩
  · have r1 := runs_Rest ok 0#64 a b (pos_w b hb)
    rw [(rs_div a b hb).1, (rs_div a b hb).2] at r1
    have z0 : (b = 0#64) = False := eq_false hb
    generalize hF : divd 4 a b = F
    simp only [divd, hb, if_true, if_false, Nat.reduceEqDiff] at hF
    subst hF
    refine ex_sound 2000 _ _ _ _ ?_; (simp (maxSteps := 4000000) only [f227, c227, z0, LZ, seval, reduceCtorEq, forall_const])
    refine call_pZ (r1) ?_
    (simp (maxSteps := 4000000) only [tup2, LZ, seval, reduceCtorEq, forall_const])
    exact RetS.mkZ hx [] ⟨rfl, rfl, rfl⟩
theorem runs_dv6 {M : Seat} (ok : OkX M) (a b : BitVec 64) : Runs M 227 [.int .i64 6, W a, W b] [] 0 (fun r H' k' => r = W (divd 6 a b) ∧ H' = [] ∧ k' = 0) := by
  refine runs_fr ok.k227 rfl fun x hx => ?_
  by_cases hb : b = 0#64
  · subst hb
    refine ex_sound 2000 _ _ _ _ ?_; (simp (maxSteps := 4000000) only [f227, c227, LZ, seval, reduceCtorEq, forall_const])
    refine RetS.mk hx [] [] _ _ _ (by decide) (by (simp only [LV, divd, LZ, seval, reduceCtorEq, forall_const])) (by ((try simp only [LV, divd, LZ, seval, reduceCtorEq, forall_const, LY, seval, reduceCtorEq, implies_true]); first | done | exact True.intro | (intros; rfl))) (by ((try simp only [divd, LY, seval, reduceCtorEq, implies_true]); first | done | exact True.intro | (intros; rfl))) ⟨rfl, rfl, rfl⟩
  · have r1 := runs_Rest ok 0#64 a b (pos_w b hb)
    rw [(rs_div a b hb).1, (rs_div a b hb).2] at r1
    have z0 : (b = 0#64) = False := eq_false hb
    generalize hF : divd 6 a b = F
    simp only [divd, hb, if_true, if_false, Nat.reduceEqDiff] at hF
    subst hF
    refine ex_sound 2000 _ _ _ _ ?_; (simp (maxSteps := 4000000) only [f227, c227, z0, LZ, seval, reduceCtorEq, forall_const])
    refine call_pZ (r1) ?_
    (simp (maxSteps := 4000000) only [tup2, LZ, seval, reduceCtorEq, forall_const])
    exact RetS.mkZ hx [] ⟨rfl, rfl, rfl⟩
theorem runs_dv5 {M : Seat} (ok : OkX M) (a b : BitVec 64) : Runs M 227 [.int .i64 5, W a, W b] [] 0 (fun r H' k' => r = W (divd 5 a b) ∧ H' = [] ∧ k' = 0) := by
  refine runs_fr ok.k227 rfl fun x hx => ?_
  by_cases hb : b = 0#64
  · subst hb
    refine ex_sound 2000 _ _ _ _ ?_; (simp (maxSteps := 4000000) only [f227, c227, LZ, seval, reduceCtorEq, forall_const])
    refine RetS.mk hx [] [] _ _ _ (by decide) (by (simp only [LV, divd, LZ, seval, reduceCtorEq, forall_const])) (by ((try simp only [LV, divd, LZ, seval, reduceCtorEq, forall_const, LY, seval, reduceCtorEq, implies_true]); first | done | exact True.intro | (intros; rfl))) (by ((try simp only [divd, LY, seval, reduceCtorEq, implies_true]); first | done | exact True.intro | (intros; rfl))) ⟨rfl, rfl, rfl⟩
  · have r2 := runs_Rest ok 0#64 (szW a) (szW b) (pos_w _ (sz_zero b hb))
    rw [(rs_div _ _ (sz_zero b hb)).1, (rs_div _ _ (sz_zero b hb)).2] at r2
    have s1 := runs_size ok a
    have s2 := runs_size ok b
    have n1 := runs_negative ok a
    have n2 := runs_negative ok b
    have e1 : (szW a) = if a.toInt < 0 then -a else a := rfl
    have e2 : (szW b) = if b.toInt < 0 then -b else b := rfl
    generalize hF : divd 5 a b = F
    have z0 : (b = 0#64) = False := eq_false hb
    rcases Classical.propComplete (a.toInt < 0) with h1 | h1 <;> rcases Classical.propComplete (b.toInt < 0) with h2 | h2
    all_goals
      simp only [h1, h2, if_true, if_false] at e1 e2
      simp only [divd, hb, h1, h2, if_true, if_false, iff_self, iff_true, iff_false, true_iff, false_iff, not_true_eq_false, not_false_eq_true, Nat.reduceEqDiff] at hF
      simp only [e1, e2] at s1 s2 r2
      simp only [h1, h2, decide_true, decide_false] at n1 n2
      try rw [← BitVec.zero_sub] at hF
      subst hF
      refine ex_sound 2000 _ _ _ _ ?_; (simp (maxSteps := 4000000) only [f227, c227, z0, LZ, seval, reduceCtorEq, forall_const])
      refine call_pZ (s1) ?_
      (simp (maxSteps := 4000000) only [LZ, seval, reduceCtorEq, forall_const])
      refine call_pZ (s2) ?_
      (simp (maxSteps := 4000000) only [LZ, seval, reduceCtorEq, forall_const])
      refine call_pZ (r2) ?_
      (simp (maxSteps := 4000000) only [tup2, LZ, seval, reduceCtorEq, forall_const])
      try (refine call_pZ (n1) ?_)
      (simp (maxSteps := 4000000) only [LZ, seval, reduceCtorEq, forall_const])
      try (refine call_pZ (n2) ?_)
      try (simp (maxSteps := 4000000) only [LZ, seval, reduceCtorEq, forall_const])
      exact RetS.mkZ hx [] ⟨rfl, rfl, rfl⟩
theorem runs_dv7 {M : Seat} (ok : OkX M) (a b : BitVec 64) : Runs M 227 [.int .i64 7, W a, W b] [] 0 (fun r H' k' => r = W (divd 7 a b) ∧ H' = [] ∧ k' = 0) := by
  refine runs_fr ok.k227 rfl fun x hx => ?_
  by_cases hb : b = 0#64
  · subst hb
    refine ex_sound 2000 _ _ _ _ ?_; (simp (maxSteps := 4000000) only [f227, c227, LZ, seval, reduceCtorEq, forall_const])
    refine RetS.mk hx [] [] _ _ _ (by decide) (by (simp only [LV, divd, LZ, seval, reduceCtorEq, forall_const])) (by ((try simp only [LV, divd, LZ, seval, reduceCtorEq, forall_const, LY, seval, reduceCtorEq, implies_true]); first | done | exact True.intro | (intros; rfl))) (by ((try simp only [divd, LY, seval, reduceCtorEq, implies_true]); first | done | exact True.intro | (intros; rfl))) ⟨rfl, rfl, rfl⟩
  · have r2 := runs_Rest ok 0#64 (szW a) (szW b) (pos_w _ (sz_zero b hb))
    rw [(rs_div _ _ (sz_zero b hb)).1, (rs_div _ _ (sz_zero b hb)).2] at r2
    have s1 := runs_size ok a
    have s2 := runs_size ok b
    have n1 := runs_negative ok a
    have n2 := runs_negative ok b
    have e1 : (szW a) = if a.toInt < 0 then -a else a := rfl
    have e2 : (szW b) = if b.toInt < 0 then -b else b := rfl
    generalize hF : divd 7 a b = F
    have z0 : (b = 0#64) = False := eq_false hb
    rcases Classical.propComplete (a.toInt < 0) with h1 | h1 <;> rcases Classical.propComplete (b.toInt < 0) with h2 | h2
    all_goals
      simp only [h1, h2, if_true, if_false] at e1 e2
      simp only [divd, hb, h1, h2, if_true, if_false, iff_self, iff_true, iff_false, true_iff, false_iff, not_true_eq_false, not_false_eq_true, Nat.reduceEqDiff] at hF
      simp only [e1, e2] at s1 s2 r2
      simp only [h1, h2, decide_true, decide_false] at n1 n2
      try rw [← BitVec.zero_sub] at hF
      subst hF
      refine ex_sound 2000 _ _ _ _ ?_; (simp (maxSteps := 4000000) only [f227, c227, z0, LZ, seval, reduceCtorEq, forall_const])
      refine call_pZ (s1) ?_
      (simp (maxSteps := 4000000) only [LZ, seval, reduceCtorEq, forall_const])
      refine call_pZ (s2) ?_
      (simp (maxSteps := 4000000) only [LZ, seval, reduceCtorEq, forall_const])
      refine call_pZ (r2) ?_
      (simp (maxSteps := 4000000) only [tup2, LZ, seval, reduceCtorEq, forall_const])
      try (refine call_pZ (n1) ?_)
      (simp (maxSteps := 4000000) only [LZ, seval, reduceCtorEq, forall_const])
      try (refine call_pZ (n2) ?_)
      try (simp (maxSteps := 4000000) only [LZ, seval, reduceCtorEq, forall_const])
      exact RetS.mkZ hx [] ⟨rfl, rfl, rfl⟩
end Mv
