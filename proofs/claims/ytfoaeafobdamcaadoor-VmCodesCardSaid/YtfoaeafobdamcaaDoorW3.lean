/- The machine: parts of an instruction; stop; steps, by what the instruction is. -/
import Derived.Test.YtfoaeafobdamcaaDoorT
import Derived.Test.YtfoaeafobdamcaaDoorW1
import Derived.Test.YtfoaeafobdamcaaDoorW2
import Derived.Test.YtfoaeafobdamcaaDoorDh
set_option linter.unusedSimpArgs false
set_option linter.unusedVariables false
namespace Mv
open Go
/-- moot/mootlaw10.loadedOf -/
def c67 : LC := (.seq (.reg [A1 2 (.mv (.c .nilp))])
 ((.seq (.reg [A1 6 (.mv (.t 0)),
  ⟨(some 7), .call 75 [(.t 6)], none⟩,
  ⟨(some 8), .call 74 [(.t 7)], none⟩,
  A1 5 (.mv (.t 8)),
  A1 9 (.ext (.t 5) 0),
  A1 10 (.ext (.t 5) 1),
  A1 3 (.mv (.t 9)),
  A1 4 (.mv (.t 10))])
 ((.seq ((.seq (.reg [A1 11 (.mv (.t 4)),
  A1 12 (.eq true true (.iface [74]) (.t 11) (.c .nili))])
 (.cond (.t 12) ((.seq (.reg [A1 2 (.mv (.c .nilp))])
 (.ret))) (.skip))))
 ((.seq (.reg [A1 13 (.mv (.t 3)),
  A1 2 (.mv (.t 13))])
 (.ret))))))))
def f67 : LF := ⟨c67, 1, 0, 14, [.tmp 2]⟩

/-- moot/mootlaw10.fixed -/
def c69 : LC := (.seq (.reg [A1 0 (.mv (.c (.bool false)))])
 ((.seq (.reg [A1 1 (.mv (.c .nils))])
 ((.seq ((.seq (.reg [A1 9 (.build (.ar 6 (.int .i64)) [(.i 1 0, 1, (.c (.int .i64 26))), (.i 1 1, 1, (.c (.int .i64 1))), (.i 1 2, 1, (.c (.int .i64 0))), (.i 1 3, 1, (.c (.int .i64 0))), (.i 1 4, 1, (.c (.int .i64 0))), (.i 1 5, 1, (.c (.int .i64 5)))]),
  A1 10 (.build (.ar 6 (.int .i64)) [(.i 1 0, 1, (.c (.int .i64 26))), (.i 1 1, 1, (.c (.int .i64 2))), (.i 1 2, 1, (.c (.int .i64 0))), (.i 1 3, 1, (.c (.int .i64 0))), (.i 1 4, 1, (.c (.int .i64 0))), (.i 1 5, 1, (.c (.int .i64 (-3))))]),
  A1 11 (.build (.ar 6 (.int .i64)) [(.i 1 0, 1, (.c (.int .i64 1))), (.i 1 1, 1, (.c (.int .i64 3))), (.i 1 2, 1, (.c (.int .i64 1))), (.i 1 3, 1, (.c (.int .i64 2))), (.i 1 4, 1, (.c (.int .i64 0))), (.i 1 5, 1, (.c (.int .i64 0)))]),
  A1 12 (.build (.ar 6 (.int .i64)) [(.i 1 0, 1, (.c (.int .i64 0))), (.i 1 1, 1, (.c (.int .i64 0))), (.i 1 2, 1, (.c (.int .i64 3))), (.i 1 3, 1, (.c (.int .i64 0))), (.i 1 4, 1, (.c (.int .i64 0))), (.i 1 5, 1, (.c (.int .i64 0)))]),
  A1 13 (.bsl 6 4 (.ar 6 (.int .i64)) [(.i 6 0, 6, (.t 9)), (.i 6 1, 6, (.t 10)), (.i 6 2, 6, (.t 11)), (.i 6 3, 6, (.t 12))]),
  A1 14 (.len 0 (.t 13)),
  A1 15 (.mv (.c (.int .i64 0)))])
 (.block 0 (.loop ((.seq (.reg [A1 16 (.ari .lss (.t 15) (.t 14))])
 ((.seq (.cond (.t 16) (.skip) (.exit 0))
 ((.seq (.block 1 ((.seq (.reg [A1 17 (.isl 6 (.t 13) (.t 15)),
  A1 18 (.load true 6 (.t 17)),
  A1 3 (.alloc (.ar 6 (.int .i64))),
  A0 (.store 6 (.t 3) (.t 18))])
 ((.seq (.reg [A1 20 (.iarr 6 1 (.t 3) (.c (.int .i64 0))),
  A1 21 (.load false 1 (.t 20)),
  A1 22 (.iarr 6 1 (.t 3) (.c (.int .i64 1))),
  A1 23 (.load false 1 (.t 22)),
  A1 24 (.iarr 6 1 (.t 3) (.c (.int .i64 2))),
  A1 25 (.load false 1 (.t 24)),
  A1 26 (.iarr 6 1 (.t 3) (.c (.int .i64 3))),
  A1 27 (.load false 1 (.t 26)),
  A1 28 (.iarr 6 1 (.t 3) (.c (.int .i64 4))),
  A1 29 (.load false 1 (.t 28)),
  A1 30 (.iarr 6 1 (.t 3) (.c (.int .i64 5))),
  A1 31 (.load false 1 (.t 30)),
  ⟨(some 32), .call 76 [(.t 21), (.t 23), (.t 25), (.t 27), (.t 29), (.t 31)], none⟩,
  A1 19 (.mv (.t 32)),
  A1 33 (.ext (.t 19) 0),
  A1 34 (.ext (.t 19) 1),
  A1 4 (.mv (.t 33)),
  A1 5 (.mv (.t 34))])
 ((.seq ((.seq (.reg [A1 35 (.mv (.t 5)),
  A1 36 (.eq true true (.iface [74]) (.t 35) (.c .nili))])
 (.cond (.t 36) ((.seq (.reg [A1 0 (.mv (.c (.bool false)))])
 (.ret))) (.skip))))
 (.reg [A1 37 (.mv (.t 1)),
  A1 38 (.mv (.t 4)),
  A1 39 (.bsl 1 1 (.int .u64) [(.i 1 0, 1, (.t 38))]),
  A1 40 (.app 1 8 (.t 37) (.t 39)),
  A1 1 (.mv (.t 40))]))))))))
 (.reg [A1 41 (.ari .add (.t 15) (.c (.int .i64 1))),
  A1 15 (.mv (.t 41))])))))))))))
 ((.seq (.reg [A1 43 (.mv (.t 1)),
  ⟨(some 44), .call 74 [(.t 43)], none⟩,
  A1 42 (.mv (.t 44)),
  A1 45 (.ext (.t 42) 0),
  A1 46 (.ext (.t 42) 1),
  A1 6 (.mv (.t 45)),
  A1 7 (.mv (.t 46))])
 ((.seq ((.seq (.reg [A1 47 (.mv (.t 7)),
  A1 48 (.eq true true (.iface [74]) (.t 47) (.c .nili)),
  A1 49 (.mv (.t 48)),
  A2 50 49 false (.mv (.t 6)),
  A2 51 49 false (.eq false true .ptr (.t 50) (.c .nilp)),
  A1 52 (.pick (.t 49) (.c (.bool true)) (.t 51))])
 (.cond (.t 52) ((.seq (.reg [A1 0 (.mv (.c (.bool false)))])
 (.ret))) (.skip))))
 ((.seq (.reg [A1 54 (.mv (.t 6)),
  ⟨(some 55), .call 68 [], none⟩,
  ⟨(some 56), .call 71 [(.t 54), (.t 55), (.c (.int .i64 99))], none⟩,
  A1 53 (.mv (.t 56)),
  A1 57 (.ext (.t 53) 0),
  A1 58 (.ext (.t 53) 1),
  A1 8 (.mv (.t 57)),
  A1 7 (.mv (.t 58))])
 ((.seq (.reg [A1 59 (.mv (.t 7)),
  A1 60 (.eq false true (.iface [74]) (.t 59) (.c .nili)),
  A1 61 (.mv (.t 60)),
  A2 62 61 true (.mv (.t 8)),
  A2 63 61 true (.ari .eql (.t 62) (.c (.int .i64 4))),
  A1 64 (.pick (.t 61) (.t 63) (.c (.bool false))),
  A1 65 (.mv (.t 64)),
  A2 66 65 true (.mv (.t 6)),
  A2 67 65 true (.nilc (.t 66)),
  A2 68 65 true (.fadr 8209 (.t 67)),
  A2 69 65 true (.load false 1 (.t 68)),
  A1 70 (.pick (.t 65) (.t 69) (.c (.bool false))),
  A1 71 (.mv (.t 70)),
  A2 72 71 true (.mv (.t 6)),
  A2 73 71 true (.nilc (.t 72)),
  A2 74 71 true (.fadr 8210 (.t 73)),
  A2 75 71 true (.load false 1 (.t 74)),
  A2 76 71 true (.ari .eql (.t 75) (.c (.int .u64 2))),
  A1 77 (.pick (.t 71) (.t 76) (.c (.bool false))),
  A1 78 (.mv (.t 77)),
  A1 79 (.pick (.t 78) (.c (.bool true)) (.c (.bool false))),
  A1 80 (.mv (.t 79)),
  A1 81 (.pick (.t 80) (.c (.bool true)) (.c (.bool false))),
  A1 82 (.mv (.t 81)),
  A1 83 (.pick (.t 82) (.c (.bool true)) (.c (.bool false))),
  A1 0 (.mv (.t 83))])
 (.ret))))))))))))))
def f69 : LF := ⟨c69, 0, 0, 84, [.tmp 0]⟩

/-- (*moot/vm.Machine).Step -/
def c70 : LC := (.seq (.reg [A1 4 (.mv (.c .nili))])
 ((.seq ((.seq (.reg [A1 14 (.mv (.t 0)),
  A1 15 (.eq false true .ptr (.t 14) (.c .nilp)),
  A1 16 (.mv (.t 15)),
  A2 17 16 false (.mv (.t 1)),
  A2 18 16 false (.eq false true .ptr (.t 17) (.c .nilp)),
  A1 19 (.pick (.t 16) (.c (.bool true)) (.t 18))])
 (.cond (.t 19) ((.seq (.reg [A1 20 (.mkif 74 (.c (.int .i64 1))),
  A1 4 (.mv (.t 20))])
 (.ret))) (.skip))))
 ((.seq ((.seq (.reg [A1 21 (.mv (.t 0)),
  A1 22 (.nilc (.t 21)),
  A1 23 (.fadr 8209 (.t 22)),
  A1 24 (.load false 1 (.t 23))])
 (.cond (.t 24) ((.seq (.reg [A1 4 (.mv (.c .nili))])
 (.ret))) (.skip))))
 ((.seq ((.seq (.reg [A1 25 (.mv (.t 0)),
  A1 26 (.nilc (.t 25)),
  A1 27 (.fadr 8208 (.t 26)),
  A1 28 (.load false 1 (.t 27)),
  A1 29 (.ari .geq (.t 28) (.c (.int .u64 8192)))])
 (.cond (.t 29) ((.seq (.reg [A1 30 (.mv (.t 0)),
  ⟨(some 31), .call 214 [(.t 30), (.c (.int .u64 18446744073709551614))], none⟩])
 ((.seq (.reg [A1 4 (.mv (.c .nili))])
 (.ret))))) (.skip))))
 ((.seq (.regd [⟨0, 0, A1 33 (.mv (.t 0))⟩,
  ⟨1, 0, A1 34 (.mv (.t 0))⟩,
  ⟨2, 2, A1 35 (.nilc (.t 34))⟩,
  ⟨3, 6, A1 36 (.fadr 8208 (.t 35))⟩,
  ⟨4, 14, A1 37 (.load false 1 (.t 36))⟩,
  ⟨5, 1, A1 38 (.nilc (.t 33))⟩,
  ⟨6, 33, A1 39 (.fadr 0 (.t 38))⟩,
  ⟨7, 127, A1 40 (.iarr 8192 1 (.t 39) (.t 37))⟩,
  ⟨8, 255, A1 41 (.load false 1 (.t 40))⟩,
  ⟨9, 511, ⟨(some 42), .call 79 [(.t 41)], none⟩⟩,
  ⟨10, 1023, A1 32 (.mv (.t 42))⟩,
  ⟨11, 2047, A1 43 (.ext (.t 32) 0)⟩,
  ⟨12, 2047, A1 44 (.ext (.t 32) 1)⟩,
  ⟨13, 2047, A1 45 (.ext (.t 32) 2)⟩,
  ⟨14, 2047, A1 46 (.ext (.t 32) 3)⟩,
  ⟨15, 2047, A1 47 (.ext (.t 32) 4)⟩,
  ⟨16, 2047, A1 48 (.ext (.t 32) 5)⟩,
  ⟨17, 2047, A1 49 (.ext (.t 32) 6)⟩,
  ⟨18, 4095, A1 5 (.mv (.t 43))⟩,
  ⟨19, 270335, A1 6 (.mv (.t 44))⟩,
  ⟨20, 802815, A1 7 (.mv (.t 45))⟩,
  ⟨21, 1867775, A1 8 (.mv (.t 46))⟩,
  ⟨22, 3997695, A1 9 (.mv (.t 47))⟩,
  ⟨23, 8257535, A1 10 (.mv (.t 48))⟩,
  ⟨24, 16777215, A1 11 (.mv (.t 49))⟩])
 ((.seq ((.seq (.reg [A1 50 (.mv (.t 11)),
  A1 51 (.un .not (.t 50))])
 (.cond (.t 51) ((.seq (.reg [A1 52 (.mv (.t 0)),
  ⟨(some 53), .call 214 [(.t 52), (.c (.int .u64 18446744073709551614))], none⟩])
 ((.seq (.reg [A1 4 (.mv (.c .nili))])
 (.ret))))) (.skip))))
 ((.seq (.reg [A1 54 (.mv (.t 0)),
  A1 55 (.nilc (.t 54)),
  A1 56 (.fadr 8192 (.t 55)),
  A1 12 (.mv (.t 56))])
 ((.seq (.reg [A1 57 (.mv (.t 12)),
  A1 58 (.mv (.t 7)),
  A1 59 (.nilc (.t 57)),
  A1 60 (.iarr 16 1 (.t 59) (.t 58)),
  A1 61 (.load false 1 (.t 60)),
  A1 62 (.mv (.t 10)),
  A1 63 (.conv .u64 (.t 62)),
  A1 64 (.ari .add (.t 61) (.t 63)),
  A1 13 (.mv (.t 64))])
 ((.seq (.block 0 ((.seq (.reg [A1 66 (.mv (.t 5)),
  A1 67 (.ari .eql (.t 66) (.c (.int .i64 0))),
  A1 65 (.mv (.t 67))])
 (.cond (.t 65) ((.seq (.reg [A1 68 (.mv (.t 0)),
  A1 69 (.mv (.t 12)),
  A1 70 (.mv (.t 7)),
  A1 71 (.nilc (.t 69)),
  A1 72 (.iarr 16 1 (.t 71) (.t 70)),
  A1 73 (.load false 1 (.t 72)),
  ⟨(some 74), .call 214 [(.t 68), (.t 73)], none⟩])
 ((.seq (.reg [A1 4 (.mv (.c .nili))])
 (.ret))))) ((.seq (.reg [A1 76 (.mv (.t 5)),
  A1 77 (.ari .lss (.t 76) (.c (.int .i64 26))),
  A1 75 (.mv (.t 77))])
 (.cond (.t 75) (.regd [⟨2, 0, A1 81 (.mv (.t 5))⟩,
  ⟨3, 0, A1 82 (.mv (.t 12))⟩,
  ⟨4, 0, A1 83 (.mv (.t 7))⟩,
  ⟨5, 2, A1 84 (.nilc (.t 82))⟩,
  ⟨6, 14, A1 85 (.iarr 16 1 (.t 84) (.t 83))⟩,
  ⟨7, 30, A1 86 (.load false 1 (.t 85))⟩,
  ⟨8, 0, A1 87 (.mv (.t 12))⟩,
  ⟨9, 0, A1 88 (.mv (.t 8))⟩,
  ⟨10, 64, A1 89 (.nilc (.t 87))⟩,
  ⟨11, 448, A1 90 (.iarr 16 1 (.t 89) (.t 88))⟩,
  ⟨12, 960, A1 91 (.load false 1 (.t 90))⟩,
  ⟨13, 0, A1 92 (.mv (.t 12))⟩,
  ⟨14, 0, A1 93 (.mv (.t 9))⟩,
  ⟨15, 2048, A1 94 (.nilc (.t 92))⟩,
  ⟨16, 14336, A1 95 (.iarr 16 1 (.t 94) (.t 93))⟩,
  ⟨17, 30720, A1 96 (.load false 1 (.t 95))⟩,
  ⟨18, 65535, ⟨(some 97), .call 215 [(.t 81), (.t 86), (.t 91), (.t 96)], none⟩⟩,
  ⟨0, 0, A1 79 (.mv (.t 12))⟩,
  ⟨1, 0, A1 80 (.mv (.t 6))⟩,
  ⟨19, 131071, A1 78 (.mv (.t 97))⟩,
  ⟨20, 655359, A1 98 (.ext (.t 78) 0)⟩,
  ⟨22, 131072, A1 100 (.nilc (.t 79))⟩,
  ⟨23, 4194303, A1 101 (.iarr 16 1 (.t 100) (.t 80))⟩,
  ⟨24, 8388607, A0 (.store 1 (.t 101) (.t 98))⟩,
  ⟨21, 655359, A1 99 (.ext (.t 78) 1)⟩]) ((.seq (.reg [A1 103 (.mv (.t 5)),
  A1 104 (.ari .eql (.t 103) (.c (.int .i64 26))),
  A1 102 (.mv (.t 104))])
 (.cond (.t 102) (.reg [A1 105 (.mv (.t 12)),
  A1 106 (.mv (.t 6)),
  A1 107 (.mv (.t 10)),
  A1 108 (.conv .u64 (.t 107)),
  A1 109 (.nilc (.t 105)),
  A1 110 (.iarr 16 1 (.t 109) (.t 106)),
  A0 (.store 1 (.t 110) (.t 108))]) ((.seq (.reg [A1 112 (.mv (.t 5)),
  A1 113 (.ari .eql (.t 112) (.c (.int .i64 27))),
  A1 114 (.mv (.t 113)),
  A2 115 114 false (.mv (.t 5)),
  A2 116 114 false (.ari .eql (.t 115) (.c (.int .i64 28))),
  A1 117 (.pick (.t 114) (.c (.bool true)) (.t 116)),
  A1 111 (.mv (.t 117))])
 (.cond (.t 111) ((.seq ((.seq (.reg [A1 118 (.mv (.t 13)),
  A1 119 (.ari .geq (.t 118) (.c (.int .u64 8192)))])
 (.cond (.t 119) ((.seq (.reg [A1 120 (.mv (.t 0)),
  ⟨(some 121), .call 214 [(.t 120), (.c (.int .u64 18446744073709551614))], none⟩])
 ((.seq (.reg [A1 4 (.mv (.c .nili))])
 (.ret))))) (.skip))))
 ((.seq (.reg [A1 122 (.mv (.t 5)),
  A1 123 (.ari .eql (.t 122) (.c (.int .i64 27)))])
 (.cond (.t 123) (.regd [⟨0, 0, A1 124 (.mv (.t 12))⟩,
  ⟨1, 0, A1 125 (.mv (.t 6))⟩,
  ⟨2, 0, A1 126 (.mv (.t 0))⟩,
  ⟨3, 0, A1 127 (.mv (.t 13))⟩,
  ⟨4, 4, A1 128 (.nilc (.t 126))⟩,
  ⟨5, 20, A1 129 (.fadr 0 (.t 128))⟩,
  ⟨6, 60, A1 130 (.iarr 8192 1 (.t 129) (.t 127))⟩,
  ⟨7, 124, A1 131 (.load false 1 (.t 130))⟩,
  ⟨8, 1, A1 132 (.nilc (.t 124))⟩,
  ⟨9, 511, A1 133 (.iarr 16 1 (.t 132) (.t 125))⟩,
  ⟨10, 1023, A0 (.store 1 (.t 133) (.t 131))⟩]) (.regd [⟨0, 0, A1 134 (.mv (.t 0))⟩,
  ⟨1, 0, A1 135 (.mv (.t 13))⟩,
  ⟨2, 0, A1 136 (.mv (.t 12))⟩,
  ⟨3, 0, A1 137 (.mv (.t 8))⟩,
  ⟨4, 4, A1 138 (.nilc (.t 136))⟩,
  ⟨5, 28, A1 139 (.iarr 16 1 (.t 138) (.t 137))⟩,
  ⟨6, 60, A1 140 (.load false 1 (.t 139))⟩,
  ⟨7, 1, A1 141 (.nilc (.t 134))⟩,
  ⟨8, 129, A1 142 (.fadr 0 (.t 141))⟩,
  ⟨9, 511, A1 143 (.iarr 8192 1 (.t 142) (.t 135))⟩,
  ⟨10, 1023, A0 (.store 1 (.t 143) (.t 140))⟩])))))) ((.seq (.reg [A1 145 (.mv (.t 5)),
  A1 146 (.ari .lss (.t 145) (.c (.int .i64 34))),
  A1 144 (.mv (.t 146))])
 (.cond (.t 144) ((.seq (.reg [A1 147 (.mv (.t 0)),
  A1 148 (.mv (.t 5)),
  A1 149 (.mv (.t 6)),
  A1 150 (.mv (.t 7)),
  A1 151 (.mv (.t 10)),
  A1 152 (.conv .u64 (.t 151)),
  ⟨(some 153), .call 216 [(.t 147), (.t 148), (.t 149), (.t 150), (.t 152)], none⟩])
 ((.seq (.reg [A1 4 (.mv (.c .nili))])
 (.ret))))) ((.seq (.regd [⟨0, 0, A1 155 (.mv (.t 0))⟩,
  ⟨1, 0, A1 156 (.mv (.t 1))⟩,
  ⟨2, 0, A1 157 (.mv (.t 5))⟩,
  ⟨3, 0, A1 158 (.mv (.t 12))⟩,
  ⟨4, 0, A1 159 (.mv (.t 7))⟩,
  ⟨5, 8, A1 160 (.nilc (.t 158))⟩,
  ⟨6, 56, A1 161 (.iarr 16 1 (.t 160) (.t 159))⟩,
  ⟨7, 120, A1 162 (.load false 1 (.t 161))⟩,
  ⟨8, 0, A1 163 (.mv (.t 12))⟩,
  ⟨9, 0, A1 164 (.mv (.t 8))⟩,
  ⟨10, 256, A1 165 (.nilc (.t 163))⟩,
  ⟨11, 1792, A1 166 (.iarr 16 1 (.t 165) (.t 164))⟩,
  ⟨12, 3840, A1 167 (.load false 1 (.t 166))⟩,
  ⟨13, 8191, ⟨(some 168), .call 217 [(.t 155), (.t 156), (.t 157), (.t 162), (.t 167)], none⟩⟩,
  ⟨14, 16383, A1 169 (.un .not (.t 168))⟩,
  ⟨15, 32767, A1 154 (.mv (.t 169))⟩])
 (.cond (.t 154) ((.seq (.reg [A1 4 (.mv (.c .nili))])
 (.ret))) (.skip))))))))))))))))))))
 ((.seq (.reg [A1 170 (.mv (.t 0)),
  A1 171 (.nilc (.t 170)),
  A1 172 (.fadr 8208 (.t 171)),
  A1 173 (.load false 1 (.t 172)),
  A1 174 (.ari .add (.t 173) (.c (.int .u64 1))),
  A1 175 (.nilc (.t 170)),
  A1 176 (.fadr 8208 (.t 175)),
  A0 (.store 1 (.t 176) (.t 174))])
 ((.seq (.reg [A1 4 (.mv (.c .nili))])
 (.ret))))))))))))))))))))))
def f70 : LF := ⟨c70, 2, 0, 177, [.tmp 4]⟩

/-- (*moot/vm.Machine).Run -/
def c71 : LC := (.seq (.reg [A1 6 (.mv (.c (.int .i64 0))),
  A1 7 (.mv (.c .nili))])
 ((.seq (.block 0 ((.seq (.reg [A1 10 (.mv (.t 0)),
  A1 11 (.eq false true .ptr (.t 10) (.c .nilp)),
  A1 12 (.mv (.t 11)),
  A2 13 12 false (.mv (.t 1)),
  A2 14 12 false (.eq false true .ptr (.t 13) (.c .nilp)),
  A1 15 (.pick (.t 12) (.c (.bool true)) (.t 14)),
  A1 9 (.mv (.t 15))])
 (.cond (.t 9) ((.seq (.reg [A1 16 (.mkif 74 (.c (.int .i64 1))),
  A1 6 (.mv (.c (.int .i64 0))),
  A1 7 (.mv (.t 16))])
 (.ret))) ((.seq (.reg [A1 18 (.mv (.t 2)),
  A1 19 (.ari .lss (.t 18) (.c (.int .i64 0))),
  A1 17 (.mv (.t 19))])
 (.cond (.t 17) ((.seq (.reg [A1 20 (.mkif 74 (.c (.int .i64 2))),
  A1 6 (.mv (.c (.int .i64 0))),
  A1 7 (.mv (.t 20))])
 (.ret))) (.skip))))))))
 ((.seq (.reg [A1 8 (.mv (.c (.int .i64 0)))])
 ((.seq (.block 1 (.loop ((.seq ((.seq (.reg [A1 21 (.mv (.t 8)),
  A1 22 (.mv (.t 2)),
  A1 23 (.ari .lss (.t 21) (.t 22)),
  A1 24 (.mv (.t 23)),
  A2 25 24 true (.mv (.t 0)),
  A2 26 24 true (.nilc (.t 25)),
  A2 27 24 true (.fadr 8209 (.t 26)),
  A2 28 24 true (.load false 1 (.t 27)),
  A2 29 24 true (.un .not (.t 28)),
  A1 30 (.pick (.t 24) (.t 29) (.c (.bool false)))])
 (.cond (.t 30) (.skip) (.exit 1))))
 (.block 2 ((.seq (.reg [A1 31 (.mv (.t 0)),
  A1 32 (.mv (.t 1)),
  ⟨(some 33), .call 70 [(.t 31), (.t 32)], none⟩])
 (.reg [A1 34 (.mv (.t 8)),
  A1 35 (.ari .add (.t 34) (.c (.int .i64 1))),
  A1 8 (.mv (.t 35))]))))))))
 ((.seq (.reg [A1 36 (.mv (.t 8)),
  A1 6 (.mv (.t 36)),
  A1 7 (.mv (.c .nili))])
 (.ret))))))))))
def f71 : LF := ⟨c71, 3, 0, 37, [.tmp 6, .tmp 7]⟩

/-- moot/mootlaw10.Words -/
def c75 : LC := (.seq (.reg [A1 2 (.mv (.c .nils))])
 ((.seq (.reg [A1 3 (.mv (.c .nils))])
 ((.seq ((.seq (.reg [A1 8 (.mv (.t 0)),
  A1 9 (.len 0 (.t 8)),
  A1 10 (.mv (.c (.int .i64 0)))])
 (.block 0 (.loop ((.seq (.reg [A1 11 (.ari .lss (.t 10) (.t 9))])
 ((.seq (.cond (.t 11) (.skip) (.exit 0))
 ((.seq (.block 1 ((.seq (.reg [A1 12 (.mv (.t 10)),
  A1 13 (.isl 7 (.t 8) (.t 10)),
  A1 14 (.load true 7 (.t 13)),
  A1 5 (.alloc (.st (.cons (.int .i64) (.cons (.int .i64) (.cons (.int .i64) (.cons (.int .i64) (.cons (.int .i64) (.cons (.int .i64) (.cons (.int .u64) .nil))))))))),
  A1 4 (.mv (.t 12)),
  A0 (.store 7 (.t 5) (.t 14))])
 ((.seq ((.seq (.reg [A1 15 (.mv (.t 4)),
  A1 16 (.ari .geq (.t 15) (.c (.int .i64 8192)))])
 (.cond (.t 16) (.exit 0) (.skip))))
 ((.seq (.reg [A1 18 (.fadr 0 (.t 5)),
  A1 19 (.load false 1 (.t 18)),
  A1 20 (.fadr 1 (.t 5)),
  A1 21 (.load false 1 (.t 20)),
  A1 22 (.conv .u64 (.t 21)),
  A1 23 (.ari .rem (.t 22) (.c (.int .u64 16))),
  A1 24 (.conv .i64 (.t 23)),
  A1 25 (.fadr 2 (.t 5)),
  A1 26 (.load false 1 (.t 25)),
  A1 27 (.conv .u64 (.t 26)),
  A1 28 (.ari .rem (.t 27) (.c (.int .u64 16))),
  A1 29 (.conv .i64 (.t 28)),
  A1 30 (.fadr 3 (.t 5)),
  A1 31 (.load false 1 (.t 30)),
  A1 32 (.conv .u64 (.t 31)),
  A1 33 (.ari .rem (.t 32) (.c (.int .u64 16))),
  A1 34 (.conv .i64 (.t 33)),
  A1 35 (.fadr 4 (.t 5)),
  A1 36 (.load false 1 (.t 35)),
  A1 37 (.conv .u64 (.t 36)),
  A1 38 (.ari .rem (.t 37) (.c (.int .u64 16))),
  A1 39 (.conv .i64 (.t 38)),
  A1 40 (.fadr 5 (.t 5)),
  A1 41 (.load false 1 (.t 40)),
  ⟨(some 42), .call 77 [(.t 19), (.t 24), (.t 29), (.t 34), (.t 39), (.t 41)], none⟩,
  A1 17 (.mv (.t 42)),
  A1 43 (.ext (.t 17) 0),
  A1 44 (.ext (.t 17) 1),
  A1 6 (.mv (.t 43)),
  A1 7 (.mv (.t 44))])
 ((.seq ((.seq (.reg [A1 45 (.mv (.t 7)),
  A1 46 (.ari .neq (.t 45) (.c (.int .i64 0)))])
 (.cond (.t 46) (.reg [A1 47 (.fadr 6 (.t 5)),
  A1 48 (.load false 1 (.t 47)),
  A1 6 (.mv (.t 48))]) (.skip))))
 (.reg [A1 49 (.mv (.t 3)),
  A1 50 (.mv (.t 6)),
  A1 51 (.bsl 1 1 (.int .u64) [(.i 1 0, 1, (.t 50))]),
  A1 52 (.app 1 8 (.t 49) (.t 51)),
  A1 3 (.mv (.t 52))]))))))))))
 (.reg [A1 53 (.ari .add (.t 10) (.c (.int .i64 1))),
  A1 10 (.mv (.t 53))])))))))))))
 ((.seq (.reg [A1 54 (.mv (.t 3)),
  A1 2 (.mv (.t 54))])
 (.ret))))))))
def f75 : LF := ⟨c75, 1, 0, 55, [.tmp 2]⟩

/-- moot/vm.Code -/
def c76 : LC := (.seq (.reg [A1 12 (.mv (.c (.int .u64 0))),
  A1 13 (.mv (.c .nili))])
 ((.seq ((.seq (.reg [A1 17 (.mv (.t 0)),
  A1 18 (.ari .lss (.t 17) (.c (.int .i64 0))),
  A1 19 (.mv (.t 18)),
  A2 20 19 false (.mv (.t 0)),
  A2 21 19 false (.ari .gtr (.t 20) (.c (.int .i64 35))),
  A1 22 (.pick (.t 19) (.c (.bool true)) (.t 21)),
  A1 23 (.mv (.t 22)),
  A2 24 23 false (.mv (.t 5)),
  A2 25 23 false (.mv (.t 5)),
  A2 26 23 false (.conv .i32 (.t 25)),
  A2 27 23 false (.conv .i64 (.t 26)),
  A2 28 23 false (.ari .neq (.t 24) (.t 27)),
  A1 29 (.pick (.t 23) (.c (.bool true)) (.t 28))])
 (.cond (.t 29) ((.seq (.reg [A1 30 (.mkif 74 (.c (.int .i64 2))),
  A1 12 (.mv (.c (.int .u64 0))),
  A1 13 (.mv (.t 30))])
 (.ret))) (.skip))))
 ((.seq (.reg [A1 31 (.mv (.t 0)),
  A1 32 (.conv .u64 (.t 31)),
  A1 14 (.mv (.t 32))])
 ((.seq ((.seq (.reg [A1 33 (.mv (.t 1)),
  A1 34 (.mv (.t 2)),
  A1 35 (.mv (.t 3)),
  A1 36 (.mv (.t 4)),
  A1 37 (.bsl 1 4 (.int .i64) [(.i 1 0, 1, (.t 33)), (.i 1 1, 1, (.t 34)), (.i 1 2, 1, (.t 35)), (.i 1 3, 1, (.t 36))]),
  A1 38 (.len 0 (.t 37)),
  A1 39 (.mv (.c (.int .i64 0)))])
 (.block 0 (.loop ((.seq (.reg [A1 40 (.ari .lss (.t 39) (.t 38))])
 ((.seq (.cond (.t 40) (.skip) (.exit 0))
 ((.seq (.block 1 ((.seq (.reg [A1 41 (.isl 1 (.t 37) (.t 39)),
  A1 42 (.load false 1 (.t 41)),
  A1 16 (.mv (.t 42))])
 ((.seq ((.seq (.reg [A1 43 (.mv (.t 16)),
  A1 44 (.ari .lss (.t 43) (.c (.int .i64 0))),
  A1 45 (.mv (.t 44)),
  A2 46 45 false (.mv (.t 16)),
  A2 47 45 false (.ari .gtr (.t 46) (.c (.int .i64 15))),
  A1 48 (.pick (.t 45) (.c (.bool true)) (.t 47))])
 (.cond (.t 48) ((.seq (.reg [A1 49 (.mkif 74 (.c (.int .i64 2))),
  A1 12 (.mv (.c (.int .u64 0))),
  A1 13 (.mv (.t 49))])
 (.ret))) (.skip))))
 (.reg [A1 50 (.mv (.t 14)),
  A1 51 (.ari .shl (.t 50) (.c (.int .u64 4))),
  A1 52 (.mv (.t 16)),
  A1 53 (.conv .u64 (.t 52)),
  A1 54 (.ari .or (.t 51) (.t 53)),
  A1 14 (.mv (.t 54))]))))))
 (.reg [A1 55 (.ari .add (.t 39) (.c (.int .i64 1))),
  A1 39 (.mv (.t 55))])))))))))))
 ((.seq (.reg [A1 56 (.mv (.t 14)),
  A1 57 (.ari .shl (.t 56) (.c (.int .u64 40))),
  A1 58 (.mv (.t 5)),
  A1 59 (.conv .u32 (.t 58)),
  A1 60 (.conv .u64 (.t 59)),
  A1 61 (.ari .or (.t 57) (.t 60)),
  A1 12 (.mv (.t 61)),
  A1 13 (.mv (.c .nili))])
 (.ret))))))))))
def f76 : LF := ⟨c76, 6, 0, 62, [.tmp 12, .tmp 13]⟩

/-- moot/mootref10.Code -/
def c77 : LC := (.seq (.reg [A1 12 (.mv (.c (.int .u64 0))),
  A1 13 (.mv (.c (.int .i64 0)))])
 ((.seq (.reg [A1 17 (.mv (.t 0)),
  A1 18 (.conv .u64 (.t 17)),
  A1 14 (.mv (.t 18))])
 ((.seq (.reg [A1 19 (.mv (.t 1)),
  A1 20 (.mv (.t 2)),
  A1 21 (.mv (.t 3)),
  A1 22 (.mv (.t 4)),
  A1 23 (.bsl 1 4 (.int .i64) [(.i 1 0, 1, (.t 19)), (.i 1 1, 1, (.t 20)), (.i 1 2, 1, (.t 21)), (.i 1 3, 1, (.t 22))]),
  A1 15 (.mv (.t 23))])
 ((.seq ((.seq (.reg [A1 16 (.mv (.c (.int .i64 0)))])
 (.block 0 (.loop ((.seq ((.seq (.reg [A1 24 (.mv (.t 16)),
  A1 25 (.ari .lss (.t 24) (.c (.int .i64 4)))])
 (.cond (.t 25) (.skip) (.exit 0))))
 ((.seq (.block 1 ((.seq ((.seq (.reg [A1 28 (.mv (.t 15)),
  A1 29 (.mv (.t 16)),
  A1 30 (.isl 1 (.t 28) (.t 29)),
  A1 31 (.load false 1 (.t 30)),
  A1 32 (.ari .lss (.t 31) (.c (.int .i64 0))),
  A1 33 (.mv (.t 32)),
  A2 34 33 false (.mv (.t 15)),
  A2 35 33 false (.mv (.t 16)),
  A2 36 33 false (.isl 1 (.t 34) (.t 35)),
  A2 37 33 false (.load false 1 (.t 36)),
  A2 38 33 false (.ari .gtr (.t 37) (.c (.int .i64 15))),
  A1 39 (.pick (.t 33) (.c (.bool true)) (.t 38))])
 (.cond (.t 39) ((.seq (.reg [A1 12 (.mv (.c (.int .u64 0))),
  A1 13 (.mv (.c (.int .i64 2)))])
 (.ret))) (.skip))))
 (.reg [A1 40 (.mv (.t 14)),
  A1 41 (.ari .mul (.t 40) (.c (.int .u64 16))),
  A1 42 (.mv (.t 15)),
  A1 43 (.mv (.t 16)),
  A1 44 (.isl 1 (.t 42) (.t 43)),
  A1 45 (.load false 1 (.t 44)),
  A1 46 (.conv .u64 (.t 45)),
  A1 47 (.ari .add (.t 41) (.t 46)),
  A1 14 (.mv (.t 47))]))))
 (.reg [A1 26 (.mv (.t 16)),
  A1 27 (.ari .add (.t 26) (.c (.int .i64 1))),
  A1 16 (.mv (.t 27))])))))))))
 ((.seq ((.seq (.reg [A1 48 (.mv (.t 0)),
  A1 49 (.ari .lss (.t 48) (.c (.int .i64 0))),
  A1 50 (.mv (.t 49)),
  A2 51 50 false (.mv (.t 0)),
  A2 52 50 false (.ari .gtr (.t 51) (.c (.int .i64 35))),
  A1 53 (.pick (.t 50) (.c (.bool true)) (.t 52)),
  A1 54 (.mv (.t 53)),
  A2 55 54 false (.mv (.t 5)),
  A2 56 54 false (.ari .lss (.t 55) (.c (.int .i64 (-2147483648)))),
  A1 57 (.pick (.t 54) (.c (.bool true)) (.t 56)),
  A1 58 (.mv (.t 57)),
  A2 59 58 false (.mv (.t 5)),
  A2 60 58 false (.ari .geq (.t 59) (.c (.int .i64 2147483648))),
  A1 61 (.pick (.t 58) (.c (.bool true)) (.t 60))])
 (.cond (.t 61) ((.seq (.reg [A1 12 (.mv (.c (.int .u64 0))),
  A1 13 (.mv (.c (.int .i64 2)))])
 (.ret))) (.skip))))
 ((.seq (.reg [A1 62 (.mv (.t 14)),
  A1 63 (.ari .mul (.t 62) (.c (.int .u64 1099511627776))),
  A1 64 (.mv (.t 5)),
  A1 65 (.conv .u64 (.t 64)),
  A1 66 (.ari .and (.t 65) (.c (.int .u64 4294967295))),
  A1 67 (.ari .add (.t 63) (.t 66)),
  A1 12 (.mv (.t 67)),
  A1 13 (.mv (.c (.int .i64 0)))])
 (.ret))))))))))))
def f77 : LF := ⟨c77, 6, 0, 68, [.tmp 12, .tmp 13]⟩

/-- moot/vm.Parts -/
def c79 : LC := (.seq (.reg [A1 1 (.box (.t 0)),
  A1 2 (.mv (.c (.int .i64 0))),
  A1 3 (.mv (.c (.int .i64 0))),
  A1 4 (.mv (.c (.int .i64 0))),
  A1 5 (.mv (.c (.int .i64 0))),
  A1 6 (.mv (.c (.int .i64 0))),
  A1 7 (.mv (.c (.int .i64 0))),
  A1 8 (.mv (.c (.bool false)))])
 ((.seq (.reg [A1 10 (.load false 1 (.t 1)),
  A1 11 (.ari .shr (.t 10) (.c (.int .u64 56))),
  A1 12 (.conv .i64 (.t 11)),
  A1 2 (.mv (.t 12))])
 ((.seq ((.seq (.reg [A1 13 (.mv (.t 2)),
  A1 14 (.ari .gtr (.t 13) (.c (.int .i64 35))),
  A1 15 (.mv (.t 14)),
  A2 16 15 false (.load false 1 (.t 1)),
  A2 17 15 false (.ari .shr (.t 16) (.c (.int .u64 32))),
  A2 18 15 false (.ari .and (.t 17) (.c (.int .u64 255))),
  A2 19 15 false (.ari .neq (.t 18) (.c (.int .u64 0))),
  A1 20 (.pick (.t 15) (.c (.bool true)) (.t 19))])
 (.cond (.t 20) ((.seq (.reg [A1 2 (.mv (.c (.int .i64 0))),
  A1 3 (.mv (.c (.int .i64 0))),
  A1 4 (.mv (.c (.int .i64 0))),
  A1 5 (.mv (.c (.int .i64 0))),
  A1 6 (.mv (.c (.int .i64 0))),
  A1 7 (.mv (.c (.int .i64 0))),
  A1 8 (.mv (.c (.bool false)))])
 (.ret))) (.skip))))
 ((.seq (.reg [A1 21 (.mkfn 220 [(.t 1)]),
  A1 9 (.mv (.t 21))])
 ((.seq (.regd [⟨1, 0, A1 23 (.mv (.t 9))⟩,
  ⟨2, 1, ⟨(some 24), .dyn (.t 23) [(.c (.int .i64 52))], none⟩⟩,
  ⟨3, 0, A1 25 (.mv (.t 9))⟩,
  ⟨4, 7, ⟨(some 26), .dyn (.t 25) [(.c (.int .i64 48))], none⟩⟩,
  ⟨5, 0, A1 27 (.mv (.t 9))⟩,
  ⟨6, 31, ⟨(some 28), .dyn (.t 27) [(.c (.int .i64 44))], none⟩⟩,
  ⟨7, 0, A1 29 (.mv (.t 9))⟩,
  ⟨8, 127, ⟨(some 30), .dyn (.t 29) [(.c (.int .i64 40))], none⟩⟩,
  ⟨0, 0, A1 22 (.mv (.t 2))⟩,
  ⟨9, 0, A1 31 (.load false 1 (.t 1))⟩,
  ⟨10, 512, A1 32 (.conv .i32 (.t 31))⟩,
  ⟨11, 1536, A1 33 (.conv .i64 (.t 32))⟩,
  ⟨12, 511, A1 2 (.mv (.t 22))⟩,
  ⟨13, 4607, A1 3 (.mv (.t 24))⟩,
  ⟨14, 12799, A1 4 (.mv (.t 26))⟩,
  ⟨15, 29183, A1 5 (.mv (.t 28))⟩,
  ⟨16, 61951, A1 6 (.mv (.t 30))⟩,
  ⟨17, 131071, A1 7 (.mv (.t 33))⟩,
  ⟨18, 262143, A1 8 (.mv (.c (.bool true)))⟩])
 (.ret))))))))))
def f79 : LF := ⟨c79, 1, 0, 34, [.tmp 2, .tmp 3, .tmp 4, .tmp 5, .tmp 6, .tmp 7, .tmp 8]⟩

/-- (*moot/vm.Machine).stop -/
def c214 : LC := .reg [A1 4 (.mv (.t 0)),
  A1 5 (.mv (.t 0)),
  A1 6 (.mv (.t 1)),
  A1 7 (.nilc (.t 4)),
  A1 8 (.fadr 8209 (.t 7)),
  A0 (.store 1 (.t 8) (.c (.bool true))),
  A1 9 (.nilc (.t 5)),
  A1 10 (.fadr 8210 (.t 9)),
  A0 (.store 1 (.t 10) (.t 6))]
def f214 : LF := ⟨c214, 2, 0, 11, []⟩

/-- (*moot/vm.Machine).jump -/
def c216 : LC := (.seq (.reg [A1 11 (.mv (.t 0)),
  A1 12 (.nilc (.t 11)),
  A1 13 (.fadr 8192 (.t 12)),
  A1 10 (.mv (.t 13))])
 ((.seq ((.seq (.reg [A1 14 (.mv (.t 1))])
 (.block 0 ((.seq ((.seq (.reg [A1 16 (.ari .eql (.t 14) (.c (.int .i64 30))),
  A1 15 (.mv (.t 16))])
 (.cond (.t 15) (.skip) (.reg [A1 17 (.ari .eql (.t 14) (.c (.int .i64 31))),
  A1 15 (.mv (.t 17))]))))
 (.cond (.t 15) ((.seq (.reg [A1 18 (.mv (.t 10)),
  A1 19 (.mv (.t 3)),
  A1 20 (.nilc (.t 18)),
  A1 21 (.iarr 16 1 (.t 20) (.t 19)),
  A1 22 (.load false 1 (.t 21)),
  A1 23 (.ari .eql (.t 22) (.c (.int .u64 0))),
  A1 24 (.mv (.t 1)),
  A1 25 (.ari .eql (.t 24) (.c (.int .i64 30))),
  A1 26 (.eq true false .bool (.t 23) (.t 25))])
 (.cond (.t 26) ((.seq (.reg [A1 27 (.mv (.t 0)),
  A1 28 (.nilc (.t 27)),
  A1 29 (.fadr 8208 (.t 28)),
  A1 30 (.load false 1 (.t 29)),
  A1 31 (.ari .add (.t 30) (.c (.int .u64 1))),
  A1 32 (.nilc (.t 27)),
  A1 33 (.fadr 8208 (.t 32)),
  A0 (.store 1 (.t 33) (.t 31))])
 (.ret))) (.skip)))) ((.seq (.reg [A1 35 (.ari .eql (.t 14) (.c (.int .i64 33))),
  A1 34 (.mv (.t 35))])
 (.cond (.t 34) (.reg [A1 36 (.mv (.t 10)),
  A1 37 (.mv (.t 3)),
  A1 38 (.nilc (.t 36)),
  A1 39 (.iarr 16 1 (.t 38) (.t 37)),
  A1 40 (.load false 1 (.t 39)),
  A1 4 (.mv (.t 40))]) (.skip))))))))))
 ((.seq ((.seq (.reg [A1 41 (.mv (.t 4)),
  A1 42 (.ari .geq (.t 41) (.c (.int .u64 8192)))])
 (.cond (.t 42) ((.seq (.reg [A1 43 (.mv (.t 0)),
  ⟨(some 44), .call 214 [(.t 43), (.c (.int .u64 18446744073709551614))], none⟩])
 (.ret))) (.skip))))
 ((.seq ((.seq (.reg [A1 45 (.mv (.t 1)),
  A1 46 (.ari .eql (.t 45) (.c (.int .i64 32)))])
 (.cond (.t 46) (.regd [⟨0, 0, A1 47 (.mv (.t 10))⟩,
  ⟨1, 0, A1 48 (.mv (.t 2))⟩,
  ⟨2, 0, A1 49 (.mv (.t 0))⟩,
  ⟨3, 4, A1 50 (.nilc (.t 49))⟩,
  ⟨4, 12, A1 51 (.fadr 8208 (.t 50))⟩,
  ⟨5, 28, A1 52 (.load false 1 (.t 51))⟩,
  ⟨6, 60, A1 53 (.ari .add (.t 52) (.c (.int .u64 1)))⟩,
  ⟨7, 1, A1 54 (.nilc (.t 47))⟩,
  ⟨8, 255, A1 55 (.iarr 16 1 (.t 54) (.t 48))⟩,
  ⟨9, 511, A0 (.store 1 (.t 55) (.t 53))⟩]) (.skip))))
 (.reg [A1 56 (.mv (.t 0)),
  A1 57 (.mv (.t 4)),
  A1 58 (.nilc (.t 56)),
  A1 59 (.fadr 8208 (.t 58)),
  A0 (.store 1 (.t 59) (.t 57))]))))))))
def f216 : LF := ⟨c216, 5, 0, 60, []⟩

/-- (*moot/vm.Machine).oracle -/
def c217 : LC := (.seq (.reg [A1 10 (.mv (.c (.bool false)))])
 ((.seq (.reg [A1 11 (.mv (.c (.int .u64 8))),
  A1 12 (.mv (.c (.int .u64 4)))])
 ((.seq ((.seq (.reg [A1 22 (.mv (.t 2)),
  A1 23 (.ari .eql (.t 22) (.c (.int .i64 35)))])
 (.cond (.t 23) (.reg [A1 11 (.mv (.c (.int .u64 4))),
  A1 12 (.mv (.c (.int .u64 8)))]) (.skip))))
 ((.seq ((.seq (.reg [A1 24 (.mv (.t 3)),
  A1 25 (.mv (.t 11)),
  ⟨(some 26), .call 326 [(.t 24), (.t 25)], none⟩,
  A1 27 (.un .not (.t 26)),
  A1 28 (.mv (.t 27)),
  A2 29 28 false (.mv (.t 4)),
  A2 30 28 false (.mv (.t 12)),
  ⟨(some 31), .call 326 [(.t 29), (.t 30)], (some (28, false))⟩,
  A2 32 28 false (.un .not (.t 31)),
  A1 33 (.pick (.t 28) (.c (.bool true)) (.t 32))])
 (.cond (.t 33) ((.seq (.reg [A1 34 (.mv (.t 0)),
  ⟨(some 35), .call 214 [(.t 34), (.c (.int .u64 18446744073709551614))], none⟩])
 ((.seq (.reg [A1 10 (.mv (.c (.bool false)))])
 (.ret))))) (.skip))))
 ((.seq (.reg [A1 13 (.mv (.c .nils))])
 ((.seq ((.seq (.reg [A1 36 (.mv (.t 0)),
  A1 37 (.nilc (.t 36)),
  A1 38 (.fadr 0 (.t 37)),
  A1 39 (.mv (.t 3)),
  A1 40 (.mv (.t 3)),
  A1 41 (.mv (.t 11)),
  A1 42 (.ari .add (.t 40) (.t 41)),
  A1 43 (.slarr 8192 1 (.t 38) (some (.t 39)) (some (.t 42))),
  A1 44 (.len 0 (.t 43)),
  A1 45 (.mv (.c (.int .i64 0)))])
 (.block 0 (.loop ((.seq (.reg [A1 46 (.ari .lss (.t 45) (.t 44))])
 ((.seq (.cond (.t 46) (.skip) (.exit 0))
 ((.seq (.block 1 ((.seq (.reg [A1 47 (.isl 1 (.t 43) (.t 45)),
  A1 48 (.load false 1 (.t 47)),
  A1 15 (.mv (.t 48))])
 (.reg [A1 49 (.mv (.t 13)),
  A1 50 (.mv (.t 15)),
  ⟨(some 51), .call 327 [(.t 49), (.t 50)], none⟩,
  A1 13 (.mv (.t 51))]))))
 (.reg [A1 52 (.ari .add (.t 45) (.c (.int .i64 1))),
  A1 45 (.mv (.t 52))])))))))))))
 ((.seq (.reg [A1 16 (.mv (.c .nils))])
 ((.seq ((.seq (.reg [A1 53 (.mv (.t 2)),
  A1 54 (.ari .eql (.t 53) (.c (.int .i64 34)))])
 (.cond (.t 54) ((.seq (.reg [A1 56 (.mv (.t 1)),
  A1 57 (.mv (.t 13)),
  A1 58 (.s2a 64 1 (.t 57)),
  A1 59 (.load true 64 (.t 58)),
  ⟨(some 60), .call 212 [(.t 56), (.t 59)], none⟩,
  A1 55 (.mv (.t 60)),
  A1 61 (.ext (.t 55) 0),
  A1 62 (.ext (.t 55) 1),
  A1 17 (.alloc (.ar 32 (.int .u8))),
  A0 (.store 32 (.t 17) (.t 61)),
  A1 18 (.mv (.t 62))])
 (.reg [A1 63 (.slarr 32 1 (.t 17) none none),
  A1 16 (.mv (.t 63))]))) ((.seq (.reg [A1 65 (.mv (.t 1)),
  A1 66 (.mv (.t 13)),
  A1 67 (.s2a 32 1 (.t 66)),
  A1 68 (.load true 32 (.t 67)),
  ⟨(some 69), .call 328 [(.t 65), (.t 68)], none⟩,
  A1 64 (.mv (.t 69)),
  A1 70 (.ext (.t 64) 0),
  A1 71 (.ext (.t 64) 1),
  A1 19 (.alloc (.ar 64 (.int .u8))),
  A0 (.store 64 (.t 19) (.t 70)),
  A1 20 (.mv (.t 71))])
 ((.seq ((.seq (.reg [A1 72 (.mv (.t 20)),
  A1 73 (.eq true true (.iface [74]) (.t 72) (.c .nili))])
 (.cond (.t 73) ((.seq (.reg [A1 74 (.mv (.t 0)),
  ⟨(some 75), .call 214 [(.t 74), (.c (.int .u64 18446744073709551615))], none⟩])
 ((.seq (.reg [A1 10 (.mv (.c (.bool false)))])
 (.ret))))) (.skip))))
 (.reg [A1 76 (.slarr 64 1 (.t 19) none none),
  A1 16 (.mv (.t 76))]))))))))
 ((.seq ((.seq (.reg [A1 77 (.mv (.t 12)),
  A1 78 (.mv (.c (.int .u64 0)))])
 (.block 2 (.loop ((.seq (.reg [A1 79 (.ari .lss (.t 78) (.t 77))])
 ((.seq (.cond (.t 79) (.skip) (.exit 2))
 ((.seq (.block 3 ((.seq (.reg [A1 80 (.mv (.t 78)),
  A1 21 (.mv (.t 80))])
 (.regd [⟨4, 0, A1 85 (.mv (.t 16))⟩,
  ⟨5, 0, A1 86 (.mv (.t 21))⟩,
  ⟨6, 2, A1 87 (.ari .mul (.c (.int .u64 8)) (.t 86))⟩,
  ⟨7, 7, A1 88 (.slsl 1 (.t 85) (some (.t 87)) none)⟩,
  ⟨8, 15, ⟨(some 89), .call 308 [(.t 88)], none⟩⟩,
  ⟨0, 0, A1 81 (.mv (.t 0))⟩,
  ⟨1, 0, A1 82 (.mv (.t 4))⟩,
  ⟨2, 0, A1 83 (.mv (.t 21))⟩,
  ⟨3, 192, A1 84 (.ari .add (.t 82) (.t 83))⟩,
  ⟨9, 32, A1 90 (.nilc (.t 81))⟩,
  ⟨10, 544, A1 91 (.fadr 0 (.t 90))⟩,
  ⟨11, 2047, A1 92 (.iarr 8192 1 (.t 91) (.t 84))⟩,
  ⟨12, 4095, A0 (.store 1 (.t 92) (.t 89))⟩]))))
 (.reg [A1 93 (.ari .add (.t 78) (.c (.int .u64 1))),
  A1 78 (.mv (.t 93))])))))))))))
 ((.seq (.reg [A1 10 (.mv (.c (.bool true)))])
 (.ret))))))))))))))))))))
def f217 : LF := ⟨c217, 5, 0, 94, [.tmp 10]⟩

/-- moot/vm.Parts$1 -/
def c220 : LC := (.seq (.reg [A1 3 (.mv (.c (.int .i64 0)))])
 ((.seq (.reg [A1 4 (.load false 1 (.t 1)),
  A1 5 (.mv (.t 0)),
  A1 6 (.ari .shr (.t 4) (.t 5)),
  A1 7 (.ari .and (.t 6) (.c (.int .u64 15))),
  A1 8 (.conv .i64 (.t 7)),
  A1 3 (.mv (.t 8))])
 (.ret))))
def f220 : LF := ⟨c220, 1, 1, 9, [.tmp 3]⟩

/-- moot/vm.within -/
def c326 : LC := (.seq (.reg [A1 4 (.mv (.c (.bool false)))])
 ((.seq (.reg [A1 5 (.mv (.t 0)),
  A1 6 (.ari .leq (.t 5) (.c (.int .u64 8192))),
  A1 7 (.mv (.t 6)),
  A2 8 7 true (.mv (.t 1)),
  A2 9 7 true (.mv (.t 0)),
  A2 10 7 true (.ari .sub (.c (.int .u64 8192)) (.t 9)),
  A2 11 7 true (.ari .leq (.t 8) (.t 10)),
  A1 12 (.pick (.t 7) (.t 11) (.c (.bool false))),
  A1 4 (.mv (.t 12))])
 (.ret))))
def f326 : LF := ⟨c326, 2, 0, 13, [.tmp 4]⟩

/-- moot/word.Apply -/
def c215 : LC := (.seq (.reg [A1 8 (.mv (.c (.int .u64 0))),
  A1 9 (.mv (.c .nili))])
 ((.seq ((.seq (.reg [A1 10 (.mv (.t 0))])
 (.block 0 ((.seq (.block 17 ((.seq (.block 16 ((.seq (.block 15 ((.seq (.block 14 ((.seq (.block 13 ((.seq (.block 12 ((.seq (.block 11 ((.seq (.block 10 ((.seq (.block 9 ((.seq (.block 8 ((.seq (.block 7 ((.seq (.block 6 ((.seq (.block 5 ((.seq (.block 4 ((.seq (.block 3 ((.seq (.block 2 ((.seq (.block 1 ((.seq ((.seq ((.seq (.reg [A1 12 (.ari .eql (.t 10) (.c (.int .i64 1))),
  A1 11 (.mv (.t 12))])
 (.cond (.t 11) (.exit 1) (.skip))))
 ((.seq ((.seq (.reg [A1 14 (.ari .eql (.t 10) (.c (.int .i64 2))),
  A1 13 (.mv (.t 14))])
 (.cond (.t 13) (.exit 2) (.skip))))
 ((.seq ((.seq (.reg [A1 16 (.ari .eql (.t 10) (.c (.int .i64 3))),
  A1 15 (.mv (.t 16))])
 (.cond (.t 15) (.exit 3) (.skip))))
 ((.seq ((.seq ((.seq (.reg [A1 18 (.ari .eql (.t 10) (.c (.int .i64 4))),
  A1 17 (.mv (.t 18))])
 (.cond (.t 17) (.skip) ((.seq (.reg [A1 19 (.ari .eql (.t 10) (.c (.int .i64 5))),
  A1 17 (.mv (.t 19))])
 (.cond (.t 17) (.skip) ((.seq (.reg [A1 20 (.ari .eql (.t 10) (.c (.int .i64 6))),
  A1 17 (.mv (.t 20))])
 (.cond (.t 17) (.skip) (.reg [A1 21 (.ari .eql (.t 10) (.c (.int .i64 7))),
  A1 17 (.mv (.t 21))]))))))))))
 (.cond (.t 17) (.exit 4) (.skip))))
 ((.seq ((.seq ((.seq (.reg [A1 23 (.ari .eql (.t 10) (.c (.int .i64 8))),
  A1 22 (.mv (.t 23))])
 (.cond (.t 22) (.skip) (.reg [A1 24 (.ari .eql (.t 10) (.c (.int .i64 9))),
  A1 22 (.mv (.t 24))]))))
 (.cond (.t 22) (.exit 5) (.skip))))
 ((.seq ((.seq (.reg [A1 26 (.ari .eql (.t 10) (.c (.int .i64 10))),
  A1 25 (.mv (.t 26))])
 (.cond (.t 25) (.exit 6) (.skip))))
 ((.seq ((.seq ((.seq (.reg [A1 28 (.ari .eql (.t 10) (.c (.int .i64 11))),
  A1 27 (.mv (.t 28))])
 (.cond (.t 27) (.skip) ((.seq (.reg [A1 29 (.ari .eql (.t 10) (.c (.int .i64 12))),
  A1 27 (.mv (.t 29))])
 (.cond (.t 27) (.skip) ((.seq (.reg [A1 30 (.ari .eql (.t 10) (.c (.int .i64 13))),
  A1 27 (.mv (.t 30))])
 (.cond (.t 27) (.skip) ((.seq (.reg [A1 31 (.ari .eql (.t 10) (.c (.int .i64 14))),
  A1 27 (.mv (.t 31))])
 (.cond (.t 27) (.skip) (.reg [A1 32 (.ari .eql (.t 10) (.c (.int .i64 15))),
  A1 27 (.mv (.t 32))])))))))))))))
 (.cond (.t 27) (.exit 7) (.skip))))
 ((.seq ((.seq (.reg [A1 34 (.ari .eql (.t 10) (.c (.int .i64 17))),
  A1 33 (.mv (.t 34))])
 (.cond (.t 33) (.exit 8) (.skip))))
 ((.seq ((.seq (.reg [A1 36 (.ari .eql (.t 10) (.c (.int .i64 16))),
  A1 35 (.mv (.t 36))])
 (.cond (.t 35) (.exit 9) (.skip))))
 ((.seq ((.seq (.reg [A1 38 (.ari .eql (.t 10) (.c (.int .i64 19))),
  A1 37 (.mv (.t 38))])
 (.cond (.t 37) (.exit 10) (.skip))))
 ((.seq ((.seq (.reg [A1 40 (.ari .eql (.t 10) (.c (.int .i64 18))),
  A1 39 (.mv (.t 40))])
 (.cond (.t 39) (.exit 11) (.skip))))
 ((.seq ((.seq (.reg [A1 42 (.ari .eql (.t 10) (.c (.int .i64 21))),
  A1 41 (.mv (.t 42))])
 (.cond (.t 41) (.exit 12) (.skip))))
 ((.seq ((.seq (.reg [A1 44 (.ari .eql (.t 10) (.c (.int .i64 20))),
  A1 43 (.mv (.t 44))])
 (.cond (.t 43) (.exit 13) (.skip))))
 ((.seq ((.seq (.reg [A1 46 (.ari .eql (.t 10) (.c (.int .i64 22))),
  A1 45 (.mv (.t 46))])
 (.cond (.t 45) (.exit 14) (.skip))))
 ((.seq ((.seq (.reg [A1 48 (.ari .eql (.t 10) (.c (.int .i64 23))),
  A1 47 (.mv (.t 48))])
 (.cond (.t 47) (.exit 15) (.skip))))
 ((.seq ((.seq (.reg [A1 50 (.ari .eql (.t 10) (.c (.int .i64 25))),
  A1 49 (.mv (.t 50))])
 (.cond (.t 49) (.exit 16) (.skip))))
 ((.seq (.reg [A1 52 (.ari .eql (.t 10) (.c (.int .i64 24))),
  A1 51 (.mv (.t 52))])
 (.cond (.t 51) (.exit 17) (.skip))))))))))))))))))))))))))))))))))))
 (.exit 0))))
 ((.seq ((.seq (.reg [A1 53 (.mv (.t 1)),
  A1 54 (.mv (.t 2)),
  A1 55 (.ari .add (.t 53) (.t 54)),
  A1 8 (.mv (.t 55)),
  A1 9 (.mv (.c .nili))])
 (.ret)))
 (.exit 0))))))
 ((.seq ((.seq (.reg [A1 56 (.mv (.t 1)),
  A1 57 (.mv (.t 2)),
  A1 58 (.ari .sub (.t 56) (.t 57)),
  A1 8 (.mv (.t 58)),
  A1 9 (.mv (.c .nili))])
 (.ret)))
 (.exit 0))))))
 ((.seq ((.seq (.reg [A1 59 (.mv (.t 1)),
  A1 60 (.mv (.t 2)),
  A1 61 (.ari .mul (.t 59) (.t 60)),
  A1 8 (.mv (.t 61)),
  A1 9 (.mv (.c .nili))])
 (.ret)))
 (.exit 0))))))
 ((.seq ((.seq (.reg [A1 62 (.mv (.t 0)),
  A1 63 (.mv (.t 1)),
  A1 64 (.mv (.t 2)),
  ⟨(some 65), .call 321 [(.t 62), (.t 63), (.t 64)], none⟩,
  A1 8 (.mv (.t 65)),
  A1 9 (.mv (.c .nili))])
 (.ret)))
 (.exit 0))))))
 ((.seq ((.seq (.reg [A1 66 (.mv (.t 0)),
  A1 67 (.mv (.t 1)),
  A1 68 (.mv (.t 2)),
  A1 69 (.mv (.t 3)),
  ⟨(some 70), .call 322 [(.t 66), (.t 67), (.t 68), (.t 69)], none⟩,
  A1 8 (.mv (.t 70)),
  A1 9 (.mv (.c .nili))])
 (.ret)))
 (.exit 0))))))
 ((.seq ((.seq (.reg [A1 71 (.mv (.t 1)),
  A1 72 (.mv (.t 2)),
  ⟨(some 73), .call 323 [(.t 71), (.t 72)], none⟩,
  A1 8 (.mv (.t 73)),
  A1 9 (.mv (.c .nili))])
 (.ret)))
 (.exit 0))))))
 ((.seq ((.seq (.reg [A1 74 (.mv (.t 0)),
  A1 75 (.mv (.t 1)),
  A1 76 (.mv (.t 2)),
  ⟨(some 77), .call 324 [(.t 74), (.t 75), (.t 76)], none⟩,
  A1 8 (.mv (.t 77)),
  A1 9 (.mv (.c .nili))])
 (.ret)))
 (.exit 0))))))
 (.reg [A1 78 (.mv (.t 2)),
  A1 79 (.mv (.t 1)),
  A1 1 (.mv (.t 78)),
  A1 2 (.mv (.t 79))]))))
 ((.seq ((.seq (.reg [A1 80 (.mv (.t 1)),
  A1 81 (.mv (.t 2)),
  A1 82 (.ari .lss (.t 80) (.t 81)),
  ⟨(some 83), .call 325 [(.t 82)], none⟩,
  A1 8 (.mv (.t 83)),
  A1 9 (.mv (.c .nili))])
 (.ret)))
 (.exit 0))))))
 (.reg [A1 84 (.mv (.t 2)),
  A1 85 (.mv (.t 1)),
  A1 1 (.mv (.t 84)),
  A1 2 (.mv (.t 85))]))))
 ((.seq ((.seq (.reg [A1 86 (.mv (.t 1)),
  A1 87 (.conv .i64 (.t 86)),
  A1 88 (.mv (.t 2)),
  A1 89 (.conv .i64 (.t 88)),
  A1 90 (.ari .lss (.t 87) (.t 89)),
  ⟨(some 91), .call 325 [(.t 90)], none⟩,
  A1 8 (.mv (.t 91)),
  A1 9 (.mv (.c .nili))])
 (.ret)))
 (.exit 0))))))
 (.reg [A1 2 (.mv (.c (.int .u64 0)))]))))
 ((.seq ((.seq (.reg [A1 92 (.mv (.t 1)),
  A1 93 (.mv (.t 2)),
  A1 94 (.ari .eql (.t 92) (.t 93)),
  ⟨(some 95), .call 325 [(.t 94)], none⟩,
  A1 8 (.mv (.t 95)),
  A1 9 (.mv (.c .nili))])
 (.ret)))
 (.exit 0))))))
 ((.seq ((.seq (.reg [A1 96 (.mv (.t 1)),
  A1 97 (.mv (.t 2)),
  A1 98 (.ari .and (.t 96) (.t 97)),
  A1 8 (.mv (.t 98)),
  A1 9 (.mv (.c .nili))])
 (.ret)))
 (.exit 0))))))
 ((.seq ((.seq (.reg [A1 99 (.mv (.t 1)),
  A1 100 (.mv (.t 2)),
  A1 101 (.ari .or (.t 99) (.t 100)),
  A1 8 (.mv (.t 101)),
  A1 9 (.mv (.c .nili))])
 (.ret)))
 (.exit 0))))))
 (.reg [A1 2 (.mv (.c (.int .u64 18446744073709551615)))]))))
 ((.seq ((.seq (.reg [A1 102 (.mv (.t 1)),
  A1 103 (.mv (.t 2)),
  A1 104 (.ari .xor (.t 102) (.t 103)),
  A1 8 (.mv (.t 104)),
  A1 9 (.mv (.c .nili))])
 (.ret)))
 (.exit 0))))))))
 ((.seq (.reg [A1 105 (.mkif 74 (.c (.int .i64 10))),
  A1 8 (.mv (.c (.int .u64 0))),
  A1 9 (.mv (.t 105))])
 (.ret))))))
def f215 : LF := ⟨c215, 4, 0, 106, [.tmp 8, .tmp 9]⟩

end Mv
namespace Mv
open Go
set_option maxRecDepth 20000
set_option maxHeartbeats 4000000
set_option linter.unusedSimpArgs false

structure OkV (M : Seat) : Prop extends OkS M where
  k70 : chkF M 70 f70 = true
  k71 : chkF M 71 f71 = true
  k79 : chkF M 79 f79 = true
  k214 : chkF M 214 f214 = true
  k216 : chkF M 216 f216 = true
  k220 : chkF M 220 f220 = true
  fn220 : FnOK M 220

def pOp (w : BitVec 64) : Nat := (w >>> 56).toNat
def pF (w : BitVec 64) (k : Nat) : Nat := (w >>> k &&& 15#64).toNat
def pN (w : BitVec 64) : Int := (w.setWidth 32).toInt
theorem pOp_int (w : BitVec 64) : (w >>> 56).toInt = (pOp w : Int) := by
  have h : (w >>> 56).toNat < 256 := by rw [BitVec.toNat_ushiftRight, Nat.shiftRight_eq_div_pow]; have := w.isLt; omega
  rw [BitVec.toInt_eq_toNat_cond, if_pos (by omega)]; rfl
theorem pF_lt (w : BitVec 64) (k : Nat) : pF w k < 16 := by
  rw [pF, BitVec.toNat_and]
  exact Nat.lt_of_le_of_lt Nat.and_le_right (by decide)
theorem pF_int (w : BitVec 64) (k : Nat) : (w >>> k &&& 15#64).toInt = (pF w k : Int) := by
  have h := pF_lt w k
  rw [BitVec.toInt_eq_toNat_cond, if_pos (by unfold pF at h; omega)]; rfl

theorem runs_stop {M : Seat} (ok : OkV M) (f g : Nat → BitVec 64) (pc : BitVec 64) (hl : Bool) (xt e : BitVec 64) :
    Runs M 214 [.ptr 0 [], W e] [(0, mach f g pc hl xt)] 1 (fun r H' k' => r = .tup .fnil ∧ H' = [(0, mach f g pc true e)] ∧ k' = 1) := by
  refine runs_fr ok.k214 rfl fun x hx => ?_
  refine ex_sound 2000 _ _ _ _ ?_; (simp (maxSteps := 4000000) only [f214, c214, mach, LZ, seval, reduceCtorEq, forall_const])
  refine RetS.mk hx [0] [] (.tup .fnil) ([(0, mach f g pc true e)]) 1 (by decide) (by (simp only [LV, LZ, seval, reduceCtorEq, forall_const])) (by ((try simp only [LV, LZ, seval, reduceCtorEq, forall_const, LY, seval, reduceCtorEq, implies_true]); first | done | exact True.intro | (intros; rfl))) ?_ ⟨rfl, rfl, rfl⟩
  all_goals simp only [mach, LY, seval, reduceCtorEq, implies_true]

theorem runs_four1 {M : Seat} (ok : OkV M) (w : BitVec 64) (k : Nat) : Runs M 220 [.int .i64 k, .imm (W w)] [] 0 (fun r H' k' => r = .int .i64 (pF w k : Nat) ∧ H' = [] ∧ k' = 0) := by
  refine runs_fr ok.k220 rfl fun x hx => ?_
  refine ex_sound 2000 _ _ _ _ ?_; (simp (maxSteps := 4000000) only [f220, c220, LZ, seval, reduceCtorEq, forall_const])
  simp only [pF_int]
  repeat (refine And.intro (by first | omega | exact True.intro | rfl) ?_)
  refine RetS.mk hx [] [] (.int .i64 (pF w k : Nat)) [] 0 (by decide) (by (simp only [LV, LZ, seval, reduceCtorEq, forall_const])) (by ((try simp only [LV, LZ, seval, reduceCtorEq, forall_const, LY, seval, reduceCtorEq, implies_true]); first | done | exact True.intro | (intros; rfl))) trivial ⟨rfl, rfl, rfl⟩

def partsR (w : BitVec 64) : V := .tup (.fcons 0 (.int .i64 (pOp w)) (.fcons 1 (.int .i64 (pF w 52)) (.fcons 2 (.int .i64 (pF w 48)) (.fcons 3 (.int .i64 (pF w 44)) (.fcons 4 (.int .i64 (pF w 40)) (.fcons 5 (.int .i64 (pN w)) (.fcons 6 (.bool true) .fnil)))))))
theorem runs_Parts {M : Seat} (ok : OkV M) (w : BitVec 64) (h1 : pOp w ≤ 35) (h2 : w >>> 32 &&& 255#64 = 0#64) : Runs M 79 [W w] [] 0 (fun r H' k' => r = partsR w ∧ H' = [] ∧ k' = 0) := by
  refine runs_fr ok.k79 rfl fun x hx => ?_
  have e1 : ((35 : Int) < (pOp w : Int)) = False := eq_false (by omega)
  refine ex_sound 2000 _ _ _ _ ?_; (simp (maxSteps := 4000000) only [f79, c79, pOp_int, e1, h2, LZ, seval, reduceCtorEq, forall_const])
  have wn : IntKind.i64.wrap (w.setWidth 32).toInt = pN w := by
    have h1 := BitVec.toInt_lt (x := w.setWidth 32)
    have h2 := BitVec.le_toInt (x := w.setWidth 32)
    rw [wrap_i64 (by omega)]; rfl
  refine opy_1 (ok.fn220) (by rfl) (runs_four1 ok w 52) (by ((try simp only [LY, seval, reduceCtorEq, implies_true]); first | done | exact True.intro | rfl)) (by first | rfl | (simp only [LN, LP, V.ren, tup2, tup3])) (by simp only [LX, implies_true]) ?_
  (simp (maxSteps := 4000000) only [LZ, seval, reduceCtorEq, forall_const])
  refine opy_1 (ok.fn220) (by rfl) (runs_four1 ok w 48) (by ((try simp only [LY, seval, reduceCtorEq, implies_true]); first | done | exact True.intro | rfl)) (by first | rfl | (simp only [LN, LP, V.ren, tup2, tup3])) (by simp only [LX, implies_true]) ?_
  (simp (maxSteps := 4000000) only [LZ, seval, reduceCtorEq, forall_const])
  refine opy_1 (ok.fn220) (by rfl) (runs_four1 ok w 44) (by ((try simp only [LY, seval, reduceCtorEq, implies_true]); first | done | exact True.intro | rfl)) (by first | rfl | (simp only [LN, LP, V.ren, tup2, tup3])) (by simp only [LX, implies_true]) ?_
  (simp (maxSteps := 4000000) only [LZ, seval, reduceCtorEq, forall_const])
  refine opy_1 (ok.fn220) (by rfl) (runs_four1 ok w 40) (by ((try simp only [LY, seval, reduceCtorEq, implies_true]); first | done | exact True.intro | rfl)) (by first | rfl | (simp only [LN, LP, V.ren, tup2, tup3])) (by simp only [LX, implies_true]) ?_
  (simp (maxSteps := 4000000) only [wn, LZ, seval, reduceCtorEq, forall_const])
  refine RetS.mk hx [] [] (partsR w) [] 0 (by decide) (by simp only [res, resPs, resP, tupP, resV, LZ, seval, reduceCtorEq, forall_const]) ?_ trivial ⟨rfl, rfl, rfl⟩
  simp only [partsR, res, resV, tupV, LZ, seval, reduceCtorEq, forall_const, LY, seval, reduceCtorEq, implies_true]

theorem runs_PartsNo {M : Seat} (ok : OkV M) (w : BitVec 64) (h1 : ¬ (pOp w ≤ 35 ∧ w >>> 32 &&& 255#64 = 0#64)) : Runs M 79 [W w] [] 0 (fun r H' k' => r = .tup (.fcons 0 (.int .i64 0) (.fcons 1 (.int .i64 0) (.fcons 2 (.int .i64 0) (.fcons 3 (.int .i64 0) (.fcons 4 (.int .i64 0) (.fcons 5 (.int .i64 0) (.fcons 6 (.bool false) .fnil))))))) ∧ H' = [] ∧ k' = 0) := by
  refine runs_fr ok.k79 rfl fun x hx => ?_
  by_cases hp : pOp w ≤ 35
  · have e1 : ((35 : Int) < (pOp w : Int)) = False := eq_false (by omega)
    have e2 : (w >>> 32 &&& 255#64 = 0#64) = False := eq_false (fun h => h1 ⟨hp, h⟩)
    refine ex_sound 2000 _ _ _ _ ?_; (simp (maxSteps := 4000000) only [f79, c79, pOp_int, e1, e2, LZ, seval, reduceCtorEq, forall_const])
    refine RetS.mk hx [] [] (.tup (.fcons 0 (.int .i64 0) (.fcons 1 (.int .i64 0) (.fcons 2 (.int .i64 0) (.fcons 3 (.int .i64 0) (.fcons 4 (.int .i64 0) (.fcons 5 (.int .i64 0) (.fcons 6 (.bool false) .fnil)))))))) [] 0 (by decide) (by (simp only [LV, LZ, seval, reduceCtorEq, forall_const])) (by ((try simp only [LV, LZ, seval, reduceCtorEq, forall_const, LY, seval, reduceCtorEq, implies_true]); first | done | exact True.intro | (intros; rfl))) trivial ⟨rfl, rfl, rfl⟩
  · have e1 : ((35 : Int) < (pOp w : Int)) = True := eq_true (by omega)
    refine ex_sound 2000 _ _ _ _ ?_; (simp (maxSteps := 4000000) only [f79, c79, pOp_int, e1, LZ, seval, reduceCtorEq, forall_const])
    refine RetS.mk hx [] [] (.tup (.fcons 0 (.int .i64 0) (.fcons 1 (.int .i64 0) (.fcons 2 (.int .i64 0) (.fcons 3 (.int .i64 0) (.fcons 4 (.int .i64 0) (.fcons 5 (.int .i64 0) (.fcons 6 (.bool false) .fnil)))))))) [] 0 (by decide) (by (simp only [LV, LZ, seval, reduceCtorEq, forall_const])) (by ((try simp only [LV, LZ, seval, reduceCtorEq, forall_const, LY, seval, reduceCtorEq, implies_true]); first | done | exact True.intro | (intros; rfl))) trivial ⟨rfl, rfl, rfl⟩

abbrev wrongW : BitVec 64 := 18446744073709551614#64
theorem runs_StepStore {M : Seat} (ok : OkV M) (f g : Nat → BitVec 64) (pc xt : BitVec 64) (hpc : ¬ 8192#64 ≤ pc) (w : BitVec 64) (hw : f pc.toNat = w) (hop : pOp w = 28) (h2 : w >>> 32 &&& 255#64 = 0#64) (wh : BitVec 64) (hwh : g (pF w 48) + BitVec.ofInt 64 (pN w) = wh) (hlt : ¬ 8192#64 ≤ wh) :
    Runs M 70 [.ptr 0 [], .ptr 1 []] [(0, mach f g pc false xt)] 2 (fun r H' k' => r = .nili ∧ H' = [(0, mach (upd f wh.toNat (g (pF w 44))) g (pc + 1#64) false xt)] ∧ k' = 2) := by
  refine runs_fr ok.k70 rfl fun x hx => ?_
  have hp : pc.toNat < 8192 := by rw [BitVec.le_def] at hpc; simpa using hpc
  have a1 := pF_lt w 52
  have a2 := pF_lt w 48
  have a3 := pF_lt w 44
  have a4 := pF_lt w 40
  have hp2 : wh.toNat < 8192 := by rw [BitVec.le_def] at hlt; simpa using hlt
  refine ex_sound 2000 _ _ _ _ ?_; (simp (maxSteps := 4000000) only [f70, c70, mach, hpc, hw, LZ, seval, reduceCtorEq, forall_const])
  repeat (refine And.intro (by first | omega | exact True.intro | rfl) ?_)
  refine opd_pA (runs_Parts ok w (by omega) h2) (by ((try simp only [partsR, LY, seval, reduceCtorEq, implies_true]); first | done | exact True.intro | rfl)) (by first | rfl | (simp only [LN, LP, V.ren, tup2, tup3])) (by simp only [partsR, LX, implies_true]) ?_
  (simp (maxSteps := 4000000) only [partsR, hop, hlt, hwh, LZ, seval, reduceCtorEq, forall_const])
  repeat (refine And.intro (by first | omega | exact True.intro | rfl) ?_)
  refine RetS.mk hx [0, 1] [] (.nili) ([(0, mach (upd f wh.toNat (g (pF w 44))) g (pc + 1#64) false xt)]) 2 (by decide) (by (simp only [LV, LZ, seval, reduceCtorEq, forall_const])) (by ((try simp only [LV, LZ, seval, reduceCtorEq, forall_const, LY, seval, reduceCtorEq, implies_true]); first | done | exact True.intro | (intros; rfl))) ?_ ⟨rfl, rfl, rfl⟩
  all_goals simp only [mach, upd, ite_W, LY, seval, reduceCtorEq, implies_true]

theorem runs_StepLoad {M : Seat} (ok : OkV M) (f g : Nat → BitVec 64) (pc xt : BitVec 64) (hpc : ¬ 8192#64 ≤ pc) (w : BitVec 64) (hw : f pc.toNat = w) (hop : pOp w = 27) (h2 : w >>> 32 &&& 255#64 = 0#64) (wh : BitVec 64) (hwh : g (pF w 48) + BitVec.ofInt 64 (pN w) = wh) (hlt : ¬ 8192#64 ≤ wh) :
    Runs M 70 [.ptr 0 [], .ptr 1 []] [(0, mach f g pc false xt)] 2 (fun r H' k' => r = .nili ∧ H' = [(0, mach f (upd g (pF w 52) (f wh.toNat)) (pc + 1#64) false xt)] ∧ k' = 2) := by
  refine runs_fr ok.k70 rfl fun x hx => ?_
  have hp : pc.toNat < 8192 := by rw [BitVec.le_def] at hpc; simpa using hpc
  have a1 := pF_lt w 52
  have a2 := pF_lt w 48
  have a3 := pF_lt w 44
  have a4 := pF_lt w 40
  have hp2 : wh.toNat < 8192 := by rw [BitVec.le_def] at hlt; simpa using hlt
  refine ex_sound 2000 _ _ _ _ ?_; (simp (maxSteps := 4000000) only [f70, c70, mach, hpc, hw, LZ, seval, reduceCtorEq, forall_const])
  repeat (refine And.intro (by first | omega | exact True.intro | rfl) ?_)
  refine opd_pA (runs_Parts ok w (by omega) h2) (by ((try simp only [partsR, LY, seval, reduceCtorEq, implies_true]); first | done | exact True.intro | rfl)) (by first | rfl | (simp only [LN, LP, V.ren, tup2, tup3])) (by simp only [partsR, LX, implies_true]) ?_
  (simp (maxSteps := 4000000) only [partsR, hop, hlt, hwh, LZ, seval, reduceCtorEq, forall_const])
  repeat (refine And.intro (by first | omega | exact True.intro | rfl) ?_)
  refine RetS.mk hx [0, 1] [] (.nili) ([(0, mach f (upd g (pF w 52) (f wh.toNat)) (pc + 1#64) false xt)]) 2 (by decide) (by (simp only [LV, LZ, seval, reduceCtorEq, forall_const])) (by ((try simp only [LV, LZ, seval, reduceCtorEq, forall_const, LY, seval, reduceCtorEq, implies_true]); first | done | exact True.intro | (intros; rfl))) ?_ ⟨rfl, rfl, rfl⟩
  all_goals simp only [mach, upd, ite_W, LY, seval, reduceCtorEq, implies_true]

theorem runs_StepStoreWrong {M : Seat} (ok : OkV M) (f g : Nat → BitVec 64) (pc xt : BitVec 64) (hpc : ¬ 8192#64 ≤ pc) (w : BitVec 64) (hw : f pc.toNat = w) (hop : pOp w = 28) (h2 : w >>> 32 &&& 255#64 = 0#64) (wh : BitVec 64) (hwh : g (pF w 48) + BitVec.ofInt 64 (pN w) = wh) (hlt : 8192#64 ≤ wh) :
    Runs M 70 [.ptr 0 [], .ptr 1 []] [(0, mach f g pc false xt)] 2 (fun r H' k' => r = .nili ∧ H' = [(0, mach f g pc true wrongW)] ∧ k' = 2) := by
  refine runs_fr ok.k70 rfl fun x hx => ?_
  have hp : pc.toNat < 8192 := by rw [BitVec.le_def] at hpc; simpa using hpc
  have a1 := pF_lt w 52
  have a2 := pF_lt w 48
  have a3 := pF_lt w 44
  have a4 := pF_lt w 40
  refine ex_sound 2000 _ _ _ _ ?_; (simp (maxSteps := 4000000) only [f70, c70, mach, hpc, hw, LZ, seval, reduceCtorEq, forall_const])
  repeat (refine And.intro (by first | omega | exact True.intro | rfl) ?_)
  refine opd_pA (runs_Parts ok w (by omega) h2) (by ((try simp only [partsR, LY, seval, reduceCtorEq, implies_true]); first | done | exact True.intro | rfl)) (by first | rfl | (simp only [LN, LP, V.ren, tup2, tup3])) (by simp only [partsR, LX, implies_true]) ?_
  (simp (maxSteps := 4000000) only [partsR, hop, hlt, hwh, LZ, seval, reduceCtorEq, forall_const])
  repeat (refine And.intro (by first | omega | exact True.intro | rfl) ?_)
  refine call_mA [0] (runs_stop ok f g pc false xt wrongW) (by decide) (by rfl) (by ((try simp only [mach, LY, seval, reduceCtorEq, implies_true]); first | done | exact True.intro | rfl)) (by ((try simp only [mach, LY, seval, reduceCtorEq, implies_true]); first | done | exact True.intro | rfl)) (by simp only [mach, LX, implies_true]) (by simp only [mach, LX, implies_true]) ?_
  (simp (maxSteps := 4000000) only [mach, LZ, seval, reduceCtorEq, forall_const])
  repeat (refine And.intro (by first | omega | exact True.intro | rfl) ?_)
  refine RetS.mk hx [0, 1] [] (.nili) ([(0, mach f g pc true wrongW)]) 2 (by decide) (by (simp only [LV, LZ, seval, reduceCtorEq, forall_const])) (by ((try simp only [LV, LZ, seval, reduceCtorEq, forall_const, LY, seval, reduceCtorEq, implies_true]); first | done | exact True.intro | (intros; rfl))) ?_ ⟨rfl, rfl, rfl⟩
  all_goals simp only [mach, upd, ite_W, LY, seval, reduceCtorEq, implies_true]

theorem runs_StepLoadWrong {M : Seat} (ok : OkV M) (f g : Nat → BitVec 64) (pc xt : BitVec 64) (hpc : ¬ 8192#64 ≤ pc) (w : BitVec 64) (hw : f pc.toNat = w) (hop : pOp w = 27) (h2 : w >>> 32 &&& 255#64 = 0#64) (wh : BitVec 64) (hwh : g (pF w 48) + BitVec.ofInt 64 (pN w) = wh) (hlt : 8192#64 ≤ wh) :
    Runs M 70 [.ptr 0 [], .ptr 1 []] [(0, mach f g pc false xt)] 2 (fun r H' k' => r = .nili ∧ H' = [(0, mach f g pc true wrongW)] ∧ k' = 2) := by
  refine runs_fr ok.k70 rfl fun x hx => ?_
  have hp : pc.toNat < 8192 := by rw [BitVec.le_def] at hpc; simpa using hpc
  have a1 := pF_lt w 52
  have a2 := pF_lt w 48
  have a3 := pF_lt w 44
  have a4 := pF_lt w 40
  refine ex_sound 2000 _ _ _ _ ?_; (simp (maxSteps := 4000000) only [f70, c70, mach, hpc, hw, LZ, seval, reduceCtorEq, forall_const])
  repeat (refine And.intro (by first | omega | exact True.intro | rfl) ?_)
  refine opd_pA (runs_Parts ok w (by omega) h2) (by ((try simp only [partsR, LY, seval, reduceCtorEq, implies_true]); first | done | exact True.intro | rfl)) (by first | rfl | (simp only [LN, LP, V.ren, tup2, tup3])) (by simp only [partsR, LX, implies_true]) ?_
  (simp (maxSteps := 4000000) only [partsR, hop, hlt, hwh, LZ, seval, reduceCtorEq, forall_const])
  repeat (refine And.intro (by first | omega | exact True.intro | rfl) ?_)
  refine call_mA [0] (runs_stop ok f g pc false xt wrongW) (by decide) (by rfl) (by ((try simp only [mach, LY, seval, reduceCtorEq, implies_true]); first | done | exact True.intro | rfl)) (by ((try simp only [mach, LY, seval, reduceCtorEq, implies_true]); first | done | exact True.intro | rfl)) (by simp only [mach, LX, implies_true]) (by simp only [mach, LX, implies_true]) ?_
  (simp (maxSteps := 4000000) only [mach, LZ, seval, reduceCtorEq, forall_const])
  repeat (refine And.intro (by first | omega | exact True.intro | rfl) ?_)
  refine RetS.mk hx [0, 1] [] (.nili) ([(0, mach f g pc true wrongW)]) 2 (by decide) (by (simp only [LV, LZ, seval, reduceCtorEq, forall_const])) (by ((try simp only [LV, LZ, seval, reduceCtorEq, forall_const, LY, seval, reduceCtorEq, implies_true]); first | done | exact True.intro | (intros; rfl))) ?_ ⟨rfl, rfl, rfl⟩
  all_goals simp only [mach, upd, ite_W, LY, seval, reduceCtorEq, implies_true]

theorem runs_StepLi {M : Seat} (ok : OkV M) (f g : Nat → BitVec 64) (pc xt : BitVec 64) (hpc : ¬ 8192#64 ≤ pc) (w : BitVec 64) (hw : f pc.toNat = w) (hop : pOp w = 26) (h2 : w >>> 32 &&& 255#64 = 0#64) :
    Runs M 70 [.ptr 0 [], .ptr 1 []] [(0, mach f g pc false xt)] 2 (fun r H' k' => r = .nili ∧ H' = [(0, mach f (upd g (pF w 52) (BitVec.ofInt 64 (pN w))) (pc + 1#64) false xt)] ∧ k' = 2) := by
  refine runs_fr ok.k70 rfl fun x hx => ?_
  have hp : pc.toNat < 8192 := by rw [BitVec.le_def] at hpc; simpa using hpc
  have a1 := pF_lt w 52
  have a2 := pF_lt w 48
  have a3 := pF_lt w 44
  have a4 := pF_lt w 40
  refine ex_sound 2000 _ _ _ _ ?_; (simp (maxSteps := 4000000) only [f70, c70, mach, hpc, hw, LZ, seval, reduceCtorEq, forall_const])
  repeat (refine And.intro (by first | omega | exact True.intro | rfl) ?_)
  refine opd_pA (runs_Parts ok w (by omega) h2) (by ((try simp only [partsR, LY, seval, reduceCtorEq, implies_true]); first | done | exact True.intro | rfl)) (by first | rfl | (simp only [LN, LP, V.ren, tup2, tup3])) (by simp only [partsR, LX, implies_true]) ?_
  (simp (maxSteps := 4000000) only [partsR, hop, LZ, seval, reduceCtorEq, forall_const])
  repeat (refine And.intro (by first | omega | exact True.intro | rfl) ?_)
  refine RetS.mk hx [0, 1] [] (.nili) ([(0, mach f (upd g (pF w 52) (BitVec.ofInt 64 (pN w))) (pc + 1#64) false xt)]) 2 (by decide) (by (simp only [LV, LZ, seval, reduceCtorEq, forall_const])) (by ((try simp only [LV, LZ, seval, reduceCtorEq, forall_const, LY, seval, reduceCtorEq, implies_true]); first | done | exact True.intro | (intros; rfl))) ?_ ⟨rfl, rfl, rfl⟩
  all_goals simp only [mach, upd, ite_W, LY, seval, reduceCtorEq, implies_true]

theorem runs_StepHalt {M : Seat} (ok : OkV M) (f g : Nat → BitVec 64) (pc xt : BitVec 64) (hpc : ¬ 8192#64 ≤ pc) (w : BitVec 64) (hw : f pc.toNat = w) (hop : pOp w = 0) (h2 : w >>> 32 &&& 255#64 = 0#64) :
    Runs M 70 [.ptr 0 [], .ptr 1 []] [(0, mach f g pc false xt)] 2 (fun r H' k' => r = .nili ∧ H' = [(0, mach f g pc true (g (pF w 48)))] ∧ k' = 2) := by
  refine runs_fr ok.k70 rfl fun x hx => ?_
  have hp : pc.toNat < 8192 := by rw [BitVec.le_def] at hpc; simpa using hpc
  have a1 := pF_lt w 52
  have a2 := pF_lt w 48
  have a3 := pF_lt w 44
  have a4 := pF_lt w 40
  refine ex_sound 2000 _ _ _ _ ?_; (simp (maxSteps := 4000000) only [f70, c70, mach, hpc, hw, LZ, seval, reduceCtorEq, forall_const])
  repeat (refine And.intro (by first | omega | exact True.intro | rfl) ?_)
  refine opd_pA (runs_Parts ok w (by omega) h2) (by ((try simp only [partsR, LY, seval, reduceCtorEq, implies_true]); first | done | exact True.intro | rfl)) (by first | rfl | (simp only [LN, LP, V.ren, tup2, tup3])) (by simp only [partsR, LX, implies_true]) ?_
  (simp (maxSteps := 4000000) only [partsR, hop, LZ, seval, reduceCtorEq, forall_const])
  repeat (refine And.intro (by first | omega | exact True.intro | rfl) ?_)
  refine call_mA [0] (runs_stop ok f g pc false xt (g (pF w 48))) (by decide) (by rfl) (by ((try simp only [mach, LY, seval, reduceCtorEq, implies_true]); first | done | exact True.intro | rfl)) (by ((try simp only [mach, LY, seval, reduceCtorEq, implies_true]); first | done | exact True.intro | rfl)) (by simp only [mach, LX, implies_true]) (by simp only [mach, LX, implies_true]) ?_
  (simp (maxSteps := 4000000) only [mach, LZ, seval, reduceCtorEq, forall_const])
  refine RetS.mk hx [0, 1] [] (.nili) ([(0, mach f g pc true (g (pF w 48)))]) 2 (by decide) (by (simp only [LV, LZ, seval, reduceCtorEq, forall_const])) (by ((try simp only [LV, LZ, seval, reduceCtorEq, forall_const, LY, seval, reduceCtorEq, implies_true]); first | done | exact True.intro | (intros; rfl))) ?_ ⟨rfl, rfl, rfl⟩
  all_goals simp only [mach, upd, ite_W, LY, seval, reduceCtorEq, implies_true]

end Mv
namespace Mv
open Go
set_option maxRecDepth 20000
set_option maxHeartbeats 4000000
set_option linter.unusedSimpArgs false

structure Mc where
  f : Nat → BitVec 64
  g : Nat → BitVec 64
  pc : BitVec 64
  hl : Bool
  xt : BitVec 64
def Mc.v (m : Mc) : V := mach m.f m.g m.pc m.hl m.xt
/-- A step that looks at no store. -/
def StepTo (M : Seat) (m m' : Mc) : Prop := Runs M 70 [.ptr 0 [], .ptr 1 []] [(0, m.v)] 2 (fun r H' k' => r = .nili ∧ H' = [(0, m'.v)] ∧ k' = 2)

theorem runs_Run {M : Seat} (ok : OkV M) (ms : Nat → Mc) (k n : Nat) (hk : k ≤ n) (hn : n < 9223372036854775808) (hs : ∀ i, i < k → (ms i).hl = false ∧ StepTo M (ms i) (ms (i + 1))) (he : (ms k).hl = true ∨ k = n) :
    Runs M 71 [.ptr 0 [], .ptr 1 [], .int .i64 n] [(0, (ms 0).v)] 2 (fun r H' k' => r = tup2 (.int .i64 k) .nili ∧ H' = [(0, (ms k).v)] ∧ k' = 2) := by
  refine runs_fr ok.k71 rfl fun x hx => ?_
  have e0 : ((n : Int) < 0) = False := eq_false (by omega)
  have hS : ∀ (m : Mc) H a z, Sim H a z m.v m.v := fun m H a z => by simp only [Mc.v, mach, LY, seval, reduceCtorEq, implies_true]
  have hN : ∀ m : Mc, NoIm m.v := fun m => by simp only [Mc.v, mach, NoIm, NoIm_W, implies_true, and_self]
  have hR : ∀ (m : Mc) a, m.v.ren a = m.v := fun m a => rfl
  refine ex_sound 2000 _ _ _ _ ?_; (simp (maxSteps := 4000000) only [f71, c71, e0, LZ, seval, reduceCtorEq, forall_const])
  refine loop_rule (σ := Nat) (fun i => i ≤ k) (fun i => fr 37 [(0, .ptr 0 []), (1, .ptr 1 []), (2, .int .i64 n), (8, .int .i64 i)]) (fun i => [(0, (ms i).v)]) (fun _ => 2) (fun i => k - i) 0 (by omega) ?_ ?_
  · refine Weak.fr [0, 1] [] hx (by simp only [fr_length]) (by decide) ?_ ?_
    · simp only [LY, seval, reduceCtorEq, implies_true]
    · simp only [hS, LY, seval, reduceCtorEq, implies_true]
  · intro i hi
    refine ex_sound 2000 _ _ _ _ ?_
    by_cases hik : i = k
    · subst hik
      rcases he with he | he
      · by_cases hin : i < n
        · have d0 : ((i : Int) < (n : Int)) = True := eq_true (by omega)
          (simp (maxSteps := 4000000) only [d0, Mc.v, mach, he, LZ, seval, reduceCtorEq, forall_const])
          refine RetS.mk hx [0, 1] [] _ _ _ (by decide) (by (simp only [LV, Mc.v, mach, he, LZ, seval, reduceCtorEq, forall_const])) (by ((try simp only [LV, Mc.v, mach, he, LZ, seval, reduceCtorEq, forall_const, LY, seval, reduceCtorEq, implies_true]); first | done | exact True.intro | (intros; rfl))) (by ((try simp only [Mc.v, mach, he, LY, seval, reduceCtorEq, implies_true]); first | done | exact True.intro | (intros; rfl))) ⟨rfl, rfl, rfl⟩
        · have d0 : ((i : Int) < (n : Int)) = False := eq_false (by omega)
          (simp (maxSteps := 4000000) only [d0, Mc.v, mach, LZ, seval, reduceCtorEq, forall_const])
          refine RetS.mk hx [0, 1] [] _ _ _ (by decide) (by (simp only [LV, Mc.v, mach, LZ, seval, reduceCtorEq, forall_const])) (by ((try simp only [LV, Mc.v, mach, LZ, seval, reduceCtorEq, forall_const, LY, seval, reduceCtorEq, implies_true]); first | done | exact True.intro | (intros; rfl))) (by ((try simp only [Mc.v, mach, LY, seval, reduceCtorEq, implies_true]); first | done | exact True.intro | (intros; rfl))) ⟨rfl, rfl, rfl⟩
      · have d0 : ((i : Int) < (n : Int)) = False := eq_false (by omega)
        (simp (maxSteps := 4000000) only [d0, Mc.v, mach, LZ, seval, reduceCtorEq, forall_const])
        refine RetS.mk hx [0, 1] [] _ _ _ (by decide) (by (simp only [LV, Mc.v, mach, LZ, seval, reduceCtorEq, forall_const])) (by ((try simp only [LV, Mc.v, mach, LZ, seval, reduceCtorEq, forall_const, LY, seval, reduceCtorEq, implies_true]); first | done | exact True.intro | (intros; rfl))) (by ((try simp only [Mc.v, mach, LY, seval, reduceCtorEq, implies_true]); first | done | exact True.intro | (intros; rfl))) ⟨rfl, rfl, rfl⟩
    · obtain ⟨h1, h2⟩ := hs i (by omega)
      have d0 : ((i : Int) < (n : Int)) = True := eq_true (by omega)
      have w0 : IntKind.i64.wrap ((i : Int) + 1) = ((i + 1 : Nat) : Int) := by rw [wrap_i64 (by omega)]; omega
      have hv : (ms i).v = mach (ms i).f (ms i).g (ms i).pc (ms i).hl (ms i).xt := rfl
      rw [hv]
      (simp (maxSteps := 4000000) only [d0, mach, h1, LZ, seval, reduceCtorEq, forall_const])
      have hst := h2
      unfold StepTo at hst
      rw [hv, h1] at hst
      refine call_mB [0, 1] [0] (hst) (by rfl) (by rfl) (by decide) (by rfl) (by rfl) (by ((try simp only [mach, hN, LY, seval, reduceCtorEq, implies_true]); first | done | exact True.intro | rfl)) (by ((try simp only [mach, hN, LY, seval, reduceCtorEq, implies_true]); first | done | exact True.intro | rfl)) (by simp only [mach, hN, LX, implies_true]) (by simp only [mach, hN, LX, implies_true]) ?_
      (simp (maxSteps := 4000000) only [hR, w0, LZ, seval, reduceCtorEq, forall_const])
      refine ⟨i + 1, by omega, by omega, ?_⟩
      refine Weak.fr [0, 1] [] hx (by simp only [fr_length]) (by decide) ?_ ?_
      · simp only [LY, seval, reduceCtorEq, implies_true]
      · simp only [hS, LY, seval, reduceCtorEq, implies_true]
end Mv
namespace Mv
open Go
set_option maxRecDepth 20000
set_option maxHeartbeats 4000000
set_option linter.unusedSimpArgs false

structure OkI (M : Seat) : Prop extends OkV M where
  k67 : chkF M 67 f67 = true
  k69 : chkF M 69 f69 = true
  k75 : chkF M 75 f75 = true
  k76 : chkF M 76 f76 = true
  k77 : chkF M 77 f77 = true

theorem pOp_nat (w : BitVec 64) : pOp w = w.toNat / 72057594037927936 := by
  rw [pOp, BitVec.toNat_ushiftRight, Nat.shiftRight_eq_div_pow]
theorem pF_nat (w : BitVec 64) (k : Nat) : pF w k = w.toNat / 2 ^ k % 16 := by
  rw [pF, BitVec.toNat_and, BitVec.toNat_ushiftRight, Nat.shiftRight_eq_div_pow, show (15#64).toNat = 2 ^ 4 - 1 from rfl, Nat.and_two_pow_sub_one_eq_mod]
theorem pZ_nat (w : BitVec 64) : (w >>> 32 &&& 255#64 = 0#64) ↔ w.toNat / 4294967296 % 256 = 0 := by
  have e : (w >>> 32 &&& 255#64).toNat = w.toNat / 4294967296 % 256 := by
    rw [BitVec.toNat_and, BitVec.toNat_ushiftRight, Nat.shiftRight_eq_div_pow, show (255#64).toNat = 2 ^ 8 - 1 from rfl, Nat.and_two_pow_sub_one_eq_mod]
  rw [← e]
  constructor
  · intro h; rw [h]; rfl
  · intro h; exact BitVec.eq_of_toNat_eq h
theorem pN_nat (w : BitVec 64) : pN w = if w.toNat % 4294967296 < 2147483648 then ((w.toNat % 4294967296 : Nat) : Int) else ((w.toNat % 4294967296 : Nat) : Int) - 4294967296 := by
  rw [pN, BitVec.toInt_eq_toNat_cond, BitVec.toNat_setWidth]
  split <;> split <;> omega

/-- The word of an instruction, by the document. -/
def rcW (op : Int) (d a b c : Nat) (n : Int) : BitVec 64 :=
  ((((BitVec.ofInt 64 op * 16#64 + BitVec.ofInt 64 d) * 16#64 + BitVec.ofInt 64 a) * 16#64 + BitVec.ofInt 64 b) * 16#64 + BitVec.ofInt 64 c) * 1099511627776#64 + (BitVec.ofInt 64 n &&& 4294967295#64)
def rcOk (op n : Int) : Bool := decide (0 ≤ op ∧ op ≤ 35 ∧ -2147483648 ≤ n ∧ n < 2147483648)

theorem runs_refCode {M : Seat} (ok : OkI M) (op : Int) (d a b c : Nat) (n : Int) (hd : d < 16) (ha : a < 16) (hb : b < 16) (hc : c < 16) :
    Runs M 77 [.int .i64 op, .int .i64 d, .int .i64 a, .int .i64 b, .int .i64 c, .int .i64 n] [] 0 (fun r H' k' => r = tup2 (W (if rcOk op n then rcW op d a b c n else 0#64)) (.int .i64 (if rcOk op n then 0 else 2)) ∧ H' = [] ∧ k' = 0) := by
  refine runs_fr ok.k77 rfl fun x hx => ?_
  have l1 : ∀ q : Nat, q < 16 → (((q : Int) < 0) = False) := fun q _ => eq_false (by omega)
  have l2 : ∀ q : Nat, q < 16 → ((15 : Int) < (q : Int)) = False := fun q h => eq_false (by omega)
  have w1 : IntKind.i64.wrap 1 = 1 := rfl
  have w2 : IntKind.i64.wrap 2 = 2 := rfl
  have w3 : IntKind.i64.wrap 3 = 3 := rfl
  have w4 : IntKind.i64.wrap 4 = 4 := rfl
  refine ex_sound 2000 _ _ _ _ ?_; (simp (maxSteps := 4000000) only [f77, c77, LZ, seval, reduceCtorEq, forall_const])
  refine loop_once ?_
  refine ex_sound 2000 _ _ _ _ ?_
  (simp (maxSteps := 4000000) only [l1 d hd, l2 d hd, w1, w2, w3, w4, LZ, seval, reduceCtorEq, forall_const])
  repeat (refine And.intro (by first | omega | exact True.intro | rfl) ?_)
  refine loop_once ?_
  refine ex_sound 2000 _ _ _ _ ?_
  (simp (maxSteps := 4000000) only [l1 a ha, l2 a ha, w1, w2, w3, w4, LZ, seval, reduceCtorEq, forall_const])
  repeat (refine And.intro (by first | omega | exact True.intro | rfl) ?_)
  refine loop_once ?_
  refine ex_sound 2000 _ _ _ _ ?_
  (simp (maxSteps := 4000000) only [l1 b hb, l2 b hb, w1, w2, w3, w4, LZ, seval, reduceCtorEq, forall_const])
  repeat (refine And.intro (by first | omega | exact True.intro | rfl) ?_)
  refine loop_once ?_
  refine ex_sound 2000 _ _ _ _ ?_
  (simp (maxSteps := 4000000) only [l1 c hc, l2 c hc, w1, w2, w3, w4, LZ, seval, reduceCtorEq, forall_const])
  repeat (refine And.intro (by first | omega | exact True.intro | rfl) ?_)
  refine loop_once ?_
  refine ex_sound 2000 _ _ _ _ ?_
  by_cases h1 : op < 0
  · have e : rcOk op n = false := by simp only [rcOk, decide_eq_false_iff_not]; omega
    (simp (maxSteps := 4000000) only [eq_true h1, e, LZ, seval, reduceCtorEq, forall_const])
    exact RetS.mkZ hx [] ⟨rfl, rfl, rfl⟩
  · by_cases h2 : 35 < op
    · have e : rcOk op n = false := by simp only [rcOk, decide_eq_false_iff_not]; omega
      (simp (maxSteps := 4000000) only [eq_false h1, eq_true h2, e, LZ, seval, reduceCtorEq, forall_const])
      exact RetS.mkZ hx [] ⟨rfl, rfl, rfl⟩
    · by_cases h3 : n < -2147483648
      · have e : rcOk op n = false := by simp only [rcOk, decide_eq_false_iff_not]; omega
        (simp (maxSteps := 4000000) only [eq_false h1, eq_false h2, eq_true h3, e, LZ, seval, reduceCtorEq, forall_const])
        exact RetS.mkZ hx [] ⟨rfl, rfl, rfl⟩
      · by_cases h4 : 2147483648 ≤ n
        · have e : rcOk op n = false := by simp only [rcOk, decide_eq_false_iff_not]; omega
          (simp (maxSteps := 4000000) only [eq_false h1, eq_false h2, eq_false h3, eq_true h4, e, LZ, seval, reduceCtorEq, forall_const])
          exact RetS.mkZ hx [] ⟨rfl, rfl, rfl⟩
        · have e : rcOk op n = true := by simp only [rcOk, decide_eq_true_eq]; omega
          (simp (maxSteps := 4000000) only [eq_false h1, eq_false h2, eq_false h3, eq_false h4, e, rcW, LZ, seval, reduceCtorEq, forall_const])
          refine RetS.mk hx [] [] _ _ _ (by decide) (by (simp only [LV, rcW, LZ, seval, reduceCtorEq, forall_const])) (by ((try simp only [LV, rcW, LZ, seval, reduceCtorEq, forall_const, LY, seval, reduceCtorEq, implies_true]); first | done | exact True.intro | (intros; rfl))) (by ((try simp only [rcW, LY, seval, reduceCtorEq, implies_true]); first | done | exact True.intro | (intros; rfl))) ⟨rfl, rfl, rfl⟩

/-- The same of the program's. -/
def cdW (op : Int) (d a b c : Nat) (n : Int) : BitVec 64 :=
  (((((BitVec.ofInt 64 op <<< 4 ||| BitVec.ofInt 64 d) <<< 4 ||| BitVec.ofInt 64 a) <<< 4 ||| BitVec.ofInt 64 b) <<< 4 ||| BitVec.ofInt 64 c) <<< 40) ||| BitVec.ofInt 64 (IntKind.u32.wrap n)
theorem runs_Code {M : Seat} (ok : OkI M) (op : Int) (d a b c : Nat) (n : Int) (hd : d < 16) (ha : a < 16) (hb : b < 16) (hc : c < 16) (h1 : 0 ≤ op ∧ op ≤ 35) (h2 : -2147483648 ≤ n ∧ n < 2147483648) :
    Runs M 76 [.int .i64 op, .int .i64 d, .int .i64 a, .int .i64 b, .int .i64 c, .int .i64 n] [] 0 (fun r H' k' => r = tup2 (W (cdW op d a b c n)) .nili ∧ H' = [] ∧ k' = 0) := by
  refine runs_fr ok.k76 rfl fun x hx => ?_
  have l1 : ∀ q : Nat, q < 16 → (((q : Int) < 0) = False) := fun q _ => eq_false (by omega)
  have l2 : ∀ q : Nat, q < 16 → ((15 : Int) < (q : Int)) = False := fun q h => eq_false (by omega)
  have w1 : IntKind.i64.wrap 1 = 1 := rfl
  have w2 : IntKind.i64.wrap 2 = 2 := rfl
  have w3 : IntKind.i64.wrap 3 = 3 := rfl
  have w4 : IntKind.i64.wrap 4 = 4 := rfl
  have e1 : (op < 0) = False := eq_false (by omega)
  have e2 : ((35 : Int) < op) = False := eq_false (by omega)
  have e3 : IntKind.i64.wrap (IntKind.i32.wrap n) = n := by
    have : IntKind.i32.wrap n = n := by
      have e : IntKind.i32.wrap n = if n % 4294967296 ≥ 2147483648 then n % 4294967296 - 4294967296 else n % 4294967296 := by simp [IntKind.wrap, IntKind.bits, IntKind.signed]
      rw [e]; split <;> omega
    rw [this, wrap_i64 (by omega)]
  refine ex_sound 2000 _ _ _ _ ?_; (simp (maxSteps := 4000000) only [f76, c76, e1, e2, e3, LZ, seval, reduceCtorEq, forall_const])
  refine loop_once ?_
  refine ex_sound 2000 _ _ _ _ ?_
  (simp (maxSteps := 4000000) only [l1 d hd, l2 d hd, w1, w2, w3, w4, LZ, seval, reduceCtorEq, forall_const])
  repeat (refine And.intro (by first | omega | exact True.intro | rfl) ?_)
  refine loop_once ?_
  refine ex_sound 2000 _ _ _ _ ?_
  (simp (maxSteps := 4000000) only [l1 a ha, l2 a ha, w1, w2, w3, w4, LZ, seval, reduceCtorEq, forall_const])
  repeat (refine And.intro (by first | omega | exact True.intro | rfl) ?_)
  refine loop_once ?_
  refine ex_sound 2000 _ _ _ _ ?_
  (simp (maxSteps := 4000000) only [l1 b hb, l2 b hb, w1, w2, w3, w4, LZ, seval, reduceCtorEq, forall_const])
  repeat (refine And.intro (by first | omega | exact True.intro | rfl) ?_)
  refine loop_once ?_
  refine ex_sound 2000 _ _ _ _ ?_
  (simp (maxSteps := 4000000) only [l1 c hc, l2 c hc, w1, w2, w3, w4, LZ, seval, reduceCtorEq, forall_const])
  repeat (refine And.intro (by first | omega | exact True.intro | rfl) ?_)
  refine loop_once ?_
  refine ex_sound 2000 _ _ _ _ ?_
  (simp (maxSteps := 4000000) only [LZ, seval, reduceCtorEq, forall_const])
  refine RetS.mk hx [] [] _ _ _ (by decide) (by (simp only [LV, cdW, LZ, seval, reduceCtorEq, forall_const])) (by ((try simp only [LV, cdW, LZ, seval, reduceCtorEq, forall_const, LY, seval, reduceCtorEq, implies_true]); first | done | exact True.intro | (intros; rfl))) (by ((try simp only [cdW, LY, seval, reduceCtorEq, implies_true]); first | done | exact True.intro | (intros; rfl))) ⟨rfl, rfl, rfl⟩
end Mv
