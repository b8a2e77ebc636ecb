/- The machine: parts of an instruction; stop; steps, by what the instruction is. -/
import Derived.Test.YtncipgmjhaiagaaDoorT
import Derived.Test.YtncipgmjhaiagaaDoorW1
import Derived.Test.YtncipgmjhaiagaaDoorW2
import Derived.Test.YtncipgmjhaiagaaDoorDh
set_option linter.unusedSimpArgs false
set_option linter.unusedVariables false
namespace Mv
open Go
/-- (*moot/vm.Machine).Step -/
def c70 : LC := (.seq (.reg [A1 4 (.mv (.c .nili))])
 ((.seq ((.seq (.reg [A1 14 (.mv (.t 0)),
  A1 15 (.eq false true .ptr (.t 14) (.c .nilp)),
  A1 16 (.mv (.t 15)),
  A2 17 16 false (.mv (.t 1)),
  A2 18 16 false (.eq false true .ptr (.t 17) (.c .nilp)),
  A1 19 (.pick (.t 16) (.c (.bool true)) (.t 18))])
 (.cond (.t 19) ((.seq (.reg [A1 20 (.mkif 74 (.c (.int .i64 1))),
  A1 4 (.mv (.t 20))])
 (.ret))) (.skip))))
 ((.seq ((.seq (.reg [A1 21 (.mv (.t 0)),
  A1 22 (.nilc (.t 21)),
  A1 23 (.fadr 8209 (.t 22)),
  A1 24 (.load false 1 (.t 23))])
 (.cond (.t 24) ((.seq (.reg [A1 4 (.mv (.c .nili))])
 (.ret))) (.skip))))
 ((.seq ((.seq (.reg [A1 25 (.mv (.t 0)),
  A1 26 (.nilc (.t 25)),
  A1 27 (.fadr 8208 (.t 26)),
  A1 28 (.load false 1 (.t 27)),
  A1 29 (.ari .geq (.t 28) (.c (.int .u64 8192)))])
 (.cond (.t 29) ((.seq (.reg [A1 30 (.mv (.t 0)),
  ⟨(some 31), .call 214 [(.t 30), (.c (.int .u64 18446744073709551614))], none⟩])
 ((.seq (.reg [A1 4 (.mv (.c .nili))])
 (.ret))))) (.skip))))
 ((.seq (.regd [⟨0, 0, A1 33 (.mv (.t 0))⟩,
  ⟨1, 0, A1 34 (.mv (.t 0))⟩,
  ⟨2, 2, A1 35 (.nilc (.t 34))⟩,
  ⟨3, 6, A1 36 (.fadr 8208 (.t 35))⟩,
  ⟨4, 14, A1 37 (.load false 1 (.t 36))⟩,
  ⟨5, 1, A1 38 (.nilc (.t 33))⟩,
  ⟨6, 33, A1 39 (.fadr 0 (.t 38))⟩,
  ⟨7, 127, A1 40 (.iarr 8192 1 (.t 39) (.t 37))⟩,
  ⟨8, 255, A1 41 (.load false 1 (.t 40))⟩,
  ⟨9, 511, ⟨(some 42), .call 79 [(.t 41)], none⟩⟩,
  ⟨10, 1023, A1 32 (.mv (.t 42))⟩,
  ⟨11, 2047, A1 43 (.ext (.t 32) 0)⟩,
  ⟨12, 2047, A1 44 (.ext (.t 32) 1)⟩,
  ⟨13, 2047, A1 45 (.ext (.t 32) 2)⟩,
  ⟨14, 2047, A1 46 (.ext (.t 32) 3)⟩,
  ⟨15, 2047, A1 47 (.ext (.t 32) 4)⟩,
  ⟨16, 2047, A1 48 (.ext (.t 32) 5)⟩,
  ⟨17, 2047, A1 49 (.ext (.t 32) 6)⟩,
  ⟨18, 4095, A1 5 (.mv (.t 43))⟩,
  ⟨19, 270335, A1 6 (.mv (.t 44))⟩,
  ⟨20, 802815, A1 7 (.mv (.t 45))⟩,
  ⟨21, 1867775, A1 8 (.mv (.t 46))⟩,
  ⟨22, 3997695, A1 9 (.mv (.t 47))⟩,
  ⟨23, 8257535, A1 10 (.mv (.t 48))⟩,
  ⟨24, 16777215, A1 11 (.mv (.t 49))⟩])
 ((.seq ((.seq (.reg [A1 50 (.mv (.t 11)),
  A1 51 (.un .not (.t 50))])
 (.cond (.t 51) ((.seq (.reg [A1 52 (.mv (.t 0)),
  ⟨(some 53), .call 214 [(.t 52), (.c (.int .u64 18446744073709551614))], none⟩])
 ((.seq (.reg [A1 4 (.mv (.c .nili))])
 (.ret))))) (.skip))))
 ((.seq (.reg [A1 54 (.mv (.t 0)),
  A1 55 (.nilc (.t 54)),
  A1 56 (.fadr 8192 (.t 55)),
  A1 12 (.mv (.t 56))])
 ((.seq (.reg [A1 57 (.mv (.t 12)),
  A1 58 (.mv (.t 7)),
  A1 59 (.nilc (.t 57)),
  A1 60 (.iarr 16 1 (.t 59) (.t 58)),
  A1 61 (.load false 1 (.t 60)),
  A1 62 (.mv (.t 10)),
  A1 63 (.conv .u64 (.t 62)),
  A1 64 (.ari .add (.t 61) (.t 63)),
  A1 13 (.mv (.t 64))])
 ((.seq (.block 0 ((.seq (.reg [A1 66 (.mv (.t 5)),
  A1 67 (.ari .eql (.t 66) (.c (.int .i64 0))),
  A1 65 (.mv (.t 67))])
 (.cond (.t 65) ((.seq (.reg [A1 68 (.mv (.t 0)),
  A1 69 (.mv (.t 12)),
  A1 70 (.mv (.t 7)),
  A1 71 (.nilc (.t 69)),
  A1 72 (.iarr 16 1 (.t 71) (.t 70)),
  A1 73 (.load false 1 (.t 72)),
  ⟨(some 74), .call 214 [(.t 68), (.t 73)], none⟩])
 ((.seq (.reg [A1 4 (.mv (.c .nili))])
 (.ret))))) ((.seq (.reg [A1 76 (.mv (.t 5)),
  A1 77 (.ari .lss (.t 76) (.c (.int .i64 26))),
  A1 75 (.mv (.t 77))])
 (.cond (.t 75) (.regd [⟨2, 0, A1 81 (.mv (.t 5))⟩,
  ⟨3, 0, A1 82 (.mv (.t 12))⟩,
  ⟨4, 0, A1 83 (.mv (.t 7))⟩,
  ⟨5, 2, A1 84 (.nilc (.t 82))⟩,
  ⟨6, 14, A1 85 (.iarr 16 1 (.t 84) (.t 83))⟩,
  ⟨7, 30, A1 86 (.load false 1 (.t 85))⟩,
  ⟨8, 0, A1 87 (.mv (.t 12))⟩,
  ⟨9, 0, A1 88 (.mv (.t 8))⟩,
  ⟨10, 64, A1 89 (.nilc (.t 87))⟩,
  ⟨11, 448, A1 90 (.iarr 16 1 (.t 89) (.t 88))⟩,
  ⟨12, 960, A1 91 (.load false 1 (.t 90))⟩,
  ⟨13, 0, A1 92 (.mv (.t 12))⟩,
  ⟨14, 0, A1 93 (.mv (.t 9))⟩,
  ⟨15, 2048, A1 94 (.nilc (.t 92))⟩,
  ⟨16, 14336, A1 95 (.iarr 16 1 (.t 94) (.t 93))⟩,
  ⟨17, 30720, A1 96 (.load false 1 (.t 95))⟩,
  ⟨18, 65535, ⟨(some 97), .call 215 [(.t 81), (.t 86), (.t 91), (.t 96)], none⟩⟩,
  ⟨0, 0, A1 79 (.mv (.t 12))⟩,
  ⟨1, 0, A1 80 (.mv (.t 6))⟩,
  ⟨19, 131071, A1 78 (.mv (.t 97))⟩,
  ⟨20, 655359, A1 98 (.ext (.t 78) 0)⟩,
  ⟨22, 131072, A1 100 (.nilc (.t 79))⟩,
  ⟨23, 4194303, A1 101 (.iarr 16 1 (.t 100) (.t 80))⟩,
  ⟨24, 8388607, A0 (.store 1 (.t 101) (.t 98))⟩,
  ⟨21, 655359, A1 99 (.ext (.t 78) 1)⟩]) ((.seq (.reg [A1 103 (.mv (.t 5)),
  A1 104 (.ari .eql (.t 103) (.c (.int .i64 26))),
  A1 102 (.mv (.t 104))])
 (.cond (.t 102) (.reg [A1 105 (.mv (.t 12)),
  A1 106 (.mv (.t 6)),
  A1 107 (.mv (.t 10)),
  A1 108 (.conv .u64 (.t 107)),
  A1 109 (.nilc (.t 105)),
  A1 110 (.iarr 16 1 (.t 109) (.t 106)),
  A0 (.store 1 (.t 110) (.t 108))]) ((.seq (.reg [A1 112 (.mv (.t 5)),
  A1 113 (.ari .eql (.t 112) (.c (.int .i64 27))),
  A1 114 (.mv (.t 113)),
  A2 115 114 false (.mv (.t 5)),
  A2 116 114 false (.ari .eql (.t 115) (.c (.int .i64 28))),
  A1 117 (.pick (.t 114) (.c (.bool true)) (.t 116)),
  A1 111 (.mv (.t 117))])
 (.cond (.t 111) ((.seq ((.seq (.reg [A1 118 (.mv (.t 13)),
  A1 119 (.ari .geq (.t 118) (.c (.int .u64 8192)))])
 (.cond (.t 119) ((.seq (.reg [A1 120 (.mv (.t 0)),
  ⟨(some 121), .call 214 [(.t 120), (.c (.int .u64 18446744073709551614))], none⟩])
 ((.seq (.reg [A1 4 (.mv (.c .nili))])
 (.ret))))) (.skip))))
 ((.seq (.reg [A1 122 (.mv (.t 5)),
  A1 123 (.ari .eql (.t 122) (.c (.int .i64 27)))])
 (.cond (.t 123) (.regd [⟨0, 0, A1 124 (.mv (.t 12))⟩,
  ⟨1, 0, A1 125 (.mv (.t 6))⟩,
  ⟨2, 0, A1 126 (.mv (.t 0))⟩,
  ⟨3, 0, A1 127 (.mv (.t 13))⟩,
  ⟨4, 4, A1 128 (.nilc (.t 126))⟩,
  ⟨5, 20, A1 129 (.fadr 0 (.t 128))⟩,
  ⟨6, 60, A1 130 (.iarr 8192 1 (.t 129) (.t 127))⟩,
  ⟨7, 124, A1 131 (.load false 1 (.t 130))⟩,
  ⟨8, 1, A1 132 (.nilc (.t 124))⟩,
  ⟨9, 511, A1 133 (.iarr 16 1 (.t 132) (.t 125))⟩,
  ⟨10, 1023, A0 (.store 1 (.t 133) (.t 131))⟩]) (.regd [⟨0, 0, A1 134 (.mv (.t 0))⟩,
  ⟨1, 0, A1 135 (.mv (.t 13))⟩,
  ⟨2, 0, A1 136 (.mv (.t 12))⟩,
  ⟨3, 0, A1 137 (.mv (.t 8))⟩,
  ⟨4, 4, A1 138 (.nilc (.t 136))⟩,
  ⟨5, 28, A1 139 (.iarr 16 1 (.t 138) (.t 137))⟩,
  ⟨6, 60, A1 140 (.load false 1 (.t 139))⟩,
  ⟨7, 1, A1 141 (.nilc (.t 134))⟩,
  ⟨8, 129, A1 142 (.fadr 0 (.t 141))⟩,
  ⟨9, 511, A1 143 (.iarr 8192 1 (.t 142) (.t 135))⟩,
  ⟨10, 1023, A0 (.store 1 (.t 143) (.t 140))⟩])))))) ((.seq (.reg [A1 145 (.mv (.t 5)),
  A1 146 (.ari .lss (.t 145) (.c (.int .i64 34))),
  A1 144 (.mv (.t 146))])
 (.cond (.t 144) ((.seq (.reg [A1 147 (.mv (.t 0)),
  A1 148 (.mv (.t 5)),
  A1 149 (.mv (.t 6)),
  A1 150 (.mv (.t 7)),
  A1 151 (.mv (.t 10)),
  A1 152 (.conv .u64 (.t 151)),
  ⟨(some 153), .call 216 [(.t 147), (.t 148), (.t 149), (.t 150), (.t 152)], none⟩])
 ((.seq (.reg [A1 4 (.mv (.c .nili))])
 (.ret))))) ((.seq (.regd [⟨0, 0, A1 155 (.mv (.t 0))⟩,
  ⟨1, 0, A1 156 (.mv (.t 1))⟩,
  ⟨2, 0, A1 157 (.mv (.t 5))⟩,
  ⟨3, 0, A1 158 (.mv (.t 12))⟩,
  ⟨4, 0, A1 159 (.mv (.t 7))⟩,
  ⟨5, 8, A1 160 (.nilc (.t 158))⟩,
  ⟨6, 56, A1 161 (.iarr 16 1 (.t 160) (.t 159))⟩,
  ⟨7, 120, A1 162 (.load false 1 (.t 161))⟩,
  ⟨8, 0, A1 163 (.mv (.t 12))⟩,
  ⟨9, 0, A1 164 (.mv (.t 8))⟩,
  ⟨10, 256, A1 165 (.nilc (.t 163))⟩,
  ⟨11, 1792, A1 166 (.iarr 16 1 (.t 165) (.t 164))⟩,
  ⟨12, 3840, A1 167 (.load false 1 (.t 166))⟩,
  ⟨13, 8191, ⟨(some 168), .call 217 [(.t 155), (.t 156), (.t 157), (.t 162), (.t 167)], none⟩⟩,
  ⟨14, 16383, A1 169 (.un .not (.t 168))⟩,
  ⟨15, 32767, A1 154 (.mv (.t 169))⟩])
 (.cond (.t 154) ((.seq (.reg [A1 4 (.mv (.c .nili))])
 (.ret))) (.skip))))))))))))))))))))
 ((.seq (.reg [A1 170 (.mv (.t 0)),
  A1 171 (.nilc (.t 170)),
  A1 172 (.fadr 8208 (.t 171)),
  A1 173 (.load false 1 (.t 172)),
  A1 174 (.ari .add (.t 173) (.c (.int .u64 1))),
  A1 175 (.nilc (.t 170)),
  A1 176 (.fadr 8208 (.t 175)),
  A0 (.store 1 (.t 176) (.t 174))])
 ((.seq (.reg [A1 4 (.mv (.c .nili))])
 (.ret))))))))))))))))))))))
def f70 : LF := ⟨c70, 2, 0, 177, [.tmp 4]⟩

/-- moot/vm.Parts -/
def c79 : LC := (.seq (.reg [A1 1 (.box (.t 0)),
  A1 2 (.mv (.c (.int .i64 0))),
  A1 3 (.mv (.c (.int .i64 0))),
  A1 4 (.mv (.c (.int .i64 0))),
  A1 5 (.mv (.c (.int .i64 0))),
  A1 6 (.mv (.c (.int .i64 0))),
  A1 7 (.mv (.c (.int .i64 0))),
  A1 8 (.mv (.c (.bool false)))])
 ((.seq (.reg [A1 10 (.load false 1 (.t 1)),
  A1 11 (.ari .shr (.t 10) (.c (.int .u64 56))),
  A1 12 (.conv .i64 (.t 11)),
  A1 2 (.mv (.t 12))])
 ((.seq ((.seq (.reg [A1 13 (.mv (.t 2)),
  A1 14 (.ari .gtr (.t 13) (.c (.int .i64 35))),
  A1 15 (.mv (.t 14)),
  A2 16 15 false (.load false 1 (.t 1)),
  A2 17 15 false (.ari .shr (.t 16) (.c (.int .u64 32))),
  A2 18 15 false (.ari .and (.t 17) (.c (.int .u64 255))),
  A2 19 15 false (.ari .neq (.t 18) (.c (.int .u64 0))),
  A1 20 (.pick (.t 15) (.c (.bool true)) (.t 19))])
 (.cond (.t 20) ((.seq (.reg [A1 2 (.mv (.c (.int .i64 0))),
  A1 3 (.mv (.c (.int .i64 0))),
  A1 4 (.mv (.c (.int .i64 0))),
  A1 5 (.mv (.c (.int .i64 0))),
  A1 6 (.mv (.c (.int .i64 0))),
  A1 7 (.mv (.c (.int .i64 0))),
  A1 8 (.mv (.c (.bool false)))])
 (.ret))) (.skip))))
 ((.seq (.reg [A1 21 (.mkfn 220 [(.t 1)]),
  A1 9 (.mv (.t 21))])
 ((.seq (.regd [⟨1, 0, A1 23 (.mv (.t 9))⟩,
  ⟨2, 1, ⟨(some 24), .dyn (.t 23) [(.c (.int .i64 52))], none⟩⟩,
  ⟨3, 0, A1 25 (.mv (.t 9))⟩,
  ⟨4, 7, ⟨(some 26), .dyn (.t 25) [(.c (.int .i64 48))], none⟩⟩,
  ⟨5, 0, A1 27 (.mv (.t 9))⟩,
  ⟨6, 31, ⟨(some 28), .dyn (.t 27) [(.c (.int .i64 44))], none⟩⟩,
  ⟨7, 0, A1 29 (.mv (.t 9))⟩,
  ⟨8, 127, ⟨(some 30), .dyn (.t 29) [(.c (.int .i64 40))], none⟩⟩,
  ⟨0, 0, A1 22 (.mv (.t 2))⟩,
  ⟨9, 0, A1 31 (.load false 1 (.t 1))⟩,
  ⟨10, 512, A1 32 (.conv .i32 (.t 31))⟩,
  ⟨11, 1536, A1 33 (.conv .i64 (.t 32))⟩,
  ⟨12, 511, A1 2 (.mv (.t 22))⟩,
  ⟨13, 4607, A1 3 (.mv (.t 24))⟩,
  ⟨14, 12799, A1 4 (.mv (.t 26))⟩,
  ⟨15, 29183, A1 5 (.mv (.t 28))⟩,
  ⟨16, 61951, A1 6 (.mv (.t 30))⟩,
  ⟨17, 131071, A1 7 (.mv (.t 33))⟩,
  ⟨18, 262143, A1 8 (.mv (.c (.bool true)))⟩])
 (.ret))))))))))
def f79 : LF := ⟨c79, 1, 0, 34, [.tmp 2, .tmp 3, .tmp 4, .tmp 5, .tmp 6, .tmp 7, .tmp 8]⟩

/-- (*moot/vm.Machine).stop -/
def c214 : LC := .reg [A1 4 (.mv (.t 0)),
  A1 5 (.mv (.t 0)),
  A1 6 (.mv (.t 1)),
  A1 7 (.nilc (.t 4)),
  A1 8 (.fadr 8209 (.t 7)),
  A0 (.store 1 (.t 8) (.c (.bool true))),
  A1 9 (.nilc (.t 5)),
  A1 10 (.fadr 8210 (.t 9)),
  A0 (.store 1 (.t 10) (.t 6))]
def f214 : LF := ⟨c214, 2, 0, 11, []⟩

/-- moot/vm.Parts$1 -/
def c220 : LC := (.seq (.reg [A1 3 (.mv (.c (.int .i64 0)))])
 ((.seq (.reg [A1 4 (.load false 1 (.t 1)),
  A1 5 (.mv (.t 0)),
  A1 6 (.ari .shr (.t 4) (.t 5)),
  A1 7 (.ari .and (.t 6) (.c (.int .u64 15))),
  A1 8 (.conv .i64 (.t 7)),
  A1 3 (.mv (.t 8))])
 (.ret))))
def f220 : LF := ⟨c220, 1, 1, 9, [.tmp 3]⟩

/-- moot/word.Apply -/
def c215 : LC := (.seq (.reg [A1 8 (.mv (.c (.int .u64 0))),
  A1 9 (.mv (.c .nili))])
 ((.seq ((.seq (.reg [A1 10 (.mv (.t 0))])
 (.block 0 ((.seq (.block 17 ((.seq (.block 16 ((.seq (.block 15 ((.seq (.block 14 ((.seq (.block 13 ((.seq (.block 12 ((.seq (.block 11 ((.seq (.block 10 ((.seq (.block 9 ((.seq (.block 8 ((.seq (.block 7 ((.seq (.block 6 ((.seq (.block 5 ((.seq (.block 4 ((.seq (.block 3 ((.seq (.block 2 ((.seq (.block 1 ((.seq ((.seq ((.seq (.reg [A1 12 (.ari .eql (.t 10) (.c (.int .i64 1))),
  A1 11 (.mv (.t 12))])
 (.cond (.t 11) (.exit 1) (.skip))))
 ((.seq ((.seq (.reg [A1 14 (.ari .eql (.t 10) (.c (.int .i64 2))),
  A1 13 (.mv (.t 14))])
 (.cond (.t 13) (.exit 2) (.skip))))
 ((.seq ((.seq (.reg [A1 16 (.ari .eql (.t 10) (.c (.int .i64 3))),
  A1 15 (.mv (.t 16))])
 (.cond (.t 15) (.exit 3) (.skip))))
 ((.seq ((.seq ((.seq (.reg [A1 18 (.ari .eql (.t 10) (.c (.int .i64 4))),
  A1 17 (.mv (.t 18))])
 (.cond (.t 17) (.skip) ((.seq (.reg [A1 19 (.ari .eql (.t 10) (.c (.int .i64 5))),
  A1 17 (.mv (.t 19))])
 (.cond (.t 17) (.skip) ((.seq (.reg [A1 20 (.ari .eql (.t 10) (.c (.int .i64 6))),
  A1 17 (.mv (.t 20))])
 (.cond (.t 17) (.skip) (.reg [A1 21 (.ari .eql (.t 10) (.c (.int .i64 7))),
  A1 17 (.mv (.t 21))]))))))))))
 (.cond (.t 17) (.exit 4) (.skip))))
 ((.seq ((.seq ((.seq (.reg [A1 23 (.ari .eql (.t 10) (.c (.int .i64 8))),
  A1 22 (.mv (.t 23))])
 (.cond (.t 22) (.skip) (.reg [A1 24 (.ari .eql (.t 10) (.c (.int .i64 9))),
  A1 22 (.mv (.t 24))]))))
 (.cond (.t 22) (.exit 5) (.skip))))
 ((.seq ((.seq (.reg [A1 26 (.ari .eql (.t 10) (.c (.int .i64 10))),
  A1 25 (.mv (.t 26))])
 (.cond (.t 25) (.exit 6) (.skip))))
 ((.seq ((.seq ((.seq (.reg [A1 28 (.ari .eql (.t 10) (.c (.int .i64 11))),
  A1 27 (.mv (.t 28))])
 (.cond (.t 27) (.skip) ((.seq (.reg [A1 29 (.ari .eql (.t 10) (.c (.int .i64 12))),
  A1 27 (.mv (.t 29))])
 (.cond (.t 27) (.skip) ((.seq (.reg [A1 30 (.ari .eql (.t 10) (.c (.int .i64 13))),
  A1 27 (.mv (.t 30))])
 (.cond (.t 27) (.skip) ((.seq (.reg [A1 31 (.ari .eql (.t 10) (.c (.int .i64 14))),
  A1 27 (.mv (.t 31))])
 (.cond (.t 27) (.skip) (.reg [A1 32 (.ari .eql (.t 10) (.c (.int .i64 15))),
  A1 27 (.mv (.t 32))])))))))))))))
 (.cond (.t 27) (.exit 7) (.skip))))
 ((.seq ((.seq (.reg [A1 34 (.ari .eql (.t 10) (.c (.int .i64 17))),
  A1 33 (.mv (.t 34))])
 (.cond (.t 33) (.exit 8) (.skip))))
 ((.seq ((.seq (.reg [A1 36 (.ari .eql (.t 10) (.c (.int .i64 16))),
  A1 35 (.mv (.t 36))])
 (.cond (.t 35) (.exit 9) (.skip))))
 ((.seq ((.seq (.reg [A1 38 (.ari .eql (.t 10) (.c (.int .i64 19))),
  A1 37 (.mv (.t 38))])
 (.cond (.t 37) (.exit 10) (.skip))))
 ((.seq ((.seq (.reg [A1 40 (.ari .eql (.t 10) (.c (.int .i64 18))),
  A1 39 (.mv (.t 40))])
 (.cond (.t 39) (.exit 11) (.skip))))
 ((.seq ((.seq (.reg [A1 42 (.ari .eql (.t 10) (.c (.int .i64 21))),
  A1 41 (.mv (.t 42))])
 (.cond (.t 41) (.exit 12) (.skip))))
 ((.seq ((.seq (.reg [A1 44 (.ari .eql (.t 10) (.c (.int .i64 20))),
  A1 43 (.mv (.t 44))])
 (.cond (.t 43) (.exit 13) (.skip))))
 ((.seq ((.seq (.reg [A1 46 (.ari .eql (.t 10) (.c (.int .i64 22))),
  A1 45 (.mv (.t 46))])
 (.cond (.t 45) (.exit 14) (.skip))))
 ((.seq ((.seq (.reg [A1 48 (.ari .eql (.t 10) (.c (.int .i64 23))),
  A1 47 (.mv (.t 48))])
 (.cond (.t 47) (.exit 15) (.skip))))
 ((.seq ((.seq (.reg [A1 50 (.ari .eql (.t 10) (.c (.int .i64 25))),
  A1 49 (.mv (.t 50))])
 (.cond (.t 49) (.exit 16) (.skip))))
 ((.seq (.reg [A1 52 (.ari .eql (.t 10) (.c (.int .i64 24))),
  A1 51 (.mv (.t 52))])
 (.cond (.t 51) (.exit 17) (.skip))))))))))))))))))))))))))))))))))))
 (.exit 0))))
 ((.seq ((.seq (.reg [A1 53 (.mv (.t 1)),
  A1 54 (.mv (.t 2)),
  A1 55 (.ari .add (.t 53) (.t 54)),
  A1 8 (.mv (.t 55)),
  A1 9 (.mv (.c .nili))])
 (.ret)))
 (.exit 0))))))
 ((.seq ((.seq (.reg [A1 56 (.mv (.t 1)),
  A1 57 (.mv (.t 2)),
  A1 58 (.ari .sub (.t 56) (.t 57)),
  A1 8 (.mv (.t 58)),
  A1 9 (.mv (.c .nili))])
 (.ret)))
 (.exit 0))))))
 ((.seq ((.seq (.reg [A1 59 (.mv (.t 1)),
  A1 60 (.mv (.t 2)),
  A1 61 (.ari .mul (.t 59) (.t 60)),
  A1 8 (.mv (.t 61)),
  A1 9 (.mv (.c .nili))])
 (.ret)))
 (.exit 0))))))
 ((.seq ((.seq (.reg [A1 62 (.mv (.t 0)),
  A1 63 (.mv (.t 1)),
  A1 64 (.mv (.t 2)),
  ⟨(some 65), .call 321 [(.t 62), (.t 63), (.t 64)], none⟩,
  A1 8 (.mv (.t 65)),
  A1 9 (.mv (.c .nili))])
 (.ret)))
 (.exit 0))))))
 ((.seq ((.seq (.reg [A1 66 (.mv (.t 0)),
  A1 67 (.mv (.t 1)),
  A1 68 (.mv (.t 2)),
  A1 69 (.mv (.t 3)),
  ⟨(some 70), .call 322 [(.t 66), (.t 67), (.t 68), (.t 69)], none⟩,
  A1 8 (.mv (.t 70)),
  A1 9 (.mv (.c .nili))])
 (.ret)))
 (.exit 0))))))
 ((.seq ((.seq (.reg [A1 71 (.mv (.t 1)),
  A1 72 (.mv (.t 2)),
  ⟨(some 73), .call 323 [(.t 71), (.t 72)], none⟩,
  A1 8 (.mv (.t 73)),
  A1 9 (.mv (.c .nili))])
 (.ret)))
 (.exit 0))))))
 ((.seq ((.seq (.reg [A1 74 (.mv (.t 0)),
  A1 75 (.mv (.t 1)),
  A1 76 (.mv (.t 2)),
  ⟨(some 77), .call 324 [(.t 74), (.t 75), (.t 76)], none⟩,
  A1 8 (.mv (.t 77)),
  A1 9 (.mv (.c .nili))])
 (.ret)))
 (.exit 0))))))
 (.reg [A1 78 (.mv (.t 2)),
  A1 79 (.mv (.t 1)),
  A1 1 (.mv (.t 78)),
  A1 2 (.mv (.t 79))]))))
 ((.seq ((.seq (.reg [A1 80 (.mv (.t 1)),
  A1 81 (.mv (.t 2)),
  A1 82 (.ari .lss (.t 80) (.t 81)),
  ⟨(some 83), .call 325 [(.t 82)], none⟩,
  A1 8 (.mv (.t 83)),
  A1 9 (.mv (.c .nili))])
 (.ret)))
 (.exit 0))))))
 (.reg [A1 84 (.mv (.t 2)),
  A1 85 (.mv (.t 1)),
  A1 1 (.mv (.t 84)),
  A1 2 (.mv (.t 85))]))))
 ((.seq ((.seq (.reg [A1 86 (.mv (.t 1)),
  A1 87 (.conv .i64 (.t 86)),
  A1 88 (.mv (.t 2)),
  A1 89 (.conv .i64 (.t 88)),
  A1 90 (.ari .lss (.t 87) (.t 89)),
  ⟨(some 91), .call 325 [(.t 90)], none⟩,
  A1 8 (.mv (.t 91)),
  A1 9 (.mv (.c .nili))])
 (.ret)))
 (.exit 0))))))
 (.reg [A1 2 (.mv (.c (.int .u64 0)))]))))
 ((.seq ((.seq (.reg [A1 92 (.mv (.t 1)),
  A1 93 (.mv (.t 2)),
  A1 94 (.ari .eql (.t 92) (.t 93)),
  ⟨(some 95), .call 325 [(.t 94)], none⟩,
  A1 8 (.mv (.t 95)),
  A1 9 (.mv (.c .nili))])
 (.ret)))
 (.exit 0))))))
 ((.seq ((.seq (.reg [A1 96 (.mv (.t 1)),
  A1 97 (.mv (.t 2)),
  A1 98 (.ari .and (.t 96) (.t 97)),
  A1 8 (.mv (.t 98)),
  A1 9 (.mv (.c .nili))])
 (.ret)))
 (.exit 0))))))
 ((.seq ((.seq (.reg [A1 99 (.mv (.t 1)),
  A1 100 (.mv (.t 2)),
  A1 101 (.ari .or (.t 99) (.t 100)),
  A1 8 (.mv (.t 101)),
  A1 9 (.mv (.c .nili))])
 (.ret)))
 (.exit 0))))))
 (.reg [A1 2 (.mv (.c (.int .u64 18446744073709551615)))]))))
 ((.seq ((.seq (.reg [A1 102 (.mv (.t 1)),
  A1 103 (.mv (.t 2)),
  A1 104 (.ari .xor (.t 102) (.t 103)),
  A1 8 (.mv (.t 104)),
  A1 9 (.mv (.c .nili))])
 (.ret)))
 (.exit 0))))))))
 ((.seq (.reg [A1 105 (.mkif 74 (.c (.int .i64 10))),
  A1 8 (.mv (.c (.int .u64 0))),
  A1 9 (.mv (.t 105))])
 (.ret))))))
def f215 : LF := ⟨c215, 4, 0, 106, [.tmp 8, .tmp 9]⟩

end Mv
namespace Mv
open Go
set_option maxRecDepth 20000
set_option maxHeartbeats 4000000
set_option linter.unusedSimpArgs false

structure OkV (M : Seat) : Prop extends OkS M where
  k70 : chkF M 70 f70 = true
  k79 : chkF M 79 f79 = true
  k214 : chkF M 214 f214 = true
  k220 : chkF M 220 f220 = true
  fn220 : FnOK M 220

def pOp (w : BitVec 64) : Nat := (w >>> 56).toNat
def pF (w : BitVec 64) (k : Nat) : Nat := (w >>> k &&& 15#64).toNat
def pN (w : BitVec 64) : Int := (w.setWidth 32).toInt
theorem pOp_int (w : BitVec 64) : (w >>> 56).toInt = (pOp w : Int) := by
  have h : (w >>> 56).toNat < 256 := by rw [BitVec.toNat_ushiftRight, Nat.shiftRight_eq_div_pow]; have := w.isLt; omega
  rw [BitVec.toInt_eq_toNat_cond, if_pos (by omega)]; rfl
theorem pF_lt (w : BitVec 64) (k : Nat) : pF w k < 16 := by
  rw [pF, BitVec.toNat_and]
  exact Nat.lt_of_le_of_lt Nat.and_le_right (by decide)
theorem pF_int (w : BitVec 64) (k : Nat) : (w >>> k &&& 15#64).toInt = (pF w k : Int) := by
  have h := pF_lt w k
  rw [BitVec.toInt_eq_toNat_cond, if_pos (by unfold pF at h; omega)]; rfl

theorem runs_stop {M : Seat} (ok : OkV M) (f g : Nat → BitVec 64) (pc : BitVec 64) (hl : Bool) (xt e : BitVec 64) :
    Runs M 214 [.ptr 0 [], W e] [(0, mach f g pc hl xt)] 1 (fun r H' k' => r = .tup .fnil ∧ H' = [(0, mach f g pc true e)] ∧ k' = 1) := by
  refine runs_fr ok.k214 rfl fun x hx => ?_
  refine ex_sound 2000 _ _ _ _ ?_; (simp (maxSteps := 4000000) only [f214, c214, mach, LZ, seval, reduceCtorEq, forall_const])
  refine RetS.mk hx [0] [] (.tup .fnil) ([(0, mach f g pc true e)]) 1 (by decide) (by (simp only [LV, LZ, seval, reduceCtorEq, forall_const])) (by ((try simp only [LV, LZ, seval, reduceCtorEq, forall_const, LY, seval, reduceCtorEq, implies_true]); first | done | exact True.intro | (intros; rfl))) ?_ ⟨rfl, rfl, rfl⟩
  all_goals simp only [mach, LY, seval, reduceCtorEq, implies_true]

theorem runs_four1 {M : Seat} (ok : OkV M) (w : BitVec 64) (k : Nat) : Runs M 220 [.int .i64 k, .imm (W w)] [] 0 (fun r H' k' => r = .int .i64 (pF w k : Nat) ∧ H' = [] ∧ k' = 0) := by
  refine runs_fr ok.k220 rfl fun x hx => ?_
  refine ex_sound 2000 _ _ _ _ ?_; (simp (maxSteps := 4000000) only [f220, c220, LZ, seval, reduceCtorEq, forall_const])
  simp only [pF_int]
  repeat (refine And.intro (by first | omega | exact True.intro | rfl) ?_)
  refine RetS.mk hx [] [] (.int .i64 (pF w k : Nat)) [] 0 (by decide) (by (simp only [LV, LZ, seval, reduceCtorEq, forall_const])) (by ((try simp only [LV, LZ, seval, reduceCtorEq, forall_const, LY, seval, reduceCtorEq, implies_true]); first | done | exact True.intro | (intros; rfl))) trivial ⟨rfl, rfl, rfl⟩

def partsR (w : BitVec 64) : V := .tup (.fcons 0 (.int .i64 (pOp w)) (.fcons 1 (.int .i64 (pF w 52)) (.fcons 2 (.int .i64 (pF w 48)) (.fcons 3 (.int .i64 (pF w 44)) (.fcons 4 (.int .i64 (pF w 40)) (.fcons 5 (.int .i64 (pN w)) (.fcons 6 (.bool true) .fnil)))))))
theorem runs_Parts {M : Seat} (ok : OkV M) (w : BitVec 64) (h1 : pOp w ≤ 35) (h2 : w >>> 32 &&& 255#64 = 0#64) : Runs M 79 [W w] [] 0 (fun r H' k' => r = partsR w ∧ H' = [] ∧ k' = 0) := by
  refine runs_fr ok.k79 rfl fun x hx => ?_
  have e1 : ((35 : Int) < (pOp w : Int)) = False := eq_false (by omega)
  refine ex_sound 2000 _ _ _ _ ?_; (simp (maxSteps := 4000000) only [f79, c79, pOp_int, e1, h2, LZ, seval, reduceCtorEq, forall_const])
  have wn : IntKind.i64.wrap (w.setWidth 32).toInt = pN w := by
    have h1 := BitVec.toInt_lt (x := w.setWidth 32)
    have h2 := BitVec.le_toInt (x := w.setWidth 32)
    rw [wrap_i64 (by omega)]; rfl
  refine opy_1 (ok.fn220) (by rfl) (runs_four1 ok w 52) (by ((try simp only [LY, seval, reduceCtorEq, implies_true]); first | done | exact True.intro | rfl)) (by first | rfl | (simp only [LN, LP, V.ren, tup2, tup3])) (by simp only [LX, implies_true]) ?_
  (simp (maxSteps := 4000000) only [LZ, seval, reduceCtorEq, forall_const])
  refine opy_1 (ok.fn220) (by rfl) (runs_four1 ok w 48) (by ((try simp only [LY, seval, reduceCtorEq, implies_true]); first | done | exact True.intro | rfl)) (by first | rfl | (simp only [LN, LP, V.ren, tup2, tup3])) (by simp only [LX, implies_true]) ?_
  (simp (maxSteps := 4000000) only [LZ, seval, reduceCtorEq, forall_const])
  refine opy_1 (ok.fn220) (by rfl) (runs_four1 ok w 44) (by ((try simp only [LY, seval, reduceCtorEq, implies_true]); first | done | exact True.intro | rfl)) (by first | rfl | (simp only [LN, LP, V.ren, tup2, tup3])) (by simp only [LX, implies_true]) ?_
  (simp (maxSteps := 4000000) only [LZ, seval, reduceCtorEq, forall_const])
  refine opy_1 (ok.fn220) (by rfl) (runs_four1 ok w 40) (by ((try simp only [LY, seval, reduceCtorEq, implies_true]); first | done | exact True.intro | rfl)) (by first | rfl | (simp only [LN, LP, V.ren, tup2, tup3])) (by simp only [LX, implies_true]) ?_
  (simp (maxSteps := 4000000) only [wn, LZ, seval, reduceCtorEq, forall_const])
  refine RetS.mk hx [] [] (partsR w) [] 0 (by decide) (by simp only [res, resPs, resP, tupP, resV, LZ, seval, reduceCtorEq, forall_const]) ?_ trivial ⟨rfl, rfl, rfl⟩
  simp only [partsR, res, resV, tupV, LZ, seval, reduceCtorEq, forall_const, LY, seval, reduceCtorEq, implies_true]

theorem runs_PartsNo {M : Seat} (ok : OkV M) (w : BitVec 64) (h1 : ¬ (pOp w ≤ 35 ∧ w >>> 32 &&& 255#64 = 0#64)) : Runs M 79 [W w] [] 0 (fun r H' k' => r = .tup (.fcons 0 (.int .i64 0) (.fcons 1 (.int .i64 0) (.fcons 2 (.int .i64 0) (.fcons 3 (.int .i64 0) (.fcons 4 (.int .i64 0) (.fcons 5 (.int .i64 0) (.fcons 6 (.bool false) .fnil))))))) ∧ H' = [] ∧ k' = 0) := by
  refine runs_fr ok.k79 rfl fun x hx => ?_
  by_cases hp : pOp w ≤ 35
  · have e1 : ((35 : Int) < (pOp w : Int)) = False := eq_false (by omega)
    have e2 : (w >>> 32 &&& 255#64 = 0#64) = False := eq_false (fun h => h1 ⟨hp, h⟩)
    refine ex_sound 2000 _ _ _ _ ?_; (simp (maxSteps := 4000000) only [f79, c79, pOp_int, e1, e2, LZ, seval, reduceCtorEq, forall_const])
    refine RetS.mk hx [] [] (.tup (.fcons 0 (.int .i64 0) (.fcons 1 (.int .i64 0) (.fcons 2 (.int .i64 0) (.fcons 3 (.int .i64 0) (.fcons 4 (.int .i64 0) (.fcons 5 (.int .i64 0) (.fcons 6 (.bool false) .fnil)))))))) [] 0 (by decide) (by (simp only [LV, LZ, seval, reduceCtorEq, forall_const])) (by ((try simp only [LV, LZ, seval, reduceCtorEq, forall_const, LY, seval, reduceCtorEq, implies_true]); first | done | exact True.intro | (intros; rfl))) trivial ⟨rfl, rfl, rfl⟩
  · have e1 : ((35 : Int) < (pOp w : Int)) = True := eq_true (by omega)
    refine ex_sound 2000 _ _ _ _ ?_; (simp (maxSteps := 4000000) only [f79, c79, pOp_int, e1, LZ, seval, reduceCtorEq, forall_const])
    refine RetS.mk hx [] [] (.tup (.fcons 0 (.int .i64 0) (.fcons 1 (.int .i64 0) (.fcons 2 (.int .i64 0) (.fcons 3 (.int .i64 0) (.fcons 4 (.int .i64 0) (.fcons 5 (.int .i64 0) (.fcons 6 (.bool false) .fnil)))))))) [] 0 (by decide) (by (simp only [LV, LZ, seval, reduceCtorEq, forall_const])) (by ((try simp only [LV, LZ, seval, reduceCtorEq, forall_const, LY, seval, reduceCtorEq, implies_true]); first | done | exact True.intro | (intros; rfl))) trivial ⟨rfl, rfl, rfl⟩

abbrev wrongW : BitVec 64 := 18446744073709551614#64
theorem runs_StepHalt {M : Seat} (ok : OkV M) (f g : Nat → BitVec 64) (pc xt : BitVec 64) (hpc : ¬ 8192#64 ≤ pc) (w : BitVec 64) (hw : f pc.toNat = w) (hop : pOp w = 0) (h2 : w >>> 32 &&& 255#64 = 0#64) :
    Runs M 70 [.ptr 0 [], .ptr 1 []] [(0, mach f g pc false xt)] 2 (fun r H' k' => r = .nili ∧ H' = [(0, mach f g pc true (g (pF w 48)))] ∧ k' = 2) := by
  refine runs_fr ok.k70 rfl fun x hx => ?_
  have hp : pc.toNat < 8192 := by rw [BitVec.le_def] at hpc; simpa using hpc
  have a1 := pF_lt w 52
  have a2 := pF_lt w 48
  have a3 := pF_lt w 44
  have a4 := pF_lt w 40
  refine ex_sound 2000 _ _ _ _ ?_; (simp (maxSteps := 4000000) only [f70, c70, mach, hpc, hw, LZ, seval, reduceCtorEq, forall_const])
  repeat (refine And.intro (by first | omega | exact True.intro | rfl) ?_)
  refine opd_pA (runs_Parts ok w (by omega) h2) (by ((try simp only [partsR, LY, seval, reduceCtorEq, implies_true]); first | done | exact True.intro | rfl)) (by first | rfl | (simp only [LN, LP, V.ren, tup2, tup3])) (by simp only [partsR, LX, implies_true]) ?_
  (simp (maxSteps := 4000000) only [partsR, hop, LZ, seval, reduceCtorEq, forall_const])
  repeat (refine And.intro (by first | omega | exact True.intro | rfl) ?_)
  refine call_mA [0] (runs_stop ok f g pc false xt (g (pF w 48))) (by decide) (by rfl) (by ((try simp only [mach, LY, seval, reduceCtorEq, implies_true]); first | done | exact True.intro | rfl)) (by ((try simp only [mach, LY, seval, reduceCtorEq, implies_true]); first | done | exact True.intro | rfl)) (by simp only [mach, LX, implies_true]) (by simp only [mach, LX, implies_true]) ?_
  (simp (maxSteps := 4000000) only [mach, LZ, seval, reduceCtorEq, forall_const])
  refine RetS.mk hx [0, 1] [] (.nili) ([(0, mach f g pc true (g (pF w 48)))]) 2 (by decide) (by (simp only [LV, LZ, seval, reduceCtorEq, forall_const])) (by ((try simp only [LV, LZ, seval, reduceCtorEq, forall_const, LY, seval, reduceCtorEq, implies_true]); first | done | exact True.intro | (intros; rfl))) ?_ ⟨rfl, rfl, rfl⟩
  all_goals simp only [mach, upd, ite_W, LY, seval, reduceCtorEq, implies_true]

end Mv
namespace Mv
open Go
set_option maxRecDepth 20000
set_option maxHeartbeats 4000000
set_option linter.unusedSimpArgs false

structure Mc where
  f : Nat → BitVec 64
  g : Nat → BitVec 64
  pc : BitVec 64
  hl : Bool
  xt : BitVec 64
def Mc.v (m : Mc) : V := mach m.f m.g m.pc m.hl m.xt
end Mv
namespace Mv
open Go
set_option maxRecDepth 20000
set_option maxHeartbeats 4000000
set_option linter.unusedSimpArgs false

structure OkI (M : Seat) : Prop extends OkV M where
end Mv
