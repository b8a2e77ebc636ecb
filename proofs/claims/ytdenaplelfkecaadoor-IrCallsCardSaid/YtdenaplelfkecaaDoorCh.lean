/- A part of the tool. -/
import Derived.Test.YtdenaplelfkecaaDoorT
set_option linter.unusedSimpArgs false
set_option linter.unusedVariables false
namespace Mv
open Go
/-- moot/mootref05.Zeros -/
def c205 : LC := (.seq (.reg [A1 0 (.mv (.c .nils))])
 ((.seq (.reg [A1 3 (.mksl 32 32 (.ar 32 (.int .u8)) (.c (.int .i64 1)) (.c (.int .i64 1))),
  A1 1 (.mv (.t 3))])
 ((.seq ((.seq (.reg [A1 2 (.mv (.c (.int .i64 0)))])
 (.block 0 (.loop ((.seq ((.seq (.reg [A1 4 (.mv (.t 2)),
  A1 5 (.ari .lss (.t 4) (.c (.int .i64 16)))])
 (.cond (.t 5) (.skip) (.exit 0))))
 ((.seq (.block 1 (.regd [⟨1, 0, A1 9 (.mv (.t 1))⟩,
  ⟨2, 0, A1 10 (.mv (.t 2))⟩,
  ⟨3, 3, A1 11 (.isl 32 (.t 9) (.t 10))⟩,
  ⟨4, 7, A1 12 (.load true 32 (.t 11))⟩,
  ⟨5, 0, A1 13 (.mv (.t 1))⟩,
  ⟨6, 0, A1 14 (.mv (.t 2))⟩,
  ⟨7, 48, A1 15 (.isl 32 (.t 13) (.t 14))⟩,
  ⟨8, 112, A1 16 (.load true 32 (.t 15))⟩,
  ⟨9, 255, ⟨(some 17), .call 206 [(.t 12), (.t 16)], none⟩⟩,
  ⟨0, 0, A1 8 (.mv (.t 1))⟩,
  ⟨10, 511, A1 18 (.bsl 32 1 (.ar 32 (.int .u8)) [(.i 32 0, 32, (.t 17))])⟩,
  ⟨11, 2047, A1 19 (.app 32 32 (.t 8) (.t 18))⟩,
  ⟨12, 4095, A1 1 (.mv (.t 19))⟩]))
 (.reg [A1 6 (.mv (.t 2)),
  A1 7 (.ari .add (.t 6) (.c (.int .i64 1))),
  A1 2 (.mv (.t 7))])))))))))
 ((.seq (.reg [A1 20 (.mv (.t 1)),
  A1 0 (.mv (.t 20))])
 (.ret))))))))
def f205 : LF := ⟨c205, 0, 0, 21, [.tmp 0]⟩

/-- moot/mootref02.Pair -/
def c206 : LC := (.seq (.reg [A1 2 (.box (.t 0)),
  A1 3 (.box (.t 1)),
  A1 4 (.alloc (.ar 32 (.int .u8)))])
 ((.seq (.reg [A1 6 (.bsl 1 0 (.int .u8) []),
  A1 7 (.slarr 32 1 (.t 2) none none),
  A1 8 (.app 1 1 (.t 6) (.t 7)),
  A1 5 (.mv (.t 8))])
 ((.seq (.reg [A1 9 (.mv (.t 5)),
  A1 10 (.slarr 32 1 (.t 3) none none),
  A1 11 (.app 1 1 (.t 9) (.t 10)),
  ⟨(some 12), .call 311 [(.t 11)], none⟩,
  A0 (.store 32 (.t 4) (.t 12))])
 (.ret))))))
def f206 : LF := ⟨c206, 2, 0, 13, [.cell 4 true 32]⟩

/-- moot/mootref02.Sum -/
def c311 : LC := (.seq (.reg [A1 2 (.alloc (.ar 32 (.int .u8)))])
 ((.seq (.reg [⟨(some 11), .call 413 [], none⟩,
  ⟨(some 12), .call 414 [], none⟩,
  A1 3 (.mv (.t 11)),
  A1 4 (.mv (.t 12))])
 ((.seq (.reg [A1 13 (.bsl 1 0 (.int .u8) []),
  A1 14 (.mv (.t 0)),
  A1 15 (.app 1 1 (.t 13) (.t 14)),
  A1 5 (.mv (.t 15))])
 ((.seq (.reg [A1 16 (.mv (.t 5)),
  A1 17 (.bsl 1 1 (.int .u8) [(.i 1 0, 1, (.c (.int .u8 1)))]),
  A1 18 (.app 1 1 (.t 16) (.t 17)),
  A1 5 (.mv (.t 18))])
 ((.seq (.block 0 (.loop ((.seq ((.seq (.reg [A1 19 (.mv (.t 5)),
  A1 20 (.len 0 (.t 19)),
  A1 21 (.ari .rem (.t 20) (.c (.int .i64 136))),
  A1 22 (.ari .neq (.t 21) (.c (.int .i64 0)))])
 (.cond (.t 22) (.skip) (.exit 0))))
 (.block 1 (.reg [A1 23 (.mv (.t 5)),
  A1 24 (.bsl 1 1 (.int .u8) [(.i 1 0, 1, (.c (.int .u8 0)))]),
  A1 25 (.app 1 1 (.t 23) (.t 24)),
  A1 5 (.mv (.t 25))]))))))
 ((.seq (.reg [A1 26 (.mv (.t 5)),
  A1 27 (.mv (.t 5)),
  A1 28 (.len 0 (.t 27)),
  A1 29 (.ari .sub (.t 28) (.c (.int .i64 1))),
  A1 30 (.isl 1 (.t 26) (.t 29)),
  A1 31 (.load false 1 (.t 30)),
  A1 32 (.ari .xor (.t 31) (.c (.int .u8 128))),
  A1 33 (.isl 1 (.t 26) (.t 29)),
  A0 (.store 1 (.t 33) (.t 32))])
 ((.seq (.reg [A1 6 (.alloc (.ar 25 (.int .u64)))])
 ((.seq ((.seq (.reg [A1 7 (.mv (.c (.int .i64 0)))])
 (.block 2 (.loop ((.seq ((.seq (.reg [A1 34 (.mv (.t 7)),
  A1 35 (.mv (.t 5)),
  A1 36 (.len 0 (.t 35)),
  A1 37 (.ari .lss (.t 34) (.t 36))])
 (.cond (.t 37) (.skip) (.exit 2))))
 ((.seq (.block 3 ((.seq ((.seq (.reg [A1 8 (.mv (.c (.int .i64 0)))])
 (.block 4 (.loop ((.seq ((.seq (.reg [A1 40 (.mv (.t 8)),
  A1 41 (.ari .lss (.t 40) (.c (.int .i64 136)))])
 (.cond (.t 41) (.skip) (.exit 4))))
 ((.seq (.block 5 (.regd [⟨0, 0, A1 44 (.mv (.t 8))⟩,
  ⟨1, 1, A1 45 (.ari .quo (.t 44) (.c (.int .i64 8)))⟩,
  ⟨2, 3, A1 46 (.iarr 25 1 (.t 6) (.t 45))⟩,
  ⟨3, 7, A1 47 (.load false 1 (.t 46))⟩,
  ⟨4, 0, A1 48 (.mv (.t 5))⟩,
  ⟨5, 0, A1 49 (.mv (.t 7))⟩,
  ⟨6, 0, A1 50 (.mv (.t 8))⟩,
  ⟨7, 96, A1 51 (.ari .add (.t 49) (.t 50))⟩,
  ⟨8, 240, A1 52 (.isl 1 (.t 48) (.t 51))⟩,
  ⟨9, 496, A1 53 (.load false 1 (.t 52))⟩,
  ⟨10, 1008, A1 54 (.conv .u64 (.t 53))⟩,
  ⟨11, 0, A1 55 (.mv (.t 8))⟩,
  ⟨12, 2048, A1 56 (.ari .rem (.t 55) (.c (.int .i64 8)))⟩,
  ⟨13, 6144, A1 57 (.ari .mul (.c (.int .i64 8)) (.t 56))⟩,
  ⟨14, 14336, A1 58 (.conv .u64 (.t 57))⟩,
  ⟨15, 32752, A1 59 (.ari .shl (.t 54) (.t 58))⟩,
  ⟨16, 65535, A1 60 (.ari .xor (.t 47) (.t 59))⟩,
  ⟨17, 131071, A1 61 (.iarr 25 1 (.t 6) (.t 45))⟩,
  ⟨18, 262143, A0 (.store 1 (.t 61) (.t 60))⟩]))
 (.reg [A1 42 (.mv (.t 8)),
  A1 43 (.ari .add (.t 42) (.c (.int .i64 1))),
  A1 8 (.mv (.t 43))])))))))))
 (.reg [A1 62 (.load true 25 (.t 6)),
  A1 63 (.mv (.t 3)),
  A1 64 (.mv (.t 4)),
  ⟨(some 65), .call 415 [(.t 62), (.t 63), (.t 64)], none⟩,
  A0 (.store 25 (.t 6) (.t 65))]))))
 (.reg [A1 38 (.mv (.t 7)),
  A1 39 (.ari .add (.t 38) (.c (.int .i64 136))),
  A1 7 (.mv (.t 39))])))))))))
 ((.seq (.reg [A1 9 (.alloc (.ar 32 (.int .u8)))])
 ((.seq ((.seq (.reg [A1 10 (.mv (.c (.int .i64 0)))])
 (.block 6 (.loop ((.seq ((.seq (.reg [A1 66 (.mv (.t 10)),
  A1 67 (.ari .lss (.t 66) (.c (.int .i64 32)))])
 (.cond (.t 67) (.skip) (.exit 6))))
 ((.seq (.block 7 (.reg [A1 70 (.mv (.t 10)),
  A1 71 (.mv (.t 10)),
  A1 72 (.ari .quo (.t 71) (.c (.int .i64 8))),
  A1 73 (.iarr 25 1 (.t 6) (.t 72)),
  A1 74 (.load false 1 (.t 73)),
  A1 75 (.mv (.t 10)),
  A1 76 (.ari .rem (.t 75) (.c (.int .i64 8))),
  A1 77 (.ari .mul (.c (.int .i64 8)) (.t 76)),
  A1 78 (.conv .u64 (.t 77)),
  A1 79 (.ari .shr (.t 74) (.t 78)),
  A1 80 (.conv .u8 (.t 79)),
  A1 81 (.iarr 32 1 (.t 9) (.t 70)),
  A0 (.store 1 (.t 81) (.t 80))]))
 (.reg [A1 68 (.mv (.t 10)),
  A1 69 (.ari .add (.t 68) (.c (.int .i64 1))),
  A1 10 (.mv (.t 69))])))))))))
 ((.seq (.reg [A1 82 (.load true 32 (.t 9)),
  A0 (.store 32 (.t 2) (.t 82))])
 (.ret))))))))))))))))))))))
def f311 : LF := ⟨c311, 1, 0, 83, [.cell 2 true 32]⟩

/-- moot/mootref02.Constants -/
def c413 : LC := (.seq (.reg [A1 0 (.mv (.c .nils))])
 ((.seq (.reg [A1 1 (.mv (.c .nils))])
 ((.seq (.reg [A1 2 (.mv (.c (.int .i64 1)))])
 ((.seq ((.seq (.reg [A1 3 (.mv (.c (.int .i64 0)))])
 (.block 0 (.loop ((.seq ((.seq (.reg [A1 6 (.mv (.t 3)),
  A1 7 (.ari .lss (.t 6) (.c (.int .i64 24)))])
 (.cond (.t 7) (.skip) (.exit 0))))
 ((.seq (.block 1 ((.seq (.reg [A1 4 (.mv (.c (.int .u64 0)))])
 ((.seq ((.seq (.reg [A1 5 (.mv (.c (.int .i64 0)))])
 (.block 2 (.loop ((.seq ((.seq (.reg [A1 10 (.mv (.t 5)),
  A1 11 (.ari .lss (.t 10) (.c (.int .i64 7)))])
 (.cond (.t 11) (.skip) (.exit 2))))
 ((.seq (.block 3 ((.seq ((.seq (.reg [A1 14 (.mv (.t 2)),
  A1 15 (.ari .rem (.t 14) (.c (.int .i64 2))),
  A1 16 (.ari .eql (.t 15) (.c (.int .i64 1)))])
 (.cond (.t 16) (.reg [A1 17 (.mv (.t 4)),
  A1 18 (.mv (.t 5)),
  A1 19 (.conv .u64 (.t 18)),
  A1 20 (.ari .shl (.c (.int .u64 1)) (.t 19)),
  A1 21 (.ari .sub (.t 20) (.c (.int .u64 1))),
  A1 22 (.ari .shl (.c (.int .u64 1)) (.t 21)),
  A1 23 (.ari .or (.t 17) (.t 22)),
  A1 4 (.mv (.t 23))]) (.skip))))
 ((.seq (.reg [A1 24 (.mv (.t 2)),
  A1 25 (.ari .mul (.t 24) (.c (.int .i64 2))),
  A1 2 (.mv (.t 25))])
 ((.seq (.reg [A1 26 (.mv (.t 2)),
  A1 27 (.ari .gtr (.t 26) (.c (.int .i64 255)))])
 (.cond (.t 27) (.reg [A1 28 (.mv (.t 2)),
  A1 29 (.ari .xor (.t 28) (.c (.int .i64 369))),
  A1 2 (.mv (.t 29))]) (.skip)))))))))
 (.reg [A1 12 (.mv (.t 5)),
  A1 13 (.ari .add (.t 12) (.c (.int .i64 1))),
  A1 5 (.mv (.t 13))])))))))))
 (.reg [A1 30 (.mv (.t 1)),
  A1 31 (.mv (.t 4)),
  A1 32 (.bsl 1 1 (.int .u64) [(.i 1 0, 1, (.t 31))]),
  A1 33 (.app 1 8 (.t 30) (.t 32)),
  A1 1 (.mv (.t 33))]))))))
 (.reg [A1 8 (.mv (.t 3)),
  A1 9 (.ari .add (.t 8) (.c (.int .i64 1))),
  A1 3 (.mv (.t 9))])))))))))
 ((.seq (.reg [A1 34 (.mv (.t 1)),
  A1 0 (.mv (.t 34))])
 (.ret))))))))))
def f413 : LF := ⟨c413, 0, 0, 35, [.tmp 0]⟩

/-- moot/mootref02.Turns -/
def c414 : LC := (.seq (.reg [A1 0 (.mv (.c .nils))])
 ((.seq (.reg [A1 6 (.mksl 1 8 (.int .i64) (.c (.int .i64 25)) (.c (.int .i64 25))),
  A1 1 (.mv (.t 6))])
 ((.seq (.reg [A1 2 (.mv (.c (.int .i64 1))),
  A1 3 (.mv (.c (.int .i64 0)))])
 ((.seq ((.seq (.reg [A1 4 (.mv (.c (.int .i64 0)))])
 (.block 0 (.loop ((.seq ((.seq (.reg [A1 7 (.mv (.t 4)),
  A1 8 (.ari .lss (.t 7) (.c (.int .i64 24)))])
 (.cond (.t 8) (.skip) (.exit 0))))
 ((.seq (.block 1 ((.seq (.reg [A1 11 (.mv (.t 1)),
  A1 12 (.mv (.t 2)),
  A1 13 (.mv (.t 3)),
  A1 14 (.ari .mul (.c (.int .i64 5)) (.t 13)),
  A1 15 (.ari .add (.t 12) (.t 14)),
  A1 16 (.mv (.t 4)),
  A1 17 (.ari .add (.t 16) (.c (.int .i64 1))),
  A1 18 (.mv (.t 4)),
  A1 19 (.ari .add (.t 18) (.c (.int .i64 2))),
  A1 20 (.ari .mul (.t 17) (.t 19)),
  A1 21 (.ari .quo (.t 20) (.c (.int .i64 2))),
  A1 22 (.ari .rem (.t 21) (.c (.int .i64 64))),
  A1 23 (.isl 1 (.t 11) (.t 15)),
  A0 (.store 1 (.t 23) (.t 22))])
 ((.seq (.reg [A1 24 (.mv (.t 2)),
  A1 25 (.ari .mul (.c (.int .i64 2)) (.t 24)),
  A1 26 (.mv (.t 3)),
  A1 27 (.ari .mul (.c (.int .i64 3)) (.t 26)),
  A1 28 (.ari .add (.t 25) (.t 27)),
  A1 29 (.ari .rem (.t 28) (.c (.int .i64 5))),
  A1 5 (.mv (.t 29))])
 ((.seq (.reg [A1 30 (.mv (.t 3)),
  A1 2 (.mv (.t 30))])
 (.reg [A1 31 (.mv (.t 5)),
  A1 3 (.mv (.t 31))]))))))))
 (.reg [A1 9 (.mv (.t 4)),
  A1 10 (.ari .add (.t 9) (.c (.int .i64 1))),
  A1 4 (.mv (.t 10))])))))))))
 ((.seq (.reg [A1 32 (.mv (.t 1)),
  A1 0 (.mv (.t 32))])
 (.ret))))))))))
def f414 : LF := ⟨c414, 0, 0, 33, [.tmp 0]⟩

/-- moot/mootref02.permute -/
def c415 : LC := (.seq (.reg [A1 3 (.box (.t 0)),
  A1 6 (.alloc (.ar 25 (.int .u64)))])
 ((.seq ((.seq (.reg [A1 7 (.mv (.c (.int .i64 0)))])
 (.block 0 (.loop ((.seq ((.seq (.reg [A1 19 (.mv (.t 7)),
  A1 20 (.ari .lss (.t 19) (.c (.int .i64 24)))])
 (.cond (.t 20) (.skip) (.exit 0))))
 ((.seq (.block 1 ((.seq (.reg [A1 8 (.alloc (.ar 25 (.int .u64))),
  A1 9 (.alloc (.ar 25 (.int .u64)))])
 ((.seq ((.seq (.reg [A1 10 (.mv (.c (.int .i64 0)))])
 (.block 2 (.loop ((.seq ((.seq (.reg [A1 23 (.mv (.t 10)),
  A1 24 (.ari .lss (.t 23) (.c (.int .i64 5)))])
 (.cond (.t 24) (.skip) (.exit 2))))
 ((.seq (.block 3 ((.seq (.reg [A1 11 (.mv (.c (.int .u64 0))),
  A1 12 (.mv (.c (.int .u64 0)))])
 ((.seq ((.seq (.reg [A1 13 (.mv (.c (.int .i64 0)))])
 (.block 4 (.loop ((.seq ((.seq (.reg [A1 27 (.mv (.t 13)),
  A1 28 (.ari .lss (.t 27) (.c (.int .i64 25)))])
 (.cond (.t 28) (.skip) (.exit 4))))
 ((.seq (.block 5 ((.seq (.reg [A1 31 (.mv (.t 11)),
  A1 32 (.mv (.t 10)),
  A1 33 (.ari .add (.t 32) (.c (.int .i64 4))),
  A1 34 (.ari .rem (.t 33) (.c (.int .i64 5))),
  A1 35 (.mv (.t 13)),
  A1 36 (.ari .add (.t 34) (.t 35)),
  A1 37 (.iarr 25 1 (.t 3) (.t 36)),
  A1 38 (.load false 1 (.t 37)),
  A1 39 (.ari .xor (.t 31) (.t 38)),
  A1 11 (.mv (.t 39))])
 (.reg [A1 40 (.mv (.t 12)),
  A1 41 (.mv (.t 10)),
  A1 42 (.ari .add (.t 41) (.c (.int .i64 1))),
  A1 43 (.ari .rem (.t 42) (.c (.int .i64 5))),
  A1 44 (.mv (.t 13)),
  A1 45 (.ari .add (.t 43) (.t 44)),
  A1 46 (.iarr 25 1 (.t 3) (.t 45)),
  A1 47 (.load false 1 (.t 46)),
  A1 48 (.ari .xor (.t 40) (.t 47)),
  A1 12 (.mv (.t 48))]))))
 (.reg [A1 29 (.mv (.t 13)),
  A1 30 (.ari .add (.t 29) (.c (.int .i64 5))),
  A1 13 (.mv (.t 30))])))))))))
 ((.seq (.reg [A1 14 (.mv (.c (.int .i64 0)))])
 (.block 6 (.loop ((.seq ((.seq (.reg [A1 49 (.mv (.t 14)),
  A1 50 (.ari .lss (.t 49) (.c (.int .i64 25)))])
 (.cond (.t 50) (.skip) (.exit 6))))
 ((.seq (.block 7 (.regd [⟨10, 0, A1 63 (.mv (.t 12))⟩,
  ⟨11, 1, ⟨(some 64), .call 461 [(.t 63), (.c (.int .i64 1))], none⟩⟩,
  ⟨0, 0, A1 53 (.mv (.t 10))⟩,
  ⟨1, 0, A1 54 (.mv (.t 14))⟩,
  ⟨2, 12, A1 55 (.ari .add (.t 53) (.t 54))⟩,
  ⟨3, 0, A1 56 (.mv (.t 10))⟩,
  ⟨4, 0, A1 57 (.mv (.t 14))⟩,
  ⟨5, 96, A1 58 (.ari .add (.t 56) (.t 57))⟩,
  ⟨6, 224, A1 59 (.iarr 25 1 (.t 3) (.t 58))⟩,
  ⟨7, 480, A1 60 (.load false 1 (.t 59))⟩,
  ⟨8, 0, A1 61 (.mv (.t 11))⟩,
  ⟨9, 2016, A1 62 (.ari .xor (.t 60) (.t 61))⟩,
  ⟨12, 4067, A1 65 (.ari .xor (.t 62) (.t 64))⟩,
  ⟨13, 8191, A1 66 (.iarr 25 1 (.t 8) (.t 55))⟩,
  ⟨14, 16383, A0 (.store 1 (.t 66) (.t 65))⟩]))
 (.reg [A1 51 (.mv (.t 14)),
  A1 52 (.ari .add (.t 51) (.c (.int .i64 5))),
  A1 14 (.mv (.t 52))]))))))))))))))
 (.reg [A1 25 (.mv (.t 10)),
  A1 26 (.ari .add (.t 25) (.c (.int .i64 1))),
  A1 10 (.mv (.t 26))])))))))))
 ((.seq ((.seq (.reg [A1 15 (.mv (.c (.int .i64 0)))])
 (.block 8 (.loop ((.seq ((.seq (.reg [A1 67 (.mv (.t 15)),
  A1 68 (.ari .lss (.t 67) (.c (.int .i64 5)))])
 (.cond (.t 68) (.skip) (.exit 8))))
 ((.seq (.block 9 ((.seq (.reg [A1 16 (.mv (.c (.int .i64 0)))])
 (.block 10 (.loop ((.seq ((.seq (.reg [A1 71 (.mv (.t 16)),
  A1 72 (.ari .lss (.t 71) (.c (.int .i64 5)))])
 (.cond (.t 72) (.skip) (.exit 10))))
 ((.seq (.block 11 (.regd [⟨9, 0, A1 84 (.mv (.t 15))⟩,
  ⟨10, 0, A1 85 (.mv (.t 16))⟩,
  ⟨11, 2, A1 86 (.ari .mul (.c (.int .i64 5)) (.t 85))⟩,
  ⟨12, 7, A1 87 (.ari .add (.t 84) (.t 86))⟩,
  ⟨13, 15, A1 88 (.iarr 25 1 (.t 8) (.t 87))⟩,
  ⟨14, 31, A1 89 (.load false 1 (.t 88))⟩,
  ⟨15, 0, A1 90 (.mv (.t 2))⟩,
  ⟨16, 0, A1 91 (.mv (.t 15))⟩,
  ⟨17, 0, A1 92 (.mv (.t 16))⟩,
  ⟨18, 256, A1 93 (.ari .mul (.c (.int .i64 5)) (.t 92))⟩,
  ⟨19, 896, A1 94 (.ari .add (.t 91) (.t 93))⟩,
  ⟨20, 1984, A1 95 (.isl 1 (.t 90) (.t 94))⟩,
  ⟨21, 4032, A1 96 (.load false 1 (.t 95))⟩,
  ⟨22, 8191, ⟨(some 97), .call 461 [(.t 89), (.t 96)], none⟩⟩,
  ⟨0, 0, A1 75 (.mv (.t 16))⟩,
  ⟨1, 0, A1 76 (.mv (.t 15))⟩,
  ⟨2, 32768, A1 77 (.ari .mul (.c (.int .i64 2)) (.t 76))⟩,
  ⟨3, 0, A1 78 (.mv (.t 16))⟩,
  ⟨4, 131072, A1 79 (.ari .mul (.c (.int .i64 3)) (.t 78))⟩,
  ⟨5, 491520, A1 80 (.ari .add (.t 77) (.t 79))⟩,
  ⟨6, 1015808, A1 81 (.ari .rem (.t 80) (.c (.int .i64 5)))⟩,
  ⟨7, 2064384, A1 82 (.ari .mul (.c (.int .i64 5)) (.t 81))⟩,
  ⟨8, 4177920, A1 83 (.ari .add (.t 75) (.t 82))⟩,
  ⟨23, 8388607, A1 98 (.iarr 25 1 (.t 9) (.t 83))⟩,
  ⟨24, 16777215, A0 (.store 1 (.t 98) (.t 97))⟩]))
 (.reg [A1 73 (.mv (.t 16)),
  A1 74 (.ari .add (.t 73) (.c (.int .i64 1))),
  A1 16 (.mv (.t 74))]))))))))))
 (.reg [A1 69 (.mv (.t 15)),
  A1 70 (.ari .add (.t 69) (.c (.int .i64 1))),
  A1 15 (.mv (.t 70))])))))))))
 ((.seq ((.seq (.reg [A1 17 (.mv (.c (.int .i64 0)))])
 (.block 12 (.loop ((.seq ((.seq (.reg [A1 99 (.mv (.t 17)),
  A1 100 (.ari .lss (.t 99) (.c (.int .i64 5)))])
 (.cond (.t 100) (.skip) (.exit 12))))
 ((.seq (.block 13 ((.seq (.reg [A1 18 (.mv (.c (.int .i64 0)))])
 (.block 14 (.loop ((.seq ((.seq (.reg [A1 103 (.mv (.t 18)),
  A1 104 (.ari .lss (.t 103) (.c (.int .i64 5)))])
 (.cond (.t 104) (.skip) (.exit 14))))
 ((.seq (.block 15 (.regd [⟨0, 0, A1 107 (.mv (.t 18))⟩,
  ⟨1, 0, A1 108 (.mv (.t 17))⟩,
  ⟨2, 2, A1 109 (.ari .mul (.c (.int .i64 5)) (.t 108))⟩,
  ⟨3, 7, A1 110 (.ari .add (.t 107) (.t 109))⟩,
  ⟨4, 0, A1 111 (.mv (.t 18))⟩,
  ⟨5, 0, A1 112 (.mv (.t 17))⟩,
  ⟨6, 32, A1 113 (.ari .mul (.c (.int .i64 5)) (.t 112))⟩,
  ⟨7, 112, A1 114 (.ari .add (.t 111) (.t 113))⟩,
  ⟨8, 240, A1 115 (.iarr 25 1 (.t 9) (.t 114))⟩,
  ⟨9, 496, A1 116 (.load false 1 (.t 115))⟩,
  ⟨10, 0, A1 117 (.mv (.t 18))⟩,
  ⟨11, 1024, A1 118 (.ari .add (.t 117) (.c (.int .i64 1)))⟩,
  ⟨12, 3072, A1 119 (.ari .rem (.t 118) (.c (.int .i64 5)))⟩,
  ⟨13, 0, A1 120 (.mv (.t 17))⟩,
  ⟨14, 8192, A1 121 (.ari .mul (.c (.int .i64 5)) (.t 120))⟩,
  ⟨15, 31744, A1 122 (.ari .add (.t 119) (.t 121))⟩,
  ⟨16, 64512, A1 123 (.iarr 25 1 (.t 9) (.t 122))⟩,
  ⟨17, 130048, A1 124 (.load false 1 (.t 123))⟩,
  ⟨18, 261120, A1 125 (.ari .xor (.t 124) (.c (.int .u64 18446744073709551615)))⟩,
  ⟨19, 0, A1 126 (.mv (.t 18))⟩,
  ⟨20, 524288, A1 127 (.ari .add (.t 126) (.c (.int .i64 2)))⟩,
  ⟨21, 1572864, A1 128 (.ari .rem (.t 127) (.c (.int .i64 5)))⟩,
  ⟨22, 0, A1 129 (.mv (.t 17))⟩,
  ⟨23, 4194304, A1 130 (.ari .mul (.c (.int .i64 5)) (.t 129))⟩,
  ⟨24, 16252928, A1 131 (.ari .add (.t 128) (.t 130))⟩,
  ⟨25, 33030144, A1 132 (.iarr 25 1 (.t 9) (.t 131))⟩,
  ⟨26, 66584576, A1 133 (.load false 1 (.t 132))⟩,
  ⟨27, 134216704, A1 134 (.ari .and (.t 125) (.t 133))⟩,
  ⟨28, 268435440, A1 135 (.ari .xor (.t 116) (.t 134))⟩,
  ⟨29, 536870911, A1 136 (.iarr 25 1 (.t 3) (.t 110))⟩,
  ⟨30, 1073741823, A0 (.store 1 (.t 136) (.t 135))⟩]))
 (.reg [A1 105 (.mv (.t 18)),
  A1 106 (.ari .add (.t 105) (.c (.int .i64 1))),
  A1 18 (.mv (.t 106))]))))))))))
 (.reg [A1 101 (.mv (.t 17)),
  A1 102 (.ari .add (.t 101) (.c (.int .i64 1))),
  A1 17 (.mv (.t 102))])))))))))
 (.regd [⟨0, 0, A1 137 (.iarr 25 1 (.t 3) (.c (.int .i64 0)))⟩,
  ⟨1, 1, A1 138 (.load false 1 (.t 137))⟩,
  ⟨2, 0, A1 139 (.mv (.t 1))⟩,
  ⟨3, 0, A1 140 (.mv (.t 7))⟩,
  ⟨4, 12, A1 141 (.isl 1 (.t 139) (.t 140))⟩,
  ⟨5, 28, A1 142 (.load false 1 (.t 141))⟩,
  ⟨6, 63, A1 143 (.ari .xor (.t 138) (.t 142))⟩,
  ⟨7, 127, A1 144 (.iarr 25 1 (.t 3) (.c (.int .i64 0)))⟩,
  ⟨8, 255, A0 (.store 1 (.t 144) (.t 143))⟩]))))))))))
 (.reg [A1 21 (.mv (.t 7)),
  A1 22 (.ari .add (.t 21) (.c (.int .i64 1))),
  A1 7 (.mv (.t 22))])))))))))
 ((.seq (.reg [A1 145 (.load true 25 (.t 3)),
  A0 (.store 25 (.t 6) (.t 145))])
 (.ret))))))
def f415 : LF := ⟨c415, 3, 0, 146, [.cell 6 true 25]⟩

/-- moot/mootref02.left -/
def c461 : LC := (.seq (.reg [A1 4 (.mv (.c (.int .u64 0)))])
 ((.seq (.reg [A1 5 (.mv (.t 1)),
  A1 6 (.ari .rem (.t 5) (.c (.int .i64 64))),
  A1 1 (.mv (.t 6))])
 ((.seq ((.seq (.reg [A1 7 (.mv (.t 1)),
  A1 8 (.ari .eql (.t 7) (.c (.int .i64 0)))])
 (.cond (.t 8) ((.seq (.reg [A1 9 (.mv (.t 0)),
  A1 4 (.mv (.t 9))])
 (.ret))) (.skip))))
 ((.seq (.reg [A1 10 (.mv (.t 0)),
  A1 11 (.mv (.t 1)),
  A1 12 (.conv .u64 (.t 11)),
  A1 13 (.ari .shl (.t 10) (.t 12)),
  A1 14 (.mv (.t 0)),
  A1 15 (.mv (.t 1)),
  A1 16 (.ari .sub (.c (.int .i64 64)) (.t 15)),
  A1 17 (.conv .u64 (.t 16)),
  A1 18 (.ari .shr (.t 14) (.t 17)),
  A1 19 (.ari .or (.t 13) (.t 18)),
  A1 4 (.mv (.t 19))])
 (.ret))))))))
def f461 : LF := ⟨c461, 2, 0, 20, [.tmp 4]⟩

end Mv
