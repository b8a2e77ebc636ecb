/- Layer 1's operations: quotients, powers, shifts. -/
import Derived.Test.YtncipgmjhaiagaaDoorT
import Derived.Test.YtncipgmjhaiagaaDoorW1
import Derived.Test.YtncipgmjhaiagaaDoorW3
set_option linter.unusedSimpArgs false
set_option linter.unusedVariables false
namespace Mv
open Go
/-- The bits of a byte: the table of math/bits. -/
def len8 : ByteArray := ⟨#[0, 1, 2, 2, 3, 3, 3, 3, 4, 4, 4, 4, 4, 4, 4, 4, 5, 5, 5, 5, 5, 5, 5, 5, 5, 5, 5, 5, 5, 5, 5, 5, 6, 6, 6, 6, 6, 6, 6, 6, 6, 6, 6, 6, 6, 6, 6, 6, 6, 6, 6, 6, 6, 6, 6, 6, 6, 6, 6, 6, 6, 6, 6, 6, 7, 7, 7, 7, 7, 7, 7, 7, 7, 7, 7, 7, 7, 7, 7, 7, 7, 7, 7, 7, 7, 7, 7, 7, 7, 7, 7, 7, 7, 7, 7, 7, 7, 7, 7, 7, 7, 7, 7, 7, 7, 7, 7, 7, 7, 7, 7, 7, 7, 7, 7, 7, 7, 7, 7, 7, 7, 7, 7, 7, 7, 7, 7, 7, 8, 8, 8, 8, 8, 8, 8, 8, 8, 8, 8, 8, 8, 8, 8, 8, 8, 8, 8, 8, 8, 8, 8, 8, 8, 8, 8, 8, 8, 8, 8, 8, 8, 8, 8, 8, 8, 8, 8, 8, 8, 8, 8, 8, 8, 8, 8, 8, 8, 8, 8, 8, 8, 8, 8, 8, 8, 8, 8, 8, 8, 8, 8, 8, 8, 8, 8, 8, 8, 8, 8, 8, 8, 8, 8, 8, 8, 8, 8, 8, 8, 8, 8, 8, 8, 8, 8, 8, 8, 8, 8, 8, 8, 8, 8, 8, 8, 8, 8, 8, 8, 8, 8, 8, 8, 8, 8, 8, 8, 8, 8, 8, 8, 8, 8, 8, 8, 8, 8, 8, 8, 8, 8, 8, 8, 8, 8, 8]⟩
/-- moot/word.divided -/
def c321 : LC := (.seq (.reg [A1 6 (.mv (.c (.int .u64 0)))])
 ((.seq ((.seq (.reg [A1 10 (.mv (.t 2)),
  A1 11 (.ari .eql (.t 10) (.c (.int .u64 0)))])
 (.cond (.t 11) ((.seq (.reg [A1 6 (.mv (.c (.int .u64 0)))])
 (.ret))) (.skip))))
 ((.seq ((.seq (.reg [A1 12 (.mv (.t 0))])
 (.block 0 ((.seq (.reg [A1 14 (.ari .eql (.t 12) (.c (.int .i64 4))),
  A1 13 (.mv (.t 14))])
 (.cond (.t 13) ((.seq (.reg [A1 15 (.mv (.t 1)),
  A1 16 (.mv (.t 2)),
  A1 17 (.ari .quo (.t 15) (.t 16)),
  A1 6 (.mv (.t 17))])
 (.ret))) ((.seq (.reg [A1 19 (.ari .eql (.t 12) (.c (.int .i64 6))),
  A1 18 (.mv (.t 19))])
 (.cond (.t 18) ((.seq (.reg [A1 20 (.mv (.t 1)),
  A1 21 (.mv (.t 2)),
  A1 22 (.ari .rem (.t 20) (.t 21)),
  A1 6 (.mv (.t 22))])
 (.ret))) (.skip))))))))))
 ((.seq (.reg [A1 23 (.mv (.t 2)),
  A1 24 (.conv .i64 (.t 23)),
  A1 25 (.ari .lss (.t 24) (.c (.int .i64 0))),
  A1 26 (.mv (.t 1)),
  A1 27 (.conv .i64 (.t 26)),
  A1 28 (.ari .lss (.t 27) (.c (.int .i64 0))),
  A1 7 (.mv (.t 25)),
  A1 8 (.mv (.t 28))])
 ((.seq ((.seq (.reg [A1 29 (.mv (.t 7))])
 (.cond (.t 29) (.reg [A1 30 (.mv (.t 2)),
  A1 31 (.un .neg (.t 30)),
  A1 2 (.mv (.t 31))]) (.skip))))
 ((.seq ((.seq (.reg [A1 32 (.mv (.t 8))])
 (.cond (.t 32) (.reg [A1 33 (.mv (.t 1)),
  A1 34 (.un .neg (.t 33)),
  A1 1 (.mv (.t 34))]) (.skip))))
 ((.seq (.reg [A1 35 (.mv (.t 1)),
  A1 36 (.mv (.t 2)),
  A1 37 (.ari .rem (.t 35) (.t 36)),
  A1 9 (.mv (.t 37))])
 ((.seq ((.seq (.reg [A1 38 (.mv (.t 0)),
  A1 39 (.ari .eql (.t 38) (.c (.int .i64 5)))])
 (.cond (.t 39) (.reg [A1 40 (.mv (.t 1)),
  A1 41 (.mv (.t 2)),
  A1 42 (.ari .quo (.t 40) (.t 41)),
  A1 43 (.mv (.t 8)),
  A1 44 (.mv (.t 7)),
  A1 45 (.eq true false .bool (.t 43) (.t 44)),
  A1 9 (.mv (.t 42)),
  A1 8 (.mv (.t 45))]) (.skip))))
 ((.seq ((.seq (.reg [A1 46 (.mv (.t 8))])
 (.cond (.t 46) ((.seq (.reg [A1 47 (.mv (.t 9)),
  A1 48 (.un .neg (.t 47)),
  A1 6 (.mv (.t 48))])
 (.ret))) (.skip))))
 ((.seq (.reg [A1 49 (.mv (.t 9)),
  A1 6 (.mv (.t 49))])
 (.ret))))))))))))))))))))
def f321 : LF := ⟨c321, 3, 0, 50, [.tmp 6]⟩

/-- moot/word.modulo -/
def c322 : LC := (.seq (.reg [A1 8 (.mv (.c (.int .u64 0)))])
 ((.seq ((.seq (.reg [A1 13 (.mv (.t 3)),
  A1 14 (.ari .eql (.t 13) (.c (.int .u64 0)))])
 (.cond (.t 14) ((.seq (.reg [A1 8 (.mv (.c (.int .u64 0)))])
 (.ret))) (.skip))))
 ((.seq (.regd [⟨0, 0, A1 15 (.mv (.t 1))⟩,
  ⟨1, 0, A1 16 (.mv (.t 3))⟩,
  ⟨2, 3, A1 17 (.ari .rem (.t 15) (.t 16))⟩,
  ⟨3, 0, A1 18 (.mv (.t 2))⟩,
  ⟨4, 0, A1 19 (.mv (.t 3))⟩,
  ⟨5, 24, A1 20 (.ari .rem (.t 18) (.t 19))⟩,
  ⟨6, 7, A1 1 (.mv (.t 17))⟩,
  ⟨7, 127, A1 2 (.mv (.t 20))⟩])
 ((.seq (.reg [A1 22 (.mv (.t 1)),
  A1 23 (.mv (.t 2)),
  ⟨(some 24), .call 421 [(.t 22), (.t 23)], none⟩,
  A1 21 (.mv (.t 24)),
  A1 25 (.ext (.t 21) 0),
  A1 26 (.ext (.t 21) 1),
  A1 9 (.mv (.t 25)),
  A1 10 (.mv (.t 26))])
 ((.seq ((.seq (.reg [A1 27 (.mv (.t 0)),
  A1 28 (.ari .eql (.t 27) (.c (.int .i64 8)))])
 (.cond (.t 28) (.reg [A1 30 (.mv (.t 1)),
  A1 31 (.mv (.t 2)),
  A1 32 (.add64 (.t 30) (.t 31) (.c (.int .u64 0))),
  A1 29 (.mv (.t 32)),
  A1 33 (.ext (.t 29) 0),
  A1 34 (.ext (.t 29) 1),
  A1 10 (.mv (.t 33)),
  A1 9 (.mv (.t 34))]) (.skip))))
 ((.seq (.reg [A1 36 (.mv (.t 9)),
  A1 37 (.mv (.t 10)),
  A1 38 (.mv (.t 3)),
  ⟨(some 39), .call 423 [(.t 36), (.t 37), (.t 38)], none⟩,
  A1 35 (.mv (.t 39)),
  A1 40 (.ext (.t 35) 0),
  A1 41 (.ext (.t 35) 1),
  A1 11 (.mv (.t 40)),
  A1 12 (.mv (.t 41))])
 ((.seq (.reg [A1 42 (.mv (.t 12)),
  A1 8 (.mv (.t 42))])
 (.ret))))))))))))))
def f322 : LF := ⟨c322, 4, 0, 43, [.tmp 8]⟩

/-- moot/word.power -/
def c323 : LC := (.seq (.reg [A1 4 (.mv (.c (.int .u64 0)))])
 ((.seq (.reg [A1 5 (.mv (.c (.int .u64 1)))])
 ((.seq (.block 0 (.loop ((.seq ((.seq (.reg [A1 6 (.mv (.t 1)),
  A1 7 (.ari .gtr (.t 6) (.c (.int .u64 0)))])
 (.cond (.t 7) (.skip) (.exit 0))))
 ((.seq (.block 1 ((.seq ((.seq (.reg [A1 10 (.mv (.t 1)),
  A1 11 (.ari .and (.t 10) (.c (.int .u64 1))),
  A1 12 (.ari .eql (.t 11) (.c (.int .u64 1)))])
 (.cond (.t 12) (.reg [A1 13 (.mv (.t 5)),
  A1 14 (.mv (.t 0)),
  A1 15 (.ari .mul (.t 13) (.t 14)),
  A1 5 (.mv (.t 15))]) (.skip))))
 (.reg [A1 16 (.mv (.t 0)),
  A1 17 (.mv (.t 0)),
  A1 18 (.ari .mul (.t 16) (.t 17)),
  A1 0 (.mv (.t 18))]))))
 (.reg [A1 8 (.mv (.t 1)),
  A1 9 (.ari .shr (.t 8) (.c (.int .u64 1))),
  A1 1 (.mv (.t 9))])))))))
 ((.seq (.reg [A1 19 (.mv (.t 5)),
  A1 4 (.mv (.t 19))])
 (.ret))))))))
def f323 : LF := ⟨c323, 2, 0, 20, [.tmp 4]⟩

/-- moot/word.shifted -/
def c324 : LC := (.seq (.reg [A1 6 (.mv (.c (.int .u64 0)))])
 ((.seq ((.seq (.reg [A1 8 (.mv (.t 0))])
 (.block 0 ((.seq (.reg [A1 10 (.ari .eql (.t 8) (.c (.int .i64 11))),
  A1 9 (.mv (.t 10))])
 (.cond (.t 9) ((.seq ((.seq (.reg [A1 11 (.mv (.t 1)),
  A1 12 (.ari .geq (.t 11) (.c (.int .u64 7)))])
 (.cond (.t 12) ((.seq (.reg [A1 13 (.mv (.t 2)),
  A1 6 (.mv (.t 13))])
 (.ret))) (.skip))))
 ((.seq (.reg [A1 14 (.mv (.t 1)),
  A1 15 (.ari .mul (.c (.int .u64 8)) (.t 14)),
  A1 16 (.ari .sub (.c (.int .u64 56)) (.t 15)),
  A1 7 (.mv (.t 16))])
 ((.seq (.reg [A1 17 (.mv (.t 2)),
  A1 18 (.mv (.t 7)),
  A1 19 (.ari .shl (.t 17) (.t 18)),
  A1 20 (.conv .i64 (.t 19)),
  A1 21 (.mv (.t 7)),
  A1 22 (.ari .shr (.t 20) (.t 21)),
  A1 23 (.conv .u64 (.t 22)),
  A1 6 (.mv (.t 23))])
 (.ret))))))) ((.seq (.reg [A1 25 (.ari .eql (.t 8) (.c (.int .i64 12))),
  A1 24 (.mv (.t 25))])
 (.cond (.t 24) ((.seq ((.seq (.reg [A1 26 (.mv (.t 1)),
  A1 27 (.ari .gtr (.t 26) (.c (.int .u64 7)))])
 (.cond (.t 27) ((.seq (.reg [A1 6 (.mv (.c (.int .u64 0)))])
 (.ret))) (.skip))))
 ((.seq (.reg [A1 28 (.mv (.t 2)),
  A1 29 (.mv (.t 1)),
  A1 30 (.ari .mul (.c (.int .u64 8)) (.t 29)),
  A1 31 (.ari .sub (.c (.int .u64 56)) (.t 30)),
  A1 32 (.ari .shr (.t 28) (.t 31)),
  A1 33 (.ari .and (.t 32) (.c (.int .u64 255))),
  A1 6 (.mv (.t 33))])
 (.ret))))) ((.seq (.reg [A1 35 (.ari .eql (.t 8) (.c (.int .i64 13))),
  A1 34 (.mv (.t 35))])
 (.cond (.t 34) ((.seq (.reg [A1 36 (.mv (.t 2)),
  A1 37 (.mv (.t 1)),
  A1 38 (.ari .shl (.t 36) (.t 37)),
  A1 6 (.mv (.t 38))])
 (.ret))) ((.seq (.reg [A1 40 (.ari .eql (.t 8) (.c (.int .i64 14))),
  A1 39 (.mv (.t 40))])
 (.cond (.t 39) ((.seq (.reg [A1 41 (.mv (.t 2)),
  A1 42 (.mv (.t 1)),
  A1 43 (.ari .shr (.t 41) (.t 42)),
  A1 6 (.mv (.t 43))])
 (.ret))) (.skip))))))))))))))))
 ((.seq (.reg [A1 44 (.mv (.t 2)),
  A1 45 (.conv .i64 (.t 44)),
  A1 46 (.mv (.t 1)),
  A1 47 (.ari .shr (.t 45) (.t 46)),
  A1 48 (.conv .u64 (.t 47)),
  A1 6 (.mv (.t 48))])
 (.ret))))))
def f324 : LF := ⟨c324, 3, 0, 49, [.tmp 6]⟩

/-- moot/word.flag -/
def c325 : LC := (.seq (.reg [A1 2 (.mv (.c (.int .u64 0)))])
 ((.seq ((.seq (.reg [A1 3 (.mv (.t 0))])
 (.cond (.t 3) ((.seq (.reg [A1 2 (.mv (.c (.int .u64 1)))])
 (.ret))) (.skip))))
 ((.seq (.reg [A1 2 (.mv (.c (.int .u64 0)))])
 (.ret))))))
def f325 : LF := ⟨c325, 1, 0, 4, [.tmp 2]⟩

/-- math/bits.Mul64 -/
def c421 : LC := (.seq (.reg [A1 4 (.mv (.c (.int .u64 0))),
  A1 5 (.mv (.c (.int .u64 0)))])
 ((.seq (.reg [A1 14 (.mv (.t 0)),
  A1 15 (.ari .and (.t 14) (.c (.int .u64 4294967295))),
  A1 6 (.mv (.t 15))])
 ((.seq (.reg [A1 16 (.mv (.t 0)),
  A1 17 (.ari .shr (.t 16) (.c (.int .u64 32))),
  A1 7 (.mv (.t 17))])
 ((.seq (.reg [A1 18 (.mv (.t 1)),
  A1 19 (.ari .and (.t 18) (.c (.int .u64 4294967295))),
  A1 8 (.mv (.t 19))])
 ((.seq (.reg [A1 20 (.mv (.t 1)),
  A1 21 (.ari .shr (.t 20) (.c (.int .u64 32))),
  A1 9 (.mv (.t 21))])
 ((.seq (.reg [A1 22 (.mv (.t 6)),
  A1 23 (.mv (.t 8)),
  A1 24 (.ari .mul (.t 22) (.t 23)),
  A1 10 (.mv (.t 24))])
 ((.seq (.reg [A1 25 (.mv (.t 7)),
  A1 26 (.mv (.t 8)),
  A1 27 (.ari .mul (.t 25) (.t 26)),
  A1 28 (.mv (.t 10)),
  A1 29 (.ari .shr (.t 28) (.c (.int .u64 32))),
  A1 30 (.ari .add (.t 27) (.t 29)),
  A1 11 (.mv (.t 30))])
 ((.seq (.reg [A1 31 (.mv (.t 11)),
  A1 32 (.ari .and (.t 31) (.c (.int .u64 4294967295))),
  A1 12 (.mv (.t 32))])
 ((.seq (.reg [A1 33 (.mv (.t 11)),
  A1 34 (.ari .shr (.t 33) (.c (.int .u64 32))),
  A1 13 (.mv (.t 34))])
 ((.seq (.reg [A1 35 (.mv (.t 12)),
  A1 36 (.mv (.t 6)),
  A1 37 (.mv (.t 9)),
  A1 38 (.ari .mul (.t 36) (.t 37)),
  A1 39 (.ari .add (.t 35) (.t 38)),
  A1 12 (.mv (.t 39))])
 ((.seq (.reg [A1 40 (.mv (.t 7)),
  A1 41 (.mv (.t 9)),
  A1 42 (.ari .mul (.t 40) (.t 41)),
  A1 43 (.mv (.t 13)),
  A1 44 (.ari .add (.t 42) (.t 43)),
  A1 45 (.mv (.t 12)),
  A1 46 (.ari .shr (.t 45) (.c (.int .u64 32))),
  A1 47 (.ari .add (.t 44) (.t 46)),
  A1 4 (.mv (.t 47))])
 ((.seq (.reg [A1 48 (.mv (.t 0)),
  A1 49 (.mv (.t 1)),
  A1 50 (.ari .mul (.t 48) (.t 49)),
  A1 5 (.mv (.t 50))])
 (.ret))))))))))))))))))))))))
def f421 : LF := ⟨c421, 2, 0, 51, [.tmp 4, .tmp 5]⟩

/-- math/bits.Div64 -/
def c423 : LC := (.seq (.reg [A1 6 (.mv (.c (.int .u64 0))),
  A1 7 (.mv (.c (.int .u64 0)))])
 ((.seq ((.seq (.reg [A1 19 (.mv (.t 2)),
  A1 20 (.ari .eql (.t 19) (.c (.int .u64 0)))])
 (.cond (.t 20) (.reg [A1 21 .nope /- global -/,
  A0 .nope /- op -/]) (.skip))))
 ((.seq ((.seq (.reg [A1 22 (.mv (.t 2)),
  A1 23 (.mv (.t 0)),
  A1 24 (.ari .leq (.t 22) (.t 23))])
 (.cond (.t 24) (.reg [A1 25 .nope /- global -/,
  A0 .nope /- op -/]) (.skip))))
 ((.seq ((.seq (.reg [A1 26 (.mv (.t 0)),
  A1 27 (.ari .eql (.t 26) (.c (.int .u64 0)))])
 (.cond (.t 27) ((.seq (.regd [⟨0, 0, A1 28 (.mv (.t 1))⟩,
  ⟨1, 0, A1 29 (.mv (.t 2))⟩,
  ⟨2, 3, A1 30 (.ari .quo (.t 28) (.t 29))⟩,
  ⟨3, 0, A1 31 (.mv (.t 1))⟩,
  ⟨4, 0, A1 32 (.mv (.t 2))⟩,
  ⟨5, 24, A1 33 (.ari .rem (.t 31) (.t 32))⟩,
  ⟨6, 7, A1 6 (.mv (.t 30))⟩,
  ⟨7, 127, A1 7 (.mv (.t 33))⟩])
 (.ret))) (.skip))))
 ((.seq (.reg [A1 34 (.mv (.t 2)),
  ⟨(some 35), .call 463 [(.t 34)], none⟩,
  A1 36 (.conv .u64 (.t 35)),
  A1 8 (.mv (.t 36))])
 ((.seq (.reg [A1 37 (.mv (.t 2)),
  A1 38 (.mv (.t 8)),
  A1 39 (.ari .shl (.t 37) (.t 38)),
  A1 2 (.mv (.t 39))])
 ((.seq (.reg [A1 40 (.mv (.t 2)),
  A1 41 (.ari .shr (.t 40) (.c (.int .u64 32))),
  A1 9 (.mv (.t 41))])
 ((.seq (.reg [A1 42 (.mv (.t 2)),
  A1 43 (.ari .and (.t 42) (.c (.int .u64 4294967295))),
  A1 10 (.mv (.t 43))])
 ((.seq (.reg [A1 44 (.mv (.t 0)),
  A1 45 (.mv (.t 8)),
  A1 46 (.ari .shl (.t 44) (.t 45)),
  A1 47 (.mv (.t 1)),
  A1 48 (.mv (.t 8)),
  A1 49 (.ari .sub (.c (.int .u64 64)) (.t 48)),
  A1 50 (.ari .shr (.t 47) (.t 49)),
  A1 51 (.ari .or (.t 46) (.t 50)),
  A1 11 (.mv (.t 51))])
 ((.seq (.reg [A1 52 (.mv (.t 1)),
  A1 53 (.mv (.t 8)),
  A1 54 (.ari .shl (.t 52) (.t 53)),
  A1 12 (.mv (.t 54))])
 ((.seq (.reg [A1 55 (.mv (.t 12)),
  A1 56 (.ari .shr (.t 55) (.c (.int .u64 32))),
  A1 13 (.mv (.t 56))])
 ((.seq (.reg [A1 57 (.mv (.t 12)),
  A1 58 (.ari .and (.t 57) (.c (.int .u64 4294967295))),
  A1 14 (.mv (.t 58))])
 ((.seq (.reg [A1 59 (.mv (.t 11)),
  A1 60 (.mv (.t 9)),
  A1 61 (.ari .quo (.t 59) (.t 60)),
  A1 15 (.mv (.t 61))])
 ((.seq (.reg [A1 62 (.mv (.t 11)),
  A1 63 (.mv (.t 15)),
  A1 64 (.mv (.t 9)),
  A1 65 (.ari .mul (.t 63) (.t 64)),
  A1 66 (.ari .sub (.t 62) (.t 65)),
  A1 16 (.mv (.t 66))])
 ((.seq (.block 0 (.loop ((.seq ((.seq (.reg [A1 67 (.mv (.t 15)),
  A1 68 (.ari .geq (.t 67) (.c (.int .u64 4294967296))),
  A1 69 (.mv (.t 68)),
  A2 70 69 false (.mv (.t 15)),
  A2 71 69 false (.mv (.t 10)),
  A2 72 69 false (.ari .mul (.t 70) (.t 71)),
  A2 73 69 false (.mv (.t 16)),
  A2 74 69 false (.ari .mul (.c (.int .u64 4294967296)) (.t 73)),
  A2 75 69 false (.mv (.t 13)),
  A2 76 69 false (.ari .add (.t 74) (.t 75)),
  A2 77 69 false (.ari .gtr (.t 72) (.t 76)),
  A1 78 (.pick (.t 69) (.c (.bool true)) (.t 77))])
 (.cond (.t 78) (.skip) (.exit 0))))
 (.block 1 ((.seq (.reg [A1 79 (.mv (.t 15)),
  A1 80 (.ari .sub (.t 79) (.c (.int .u64 1))),
  A1 15 (.mv (.t 80))])
 ((.seq (.reg [A1 81 (.mv (.t 16)),
  A1 82 (.mv (.t 9)),
  A1 83 (.ari .add (.t 81) (.t 82)),
  A1 16 (.mv (.t 83))])
 ((.seq (.reg [A1 84 (.mv (.t 16)),
  A1 85 (.ari .geq (.t 84) (.c (.int .u64 4294967296)))])
 (.cond (.t 85) (.exit 0) (.skip)))))))))))))
 ((.seq (.reg [A1 86 (.mv (.t 11)),
  A1 87 (.ari .mul (.t 86) (.c (.int .u64 4294967296))),
  A1 88 (.mv (.t 13)),
  A1 89 (.ari .add (.t 87) (.t 88)),
  A1 90 (.mv (.t 15)),
  A1 91 (.mv (.t 2)),
  A1 92 (.ari .mul (.t 90) (.t 91)),
  A1 93 (.ari .sub (.t 89) (.t 92)),
  A1 17 (.mv (.t 93))])
 ((.seq (.reg [A1 94 (.mv (.t 17)),
  A1 95 (.mv (.t 9)),
  A1 96 (.ari .quo (.t 94) (.t 95)),
  A1 18 (.mv (.t 96))])
 ((.seq (.reg [A1 97 (.mv (.t 17)),
  A1 98 (.mv (.t 18)),
  A1 99 (.mv (.t 9)),
  A1 100 (.ari .mul (.t 98) (.t 99)),
  A1 101 (.ari .sub (.t 97) (.t 100)),
  A1 16 (.mv (.t 101))])
 ((.seq (.block 2 (.loop ((.seq ((.seq (.reg [A1 102 (.mv (.t 18)),
  A1 103 (.ari .geq (.t 102) (.c (.int .u64 4294967296))),
  A1 104 (.mv (.t 103)),
  A2 105 104 false (.mv (.t 18)),
  A2 106 104 false (.mv (.t 10)),
  A2 107 104 false (.ari .mul (.t 105) (.t 106)),
  A2 108 104 false (.mv (.t 16)),
  A2 109 104 false (.ari .mul (.c (.int .u64 4294967296)) (.t 108)),
  A2 110 104 false (.mv (.t 14)),
  A2 111 104 false (.ari .add (.t 109) (.t 110)),
  A2 112 104 false (.ari .gtr (.t 107) (.t 111)),
  A1 113 (.pick (.t 104) (.c (.bool true)) (.t 112))])
 (.cond (.t 113) (.skip) (.exit 2))))
 (.block 3 ((.seq (.reg [A1 114 (.mv (.t 18)),
  A1 115 (.ari .sub (.t 114) (.c (.int .u64 1))),
  A1 18 (.mv (.t 115))])
 ((.seq (.reg [A1 116 (.mv (.t 16)),
  A1 117 (.mv (.t 9)),
  A1 118 (.ari .add (.t 116) (.t 117)),
  A1 16 (.mv (.t 118))])
 ((.seq (.reg [A1 119 (.mv (.t 16)),
  A1 120 (.ari .geq (.t 119) (.c (.int .u64 4294967296)))])
 (.cond (.t 120) (.exit 2) (.skip)))))))))))))
 ((.seq (.reg [A1 121 (.mv (.t 15)),
  A1 122 (.ari .mul (.t 121) (.c (.int .u64 4294967296))),
  A1 123 (.mv (.t 18)),
  A1 124 (.ari .add (.t 122) (.t 123)),
  A1 125 (.mv (.t 17)),
  A1 126 (.ari .mul (.t 125) (.c (.int .u64 4294967296))),
  A1 127 (.mv (.t 14)),
  A1 128 (.ari .add (.t 126) (.t 127)),
  A1 129 (.mv (.t 18)),
  A1 130 (.mv (.t 2)),
  A1 131 (.ari .mul (.t 129) (.t 130)),
  A1 132 (.ari .sub (.t 128) (.t 131)),
  A1 133 (.mv (.t 8)),
  A1 134 (.ari .shr (.t 132) (.t 133)),
  A1 6 (.mv (.t 124)),
  A1 7 (.mv (.t 134))])
 (.ret))))))))))))))))))))))))))))))))))))))))
def f423 : LF := ⟨c423, 3, 0, 135, [.tmp 6, .tmp 7]⟩

/-- math/bits.Len64 -/
def c259 : LC := (.seq (.reg [A1 2 (.mv (.c (.int .i64 0)))])
 ((.seq ((.seq (.reg [A1 3 (.mv (.t 0)),
  A1 4 (.ari .geq (.t 3) (.c (.int .u64 4294967296)))])
 (.cond (.t 4) ((.seq (.reg [A1 5 (.mv (.t 0)),
  A1 6 (.ari .shr (.t 5) (.c (.int .u64 32))),
  A1 0 (.mv (.t 6))])
 (.reg [A1 2 (.mv (.c (.int .i64 32)))]))) (.skip))))
 ((.seq ((.seq (.reg [A1 7 (.mv (.t 0)),
  A1 8 (.ari .geq (.t 7) (.c (.int .u64 65536)))])
 (.cond (.t 8) ((.seq (.reg [A1 9 (.mv (.t 0)),
  A1 10 (.ari .shr (.t 9) (.c (.int .u64 16))),
  A1 0 (.mv (.t 10))])
 (.reg [A1 11 (.mv (.t 2)),
  A1 12 (.ari .add (.t 11) (.c (.int .i64 16))),
  A1 2 (.mv (.t 12))]))) (.skip))))
 ((.seq ((.seq (.reg [A1 13 (.mv (.t 0)),
  A1 14 (.ari .geq (.t 13) (.c (.int .u64 256)))])
 (.cond (.t 14) ((.seq (.reg [A1 15 (.mv (.t 0)),
  A1 16 (.ari .shr (.t 15) (.c (.int .u64 8))),
  A1 0 (.mv (.t 16))])
 (.reg [A1 17 (.mv (.t 2)),
  A1 18 (.ari .add (.t 17) (.c (.int .i64 8))),
  A1 2 (.mv (.t 18))]))) (.skip))))
 ((.seq (.reg [A1 19 (.mv (.t 2)),
  A1 20 (.mv (.t 0)),
  A1 21 (.conv .u8 (.t 20)),
  A1 22 (.sidx (.c (.str len8)) (.t 21)),
  A1 23 (.conv .i64 (.t 22)),
  A1 24 (.ari .add (.t 19) (.t 23)),
  A1 2 (.mv (.t 24))])
 (.ret))))))))))
def f259 : LF := ⟨c259, 1, 0, 25, [.tmp 2]⟩

/-- math/bits.LeadingZeros64 -/
def c463 : LC := (.seq (.reg [A1 2 (.mv (.c (.int .i64 0)))])
 ((.seq (.reg [A1 3 (.mv (.t 0)),
  ⟨(some 4), .call 259 [(.t 3)], none⟩,
  A1 5 (.ari .sub (.c (.int .i64 64)) (.t 4)),
  A1 2 (.mv (.t 5))])
 (.ret))))
def f463 : LF := ⟨c463, 1, 0, 6, [.tmp 2]⟩

end Mv
namespace Mv
open Go
set_option maxRecDepth 20000
set_option maxHeartbeats 4000000
set_option linter.unusedSimpArgs false

structure OkP (M : Seat) : Prop where
  k215 : chkF M 215 f215 = true
  k321 : chkF M 321 f321 = true
  k322 : chkF M 322 f322 = true
  k323 : chkF M 323 f323 = true
  k324 : chkF M 324 f324 = true
  k325 : chkF M 325 f325 = true
  k421 : chkF M 421 f421 = true
  k423 : chkF M 423 f423 = true
  k259 : chkF M 259 f259 = true
  k463 : chkF M 463 f463 = true

def flg (t : Bool) : BitVec 64 := if t then 1#64 else 0#64
theorem runs_flag {M : Seat} (ok : OkP M) (t : Bool) : Runs M 325 [.bool t] [] 0 (fun r H' k' => r = W (flg t) ∧ H' = [] ∧ k' = 0) := by
  refine runs_fr ok.k325 rfl fun x hx => ?_
  cases t
  all_goals refine ex_sound 2000 _ _ _ _ ?_; (simp (maxSteps := 4000000) only [f325, c325, LZ, seval, reduceCtorEq, forall_const])
  all_goals refine RetS.mk hx [] [] _ _ _ (by decide) (by (simp only [LV, flg, LZ, seval, reduceCtorEq, forall_const])) (by ((try simp only [LV, flg, LZ, seval, reduceCtorEq, forall_const, LY, seval, reduceCtorEq, implies_true]); first | done | exact True.intro | (intros; rfl))) (by ((try simp only [flg, LY, seval, reduceCtorEq, implies_true]); first | done | exact True.intro | (intros; rfl))) ⟨rfl, rfl, rfl⟩

/-- A quotient or a rest. -/
def divd (op : Nat) (a b : BitVec 64) : BitVec 64 :=
  if b = 0#64 then 0#64 else if op = 4 then a / b else if op = 6 then a % b
  else if op = 5 then (if ((a.toInt < 0) ↔ (b.toInt < 0)) then (if a.toInt < 0 then -a else a) / (if b.toInt < 0 then -b else b) else -((if a.toInt < 0 then -a else a) / (if b.toInt < 0 then -b else b)))
  else if a.toInt < 0 then -((-a) % (if b.toInt < 0 then -b else b)) else a % (if b.toInt < 0 then -b else b)

theorem runs_divided {M : Seat} (ok : OkP M) (op : Nat) (ho : op = 4 ∨ op = 5 ∨ op = 6 ∨ op = 7) (a b : BitVec 64) : Runs M 321 [.int .i64 op, W a, W b] [] 0 (fun r H' k' => r = W (divd op a b) ∧ H' = [] ∧ k' = 0) := by
  refine runs_fr ok.k321 rfl fun x hx => ?_
  by_cases hb : b = 0#64
  · subst hb
    refine ex_sound 2000 _ _ _ _ ?_; (simp (maxSteps := 4000000) only [f321, c321, LZ, seval, reduceCtorEq, forall_const])
    refine RetS.mk hx [] [] _ _ _ (by decide) (by (simp only [LV, divd, LZ, seval, reduceCtorEq, forall_const])) (by ((try simp only [LV, divd, LZ, seval, reduceCtorEq, forall_const, LY, seval, reduceCtorEq, implies_true]); first | done | exact True.intro | (intros; rfl))) (by ((try simp only [divd, LY, seval, reduceCtorEq, implies_true]); first | done | exact True.intro | (intros; rfl))) ⟨rfl, rfl, rfl⟩
  · have hn : ¬ -b = 0#64 := fun h => hb (by have := congrArg (fun x => -x) h; simpa using this)
    have e0 : (b ≠ 0) = True := eq_true hb
    have e1 : (-b ≠ 0) = True := eq_true hn
    rcases Classical.propComplete (a.toInt < 0) with h1 | h1 <;> rcases Classical.propComplete (b.toInt < 0) with h2 | h2 <;> rcases ho with rfl | rfl | rfl | rfl
    all_goals simp only [divd, hb, h1, h2, if_true, if_false, seval, Nat.reduceEqDiff, iff_self, iff_true, iff_false, true_iff, false_iff, not_true_eq_false, not_false_eq_true]
    all_goals refine ex_sound 2000 _ _ _ _ ?_; (simp (maxSteps := 4000000) only [f321, c321, hb, h1, h2, e0, e1, Int.cast_ofNat_Int, LZ, seval, reduceCtorEq, forall_const])
    all_goals repeat (refine And.intro (by first | omega | exact True.intro | rfl) ?_)
    all_goals exact RetS.mkZ hx [] ⟨rfl, rfl, rfl⟩

def pwr : Nat → BitVec 64 → BitVec 64 → BitVec 64 → BitVec 64
  | 0, _, _, p => p
  | k + 1, a, b, p => if b = 0#64 then p else pwr k (a * a) (b >>> 1) (if b &&& 1#64 = 1#64 then p * a else p)

theorem runs_power {M : Seat} (ok : OkP M) (a b : BitVec 64) : Runs M 323 [W a, W b] [] 0 (fun r H' k' => r = W (pwr 64 a b 1#64) ∧ H' = [] ∧ k' = 0) := by
  refine runs_fr ok.k323 rfl fun x hx => ?_
  generalize hF : pwr 64 a b 1#64 = F
  refine ex_sound 2000 _ _ _ _ ?_; (simp (maxSteps := 4000000) only [f323, c323, LZ, seval, reduceCtorEq, forall_const])
  refine loop_rule (σ := Nat × BitVec 64 × BitVec 64 × BitVec 64) (fun s => pwr s.1 s.2.1 s.2.2.1 s.2.2.2 = F ∧ s.2.2.1.toNat < 2 ^ s.1) (fun s => fr 20 [(0, W s.2.1), (1, W s.2.2.1), (5, W s.2.2.2)]) (fun _ => []) (fun _ => 0) (fun s => s.1) (64, a, b, 1#64) ⟨hF, b.isLt⟩ ?_ ?_
  · refine Weak.fr [] [] hx (by simp only [fr_length]) (by decide) ?_ ?_
    · simp only [LY, seval, reduceCtorEq, implies_true]
    · trivial
  · rintro ⟨k, a, b, p⟩ ⟨h1, h2⟩
    dsimp only at h1 h2
    refine ex_sound 2000 _ _ _ _ ?_
    by_cases h0 : b = 0#64
    · subst h0
      have hp : p = F := by
        cases k with
        | zero => exact h1
        | succ k => rw [pwr, if_pos rfl] at h1; exact h1
      subst hp
      (simp (maxSteps := 4000000) only [LZ, seval, reduceCtorEq, forall_const])
      exact RetS.mkZ hx [] ⟨rfl, rfl, rfl⟩
    · have hg : (0#64 < b) = True := eq_true (by
        rw [BitVec.lt_def]
        have : b.toNat ≠ 0 := fun h => h0 (BitVec.eq_of_toNat_eq (by simpa using h))
        show 0 < b.toNat; omega)
      cases k with
      | zero => exact absurd (BitVec.eq_of_toNat_eq (by have : b.toNat < 1 := h2; show b.toNat = 0; omega)) h0
      | succ k =>
        rw [pwr, if_neg h0] at h1
        have hs : (b >>> 1).toNat < 2 ^ k := by
          rw [BitVec.toNat_ushiftRight, Nat.shiftRight_eq_div_pow]
          rw [Nat.pow_succ] at h2; omega
        by_cases h3 : b &&& 1#64 = 1#64
        · rw [if_pos h3] at h1
          (simp (maxSteps := 4000000) only [hg, h3, LZ, seval, reduceCtorEq, forall_const])
          refine ⟨(k, a * a, b >>> 1, p * a), h1, hs, by omega, ?_⟩
          refine Weak.fr [] [] hx (by simp only [fr_length]) (by decide) ?_ ?_
          · simp only [LY, seval, reduceCtorEq, implies_true]
          · trivial
        · rw [if_neg h3] at h1
          (simp (maxSteps := 4000000) only [hg, h3, LZ, seval, reduceCtorEq, forall_const])
          refine ⟨(k, a * a, b >>> 1, p), h1, hs, by omega, ?_⟩
          refine Weak.fr [] [] hx (by simp only [fr_length]) (by decide) ?_ ?_
          · simp only [LY, seval, reduceCtorEq, implies_true]
          · trivial
end Mv
namespace Mv
open Go
set_option maxRecDepth 20000
set_option maxHeartbeats 4000000
set_option linter.unusedSimpArgs false

/-- The upper half of a product. -/
def mhi (a b : BitVec 64) : BitVec 64 :=
  (a >>> 32) * (b >>> 32) + (((a >>> 32) * (b &&& 4294967295#64) + ((a &&& 4294967295#64) * (b &&& 4294967295#64)) >>> 32) >>> 32)
    + ((((a >>> 32) * (b &&& 4294967295#64) + ((a &&& 4294967295#64) * (b &&& 4294967295#64)) >>> 32) &&& 4294967295#64) + (a &&& 4294967295#64) * (b >>> 32)) >>> 32

theorem runs_Mul64 {M : Seat} (ok : OkP M) (a b : BitVec 64) : Runs M 421 [W a, W b] [] 0 (fun r H' k' => r = tup2 (W (mhi a b)) (W (a * b)) ∧ H' = [] ∧ k' = 0) := by
  refine runs_fr ok.k421 rfl fun x hx => ?_
  have e32 : (32#64).toNat = 32 := rfl
  refine ex_sound 2000 _ _ _ _ ?_; (simp (maxSteps := 4000000) only [f421, c421, e32, LZ, seval, reduceCtorEq, forall_const])
  exact RetS.mkZ hx [] ⟨rfl, rfl, rfl⟩

theorem lowW (a : BitVec 64) : (a &&& 4294967295#64).toNat = a.toNat % 4294967296 := by
  have e : (4294967295#64).toNat = 2 ^ 32 - 1 := by decide
  rw [BitVec.toNat_and, e, Nat.and_two_pow_sub_one_eq_mod]
theorem highW (a : BitVec 64) : (a >>> 32).toNat = a.toNat / 4294967296 := by
  rw [BitVec.toNat_ushiftRight, Nat.shiftRight_eq_div_pow]
theorem mul32 {p q : Nat} (hp : p < 4294967296) (hq : q < 4294967296) : p * q ≤ 18446744065119617025 := by
  have := Nat.mul_le_mul (show p ≤ 4294967295 by omega) (show q ≤ 4294967295 by omega)
  omega
theorem mulW {p q : BitVec 64} (hp : p.toNat < 4294967296) (hq : q.toNat < 4294967296) : (p * q).toNat = p.toNat * q.toNat := by
  have := mul32 hp hq
  rw [BitVec.toNat_mul, Nat.mod_eq_of_lt (by omega)]
theorem addW {p q : BitVec 64} (h : p.toNat + q.toNat < 18446744073709551616) : (p + q).toNat = p.toNat + q.toNat := by
  rw [BitVec.toNat_add, Nat.mod_eq_of_lt (by omega)]

theorem mhi_nat (a b : BitVec 64) : (mhi a b).toNat = a.toNat * b.toNat / 18446744073709551616 := by
  have ha := a.isLt
  have hb := b.isLt
  have l1 : (a &&& 4294967295#64).toNat < 4294967296 := by rw [lowW]; omega
  have l2 : (b &&& 4294967295#64).toNat < 4294967296 := by rw [lowW]; omega
  have l3 : (a >>> 32).toNat < 4294967296 := by rw [highW]; omega
  have l4 : (b >>> 32).toNat < 4294967296 := by rw [highW]; omega
  have m1 := mulW l1 l2
  have m2 := mulW l3 l2
  have m3 := mulW l1 l4
  have m4 := mulW l3 l4
  have b1 := mul32 l1 l2
  have b2 := mul32 l3 l2
  have b3 := mul32 l1 l4
  have b4 := mul32 l3 l4
  have ea : a.toNat = (a >>> 32).toNat * 4294967296 + (a &&& 4294967295#64).toNat := by rw [lowW, highW]; omega
  have eb : b.toNat = (b >>> 32).toNat * 4294967296 + (b &&& 4294967295#64).toNat := by rw [lowW, highW]; omega
  have ep : a.toNat * b.toNat = (a >>> 32).toNat * (b >>> 32).toNat * 18446744073709551616 + ((a >>> 32).toNat * (b &&& 4294967295#64).toNat + (a &&& 4294967295#64).toNat * (b >>> 32).toNat) * 4294967296 + (a &&& 4294967295#64).toNat * (b &&& 4294967295#64).toNat := by
    rw [ea, eb]
    generalize (a >>> 32).toNat = p
    generalize (b >>> 32).toNat = q
    generalize (a &&& 4294967295#64).toNat = r
    generalize (b &&& 4294967295#64).toNat = s
    rw [Nat.add_mul, Nat.mul_add, Nat.mul_add, Nat.mul_mul_mul_comm, Nat.mul_right_comm p _ s, ← Nat.mul_assoc r q, Nat.add_mul]
    omega
  rw [ep]
  unfold mhi
  generalize (a &&& 4294967295#64) = x0 at *
  generalize (b &&& 4294967295#64) = y0 at *
  generalize (a >>> 32) = x1 at *
  generalize (b >>> 32) = y1 at *
  have t1 : (x1 * y0 + (x0 * y0) >>> 32).toNat = x1.toNat * y0.toNat + x0.toNat * y0.toNat / 4294967296 := by
    rw [addW (by rw [highW, m1, m2]; omega), highW, m1, m2]
  have t2 : (((x1 * y0 + (x0 * y0) >>> 32) &&& 4294967295#64) + x0 * y1).toNat = (x1.toNat * y0.toNat + x0.toNat * y0.toNat / 4294967296) % 4294967296 + x0.toNat * y1.toNat := by
    rw [addW (by rw [lowW, t1, m3]; omega), lowW, t1, m3]
  have t3 : (x1 * y1 + (x1 * y0 + (x0 * y0) >>> 32) >>> 32).toNat = x1.toNat * y1.toNat + (x1.toNat * y0.toNat + x0.toNat * y0.toNat / 4294967296) / 4294967296 := by
    rw [addW (by rw [highW, t1, m4]; omega), highW, t1, m4]
  rw [addW (by rw [highW, t2, t3]; omega), highW, t2, t3]
  omega

def tab8 (i : Nat) : Nat := ((len8[i]?).getD 0).toNat
theorem tab8_ok : ∀ i, i < 256 → tab8 i ≤ 8 ∧ (i ≠ 0 → 1 ≤ tab8 i ∧ 2 ^ (tab8 i - 1) ≤ i ∧ i < 2 ^ tab8 i) := by
  have h : (List.range 256).all (fun i => decide (tab8 i ≤ 8) && (i == 0 || (decide (1 ≤ tab8 i) && decide (2 ^ (tab8 i - 1) ≤ i) && decide (i < 2 ^ tab8 i)))) = true := by kernel_rfl
  intro i hi
  have := List.all_eq_true.1 h i (List.mem_range.2 hi)
  simp only [Bool.and_eq_true, Bool.or_eq_true, beq_iff_eq, decide_eq_true_eq] at this
  exact ⟨this.1, fun h0 => by rcases this.2 with h | h; exact absurd h h0; exact ⟨h.1.1, h.1.2, h.2⟩⟩

def l64a (x : BitVec 64) : Nat × BitVec 64 := if 4294967296#64 ≤ x then (32, x >>> 32) else (0, x)
def l64b (s : Nat × BitVec 64) : Nat × BitVec 64 := if 65536#64 ≤ s.2 then (s.1 + 16, s.2 >>> 16) else s
def l64c (s : Nat × BitVec 64) : Nat × BitVec 64 := if 256#64 ≤ s.2 then (s.1 + 8, s.2 >>> 8) else s
def len64 (x : BitVec 64) : Nat := (l64c (l64b (l64a x))).1 + tab8 (l64c (l64b (l64a x))).2.toNat

theorem pow_split {n t i x : Nat} (hi : x / 2 ^ n = i) (h1 : 1 ≤ t) (h2 : 2 ^ (t - 1) ≤ i) (h3 : i < 2 ^ t) : 2 ^ (n + t - 1) ≤ x ∧ x < 2 ^ (n + t) := by
  have hp : 0 < 2 ^ n := Nat.two_pow_pos n
  have e1 : 2 ^ (n + t - 1) = 2 ^ (t - 1) * 2 ^ n := by rw [← Nat.pow_add]; congr 1; omega
  have e2 : 2 ^ (n + t) = 2 ^ t * 2 ^ n := by rw [← Nat.pow_add]; congr 1; omega
  rw [e1, e2]
  subst hi
  exact ⟨Nat.le_trans (Nat.mul_le_mul_right _ h2) (Nat.div_mul_le_self x _), (Nat.div_lt_iff_lt_mul hp).1 h3⟩

theorem len64_in (x : BitVec 64) : ∃ n, (l64c (l64b (l64a x))).1 = n ∧ n ≤ 56 ∧ (l64c (l64b (l64a x))).2.toNat < 256 ∧ x.toNat / 2 ^ n = (l64c (l64b (l64a x))).2.toNat ∧ (x ≠ 0#64 → (l64c (l64b (l64a x))).2.toNat ≠ 0) := by
  have hx := x.isLt
  have hz : x ≠ 0#64 → x.toNat ≠ 0 := fun h h' => h (BitVec.eq_of_toNat_eq (by simpa using h'))
  have e1 : (4294967296#64).toNat = 4294967296 := rfl
  have e2 : (65536#64).toNat = 65536 := rfl
  have e3 : (256#64).toNat = 256 := rfl
  by_cases h1 : 4294967296#64 ≤ x
  all_goals simp only [l64a, h1, if_true, if_false, l64b]
  · have g1 := h1
    rw [BitVec.le_def, e1] at g1
    by_cases h2 : 65536#64 ≤ x >>> 32
    all_goals simp only [h2, if_true, if_false, l64c]
    · have g2 := h2
      rw [BitVec.le_def, e2, BitVec.toNat_ushiftRight, Nat.shiftRight_eq_div_pow] at g2
      by_cases h3 : 256#64 ≤ x >>> 32 >>> 16
      all_goals simp only [h3, if_true, if_false]
      all_goals (have g3 := h3; rw [BitVec.le_def, e3, BitVec.toNat_ushiftRight, Nat.shiftRight_eq_div_pow, BitVec.toNat_ushiftRight, Nat.shiftRight_eq_div_pow] at g3)
      all_goals try simp only [BitVec.toNat_ushiftRight, Nat.shiftRight_eq_div_pow]
      · exact ⟨56, rfl, by omega, by omega, by omega, by omega⟩
      · exact ⟨48, rfl, by omega, by omega, by omega, by omega⟩
    · have g2 := h2
      rw [BitVec.le_def, e2, BitVec.toNat_ushiftRight, Nat.shiftRight_eq_div_pow] at g2
      by_cases h3 : 256#64 ≤ x >>> 32
      all_goals simp only [h3, if_true, if_false]
      all_goals (have g3 := h3; rw [BitVec.le_def, e3, BitVec.toNat_ushiftRight, Nat.shiftRight_eq_div_pow] at g3)
      all_goals try simp only [BitVec.toNat_ushiftRight, Nat.shiftRight_eq_div_pow]
      · exact ⟨40, rfl, by omega, by omega, by omega, by omega⟩
      · exact ⟨32, rfl, by omega, by omega, by omega, by omega⟩
  · have g1 := h1
    rw [BitVec.le_def, e1] at g1
    by_cases h2 : 65536#64 ≤ x
    all_goals simp only [h2, if_true, if_false, l64c]
    · have g2 := h2
      rw [BitVec.le_def, e2] at g2
      by_cases h3 : 256#64 ≤ x >>> 16
      all_goals simp only [h3, if_true, if_false]
      all_goals (have g3 := h3; rw [BitVec.le_def, e3, BitVec.toNat_ushiftRight, Nat.shiftRight_eq_div_pow] at g3)
      all_goals try simp only [BitVec.toNat_ushiftRight, Nat.shiftRight_eq_div_pow]
      · exact ⟨24, rfl, by omega, by omega, by omega, by omega⟩
      · exact ⟨16, rfl, by omega, by omega, by omega, by omega⟩
    · have g2 := h2
      rw [BitVec.le_def, e2] at g2
      by_cases h3 : 256#64 ≤ x
      all_goals simp only [h3, if_true, if_false]
      all_goals (have g3 := h3; rw [BitVec.le_def, e3] at g3)
      all_goals try simp only [BitVec.toNat_ushiftRight, Nat.shiftRight_eq_div_pow]
      · exact ⟨8, rfl, by omega, by omega, by omega, by omega⟩
      · exact ⟨0, rfl, by omega, by omega, by omega, by omega⟩

theorem len64_ok (x : BitVec 64) : len64 x ≤ 64 ∧ (x ≠ 0#64 → 1 ≤ len64 x ∧ 2 ^ (len64 x - 1) ≤ x.toNat ∧ x.toNat < 2 ^ len64 x) := by
  obtain ⟨n, h1, h2, h3, h4, h5⟩ := len64_in x
  obtain ⟨q1, q2⟩ := tab8_ok _ h3
  unfold len64
  rw [h1]
  refine ⟨by omega, fun h0 => ?_⟩
  obtain ⟨k1, k2, k3⟩ := q2 (h5 h0)
  obtain ⟨j1, j2⟩ := pow_split h4 k1 k2 k3
  exact ⟨by omega, j1, j2⟩

theorem vsidx_8 (b : BitVec 8) (H : Hp) : vsidx (.str len8) (B b) H = ⟨True, .int .u8 (tab8 b.toNat), H⟩ := by
  have h := b.isLt
  have hs : len8.size = 256 := rfl
  show (⟨_, _, _⟩ : Out) = _
  congr 1
  exact eq_true ⟨by omega, by rw [hs]; omega⟩
theorem wrapn {n : Nat} (h : n < 9223372036854775808) : IntKind.i64.wrap (n : Int) = n := wrap_i64 (by omega)

theorem wrT (k : Int) (y : Nat) (hy : y < 256) (h0 : 0 ≤ k) (h1 : k ≤ 56) : IntKind.i64.wrap (k + (tab8 y : Int)) = k + (tab8 y : Int) := by
  have := (tab8_ok y hy).1
  rw [wrap_i64 (by omega)]

theorem runs_Len64 {M : Seat} (ok : OkP M) (a : BitVec 64) : Runs M 259 [W a] [] 0 (fun r H' k' => r = .int .i64 (len64 a) ∧ H' = [] ∧ k' = 0) := by
  refine runs_fr ok.k259 rfl fun x hx => ?_
  have e32 : (32#64).toNat = 32 := rfl
  have e16 : (16#64).toNat = 16 := rfl
  have e8 : (8#64).toNat = 8 := rfl
  have w0 : IntKind.i64.wrap 0 = 0 := rfl
  have w1 : IntKind.i64.wrap 48 = 48 := rfl
  have w2 : IntKind.i64.wrap 56 = 56 := rfl
  have w3 : IntKind.i64.wrap 40 = 40 := rfl
  have w4 : IntKind.i64.wrap 16 = 16 := rfl
  have w5 : IntKind.i64.wrap 24 = 24 := rfl
  have w6 : IntKind.i64.wrap 8 = 8 := rfl
  have w7 : IntKind.i64.wrap 32 = 32 := rfl
  have hlen := len64_in a
  unfold len64
  have ht : ∀ y : BitVec 64, y.toNat < 256 → ((BitVec.setWidth 8 y).toNat = y.toNat ∧ tab8 y.toNat ≤ 8) := fun y hy => ⟨by rw [BitVec.toNat_setWidth]; omega, (tab8_ok _ hy).1⟩
  by_cases h1 : 4294967296#64 ≤ a
  all_goals simp only [l64a, h1, if_true, if_false, l64b] at hlen ⊢
  · by_cases h2 : 65536#64 ≤ a >>> 32
    all_goals simp only [h2, if_true, if_false, l64c] at hlen ⊢
    · by_cases h3 : 256#64 ≤ a >>> 32 >>> 16
      all_goals simp only [h3, if_true, if_false] at hlen ⊢
      all_goals obtain ⟨n, hn, hn2, hy, -⟩ := hlen
      all_goals obtain ⟨hq, hk⟩ := ht _ hy
      all_goals (refine ex_sound 2000 _ _ _ _ ?_; (simp (maxSteps := 4000000) only [f259, c259, e32, e16, e8, w0, w1, w2, w3, w4, w5, w6, w7, h1, h2, h3, vsidx_8, hq, wrapn (Nat.lt_of_le_of_lt hk (by decide : 8 < 9223372036854775808)), wrT 56 _ hy (by omega) (by omega), wrT 48 _ hy (by omega) (by omega), wrT 40 _ hy (by omega) (by omega), wrT 32 _ hy (by omega) (by omega), wrT 24 _ hy (by omega) (by omega), wrT 16 _ hy (by omega) (by omega), wrT 8 _ hy (by omega) (by omega), Int.zero_add, wrapn (Nat.lt_of_le_of_lt (tab8_ok _ hy).1 (by decide : 8 < 9223372036854775808)), LZ, seval, reduceCtorEq, forall_const]); exact RetS.mkZ hx [] ⟨rfl, rfl, rfl⟩)
    · by_cases h3 : 256#64 ≤ a >>> 32
      all_goals simp only [h3, if_true, if_false] at hlen ⊢
      all_goals obtain ⟨n, hn, hn2, hy, -⟩ := hlen
      all_goals obtain ⟨hq, hk⟩ := ht _ hy
      all_goals (refine ex_sound 2000 _ _ _ _ ?_; (simp (maxSteps := 4000000) only [f259, c259, e32, e16, e8, w0, w1, w2, w3, w4, w5, w6, w7, h1, h2, h3, vsidx_8, hq, wrapn (Nat.lt_of_le_of_lt hk (by decide : 8 < 9223372036854775808)), wrT 56 _ hy (by omega) (by omega), wrT 48 _ hy (by omega) (by omega), wrT 40 _ hy (by omega) (by omega), wrT 32 _ hy (by omega) (by omega), wrT 24 _ hy (by omega) (by omega), wrT 16 _ hy (by omega) (by omega), wrT 8 _ hy (by omega) (by omega), Int.zero_add, wrapn (Nat.lt_of_le_of_lt (tab8_ok _ hy).1 (by decide : 8 < 9223372036854775808)), LZ, seval, reduceCtorEq, forall_const]); exact RetS.mkZ hx [] ⟨rfl, rfl, rfl⟩)
  · by_cases h2 : 65536#64 ≤ a
    all_goals simp only [h2, if_true, if_false, l64c] at hlen ⊢
    · by_cases h3 : 256#64 ≤ a >>> 16
      all_goals simp only [h3, if_true, if_false] at hlen ⊢
      all_goals obtain ⟨n, hn, hn2, hy, -⟩ := hlen
      all_goals obtain ⟨hq, hk⟩ := ht _ hy
      all_goals (refine ex_sound 2000 _ _ _ _ ?_; (simp (maxSteps := 4000000) only [f259, c259, e32, e16, e8, w0, w1, w2, w3, w4, w5, w6, w7, h1, h2, h3, vsidx_8, hq, wrapn (Nat.lt_of_le_of_lt hk (by decide : 8 < 9223372036854775808)), wrT 56 _ hy (by omega) (by omega), wrT 48 _ hy (by omega) (by omega), wrT 40 _ hy (by omega) (by omega), wrT 32 _ hy (by omega) (by omega), wrT 24 _ hy (by omega) (by omega), wrT 16 _ hy (by omega) (by omega), wrT 8 _ hy (by omega) (by omega), Int.zero_add, wrapn (Nat.lt_of_le_of_lt (tab8_ok _ hy).1 (by decide : 8 < 9223372036854775808)), LZ, seval, reduceCtorEq, forall_const]); exact RetS.mkZ hx [] ⟨rfl, rfl, rfl⟩)
    · by_cases h3 : 256#64 ≤ a
      all_goals simp only [h3, if_true, if_false] at hlen ⊢
      all_goals obtain ⟨n, hn, hn2, hy, -⟩ := hlen
      all_goals obtain ⟨hq, hk⟩ := ht _ hy
      all_goals (refine ex_sound 2000 _ _ _ _ ?_; (simp (maxSteps := 4000000) only [f259, c259, e32, e16, e8, w0, w1, w2, w3, w4, w5, w6, w7, h1, h2, h3, vsidx_8, hq, wrapn (Nat.lt_of_le_of_lt hk (by decide : 8 < 9223372036854775808)), wrT 56 _ hy (by omega) (by omega), wrT 48 _ hy (by omega) (by omega), wrT 40 _ hy (by omega) (by omega), wrT 32 _ hy (by omega) (by omega), wrT 24 _ hy (by omega) (by omega), wrT 16 _ hy (by omega) (by omega), wrT 8 _ hy (by omega) (by omega), Int.zero_add, wrapn (Nat.lt_of_le_of_lt (tab8_ok _ hy).1 (by decide : 8 < 9223372036854775808)), LZ, seval, reduceCtorEq, forall_const]); exact RetS.mkZ hx [] ⟨rfl, rfl, rfl⟩)

/-- How far to the left a word goes. -/
theorem runs_Lead64 {M : Seat} (ok : OkP M) (a : BitVec 64) : Runs M 463 [W a] [] 0 (fun r H' k' => r = .int .i64 ((64 - len64 a : Nat) : Int) ∧ H' = [] ∧ k' = 0) := by
  refine runs_fr ok.k463 rfl fun x hx => ?_
  have h := (len64_ok a).1
  have w : IntKind.i64.wrap (64 - (len64 a : Int)) = ((64 - len64 a : Nat) : Int) := by rw [wrap_i64 (by omega)]; omega
  refine ex_sound 2000 _ _ _ _ ?_; (simp (maxSteps := 4000000) only [f463, c463, LZ, seval, reduceCtorEq, forall_const])
  refine call_pZ (runs_Len64 ok a) ?_
  (simp (maxSteps := 4000000) only [w, LZ, seval, reduceCtorEq, forall_const])
  exact RetS.mkZ hx [] ⟨rfl, rfl, rfl⟩
end Mv
namespace Mv
/-- A guessed half of a quotient, brought down. -/
def dl (y1 y0 u : BitVec 64) : Nat → BitVec 64 → BitVec 64 → BitVec 64
  | 0, q, _ => q
  | k + 1, q, r => if 4294967296#64 ≤ q ∨ 4294967296#64 * r + u < q * y0 then (if 4294967296#64 ≤ r + y1 then q - 1#64 else dl y1 y0 u k (q - 1#64) (r + y1)) else q

theorem prod_lt {a b : Nat} (ha : a ≤ 4294967297) (hb : b < 4294967296) : a * b < 18446744073709551616 := by
  have := Nat.mul_le_mul ha (show b ≤ 4294967295 by omega)
  omega
theorem dl_ok (y1 y0 v : BitVec 64) (Y u : Nat) (hy : Y = y1.toNat * 4294967296 + y0.toNat) (h0 : y0.toNat < 4294967296) (hv : v.toNat < 4294967296) (h1 : 2147483648 ≤ y1.toNat) (h1' : y1.toNat < 4294967296) (hu : u < Y) :
    ∀ (k : Nat) (q r : BitVec 64), q.toNat * y1.toNat + r.toNat = u → r.toNat < 4294967296 → (u * 4294967296 + v.toNat) / Y ≤ q.toNat → q.toNat ≤ 4294967297 → 4294967296 - r.toNat ≤ k →
      (dl y1 y0 v k q r).toNat = (u * 4294967296 + v.toNat) / Y := by
  intro k
  have hY : 0 < Y := by omega
  induction k with
  | zero => intro q r _ hr _ _ hk; omega
  | succ k ih =>
    intro q r hqr hr hQ hq hk
    have eN : (4294967296#64 : BitVec 64).toNat = 4294967296 := rfl
    have e1 : (4294967296#64 * r + v).toNat = 4294967296 * r.toNat + v.toNat := by
      rw [BitVec.toNat_add, BitVec.toNat_mul, eN, Nat.mod_eq_of_lt (a := 4294967296 * r.toNat) (by omega), Nat.mod_eq_of_lt (by omega)]
    have e2 : (q * y0).toNat = q.toNat * y0.toNat := by rw [BitVec.toNat_mul, Nat.mod_eq_of_lt (prod_lt hq h0)]
    have e3 : (r + y1).toNat = r.toNat + y1.toNat := by rw [BitVec.toNat_add, Nat.mod_eq_of_lt (by omega)]
    have eqY : q.toNat * Y = q.toNat * y1.toNat * 4294967296 + q.toNat * y0.toNat := by rw [hy, Nat.mul_add, Nat.mul_assoc]
    have hN : u * 4294967296 + v.toNat < Y * 4294967296 := by
      have : (u + 1) * 4294967296 ≤ Y * 4294967296 := Nat.mul_le_mul_right _ hu
      omega
    rw [dl]
    by_cases c : 4294967296#64 ≤ q ∨ 4294967296#64 * r + v < q * y0
    · rw [if_pos c]
      have hlt : (u * 4294967296 + v.toNat) / Y < q.toNat := by
        apply (Nat.div_lt_iff_lt_mul hY).2
        rcases c with c | c
        · have c : 4294967296 ≤ q.toNat := c
          have : 4294967296 * Y ≤ q.toNat * Y := Nat.mul_le_mul_right _ c
          omega
        · have c' : 4294967296 * r.toNat + v.toNat < q.toNat * y0.toNat := by rw [BitVec.lt_def, e1, e2] at c; exact c
          have e5 : u * 4294967296 = q.toNat * y1.toNat * 4294967296 + r.toNat * 4294967296 := by rw [← hqr]; exact Nat.add_mul _ _ _
          omega
      have hq1 : 1 ≤ q.toNat := Nat.lt_of_le_of_lt (Nat.zero_le _) hlt
      have e4 : (q - 1#64).toNat = q.toNat - 1 := by
        rw [BitVec.toNat_sub]
        show (18446744073709551616 - 1 + q.toNat) % 18446744073709551616 = _
        omega
      obtain ⟨p, hp⟩ : ∃ p, q.toNat = p + 1 := ⟨q.toNat - 1, by omega⟩
      have hpy : (p + 1) * y1.toNat = p * y1.toNat + y1.toNat := by rw [Nat.add_mul, Nat.one_mul]
      have hpu : p * y1.toNat + (r.toNat + y1.toNat) = u := by rw [hp, hpy] at hqr; omega
      by_cases c3 : 4294967296#64 ≤ r + y1
      · rw [if_pos c3, e4, hp, Nat.add_sub_cancel]
        rw [BitVec.le_def, e3, eN] at c3
        have hpl : p < 4294967296 := by
          rcases Nat.lt_or_ge p 4294967296 with h | h
          · exact h
          · have : 4294967296 * y1.toNat ≤ p * y1.toNat := Nat.mul_le_mul_right _ h
            omega
        have hp0 : p * y0.toNat ≤ 4294967295 * 4294967295 := Nat.mul_le_mul (by omega) (by omega)
        have hle : p ≤ (u * 4294967296 + v.toNat) / Y := by
          apply (Nat.le_div_iff_mul_le hY).2
          have e5 : u * 4294967296 = p * y1.toNat * 4294967296 + (r.toNat + y1.toNat) * 4294967296 := by rw [← hpu]; exact Nat.add_mul _ _ _
          have : p * Y = p * y1.toNat * 4294967296 + p * y0.toNat := by rw [hy, Nat.mul_add, Nat.mul_assoc]
          omega
        omega
      · rw [if_neg c3]
        rw [BitVec.le_def, e3, eN] at c3
        exact ih (q - 1#64) (r + y1) (by rw [e4, e3, hp, Nat.add_sub_cancel]; exact hpu) (by rw [e3]; omega) (by rw [e4]; omega) (by rw [e4]; omega) (by rw [e3]; omega)
    · rw [if_neg c]
      have c2 : ¬ 4294967296 * r.toNat + v.toNat < q.toNat * y0.toNat := by
        intro h; apply c; right; rw [BitVec.lt_def, e1, e2]; exact h
      apply Nat.le_antisymm _ hQ
      apply (Nat.le_div_iff_mul_le hY).2
      have e5 : u * 4294967296 = q.toNat * y1.toNat * 4294967296 + r.toNat * 4294967296 := by rw [← hqr]; exact Nat.add_mul _ _ _
      omega

/-- The first guess. -/
theorem dl_first (y1 y0 v : BitVec 64) (Y : Nat) (u : BitVec 64) (hy : Y = y1.toNat * 4294967296 + y0.toNat) (h0 : y0.toNat < 4294967296) (hv : v.toNat < 4294967296) (h1 : 2147483648 ≤ y1.toNat) (h1' : y1.toNat < 4294967296) (hu : u.toNat < Y) (q r : BitVec 64) (hq : u / y1 = q) (hr : u - q * y1 = r) :
    (dl y1 y0 v 4294967296 q r).toNat = (u.toNat * 4294967296 + v.toNat) / Y := by
  have hY : 0 < Y := by omega
  have eq : q.toNat = u.toNat / y1.toNat := by rw [← hq, BitVec.toNat_udiv]
  have hle : q.toNat * y1.toNat ≤ u.toNat := by rw [eq]; exact Nat.div_mul_le_self _ _
  have hul := u.isLt
  have er : r.toNat = u.toNat - q.toNat * y1.toNat := by
    rw [← hr, BitVec.toNat_sub, BitVec.toNat_mul, Nat.mod_eq_of_lt (a := q.toNat * y1.toNat) (by omega)]
    omega
  have hrl : r.toNat < y1.toNat := by
    have := Nat.div_add_mod u.toNat y1.toNat
    have h2 := Nat.mod_lt u.toNat (show y1.toNat > 0 by omega)
    rw [Nat.mul_comm] at this
    rw [er, eq]; omega
  refine dl_ok y1 y0 v Y u.toNat hy h0 hv h1 h1' hu _ q r (by rw [er]; omega) (by omega) ?_ ?_ (Nat.sub_le _ _)
  · -- the quotient by Y is at most the quotient by y1
    have : (u.toNat * 4294967296 + v.toNat) / Y < q.toNat + 1 := by
      apply (Nat.div_lt_iff_lt_mul hY).2
      have e : (q.toNat + 1) * Y = (q.toNat + 1) * y1.toNat * 4294967296 + (q.toNat + 1) * y0.toNat := by rw [hy, Nat.mul_add, Nat.mul_assoc]
      have e2 : (q.toNat + 1) * y1.toNat = q.toNat * y1.toNat + y1.toNat := by rw [Nat.add_mul, Nat.one_mul]
      omega
    omega
  · rcases Nat.lt_or_ge 4294967297 q.toNat with h | h
    · have : 4294967298 * y1.toNat ≤ q.toNat * y1.toNat := Nat.mul_le_mul_right _ h
      omega
    · exact h
theorem shlOrD (x y : BitVec 64) (m k q : Nat) (hx : x.toNat = k) (hy : y.toNat = q) (hq : q < 2 ^ m) (h : k * 2 ^ m < 18446744073709551616) : (x <<< m ||| y).toNat = k * 2 ^ m + q := by
  rw [BitVec.toNat_or, BitVec.toNat_shiftLeft, hx, hy, Nat.shiftLeft_eq, Nat.mod_eq_of_lt h, ← Nat.shiftLeft_eq, Nat.shiftLeft_add_eq_or_of_lt hq]
theorem subMod (u v F Y : BitVec 64) (N : Nat) (hN : N = u.toNat * 4294967296 + v.toNat) (h : F.toNat * Y.toNat ≤ N) : u * 4294967296#64 + v - F * Y = BitVec.ofNat 64 (N - F.toNat * Y.toNat) := by
  have e1 : u * 4294967296#64 + v = BitVec.ofNat 64 N := by
    apply BitVec.eq_of_toNat_eq
    rw [BitVec.toNat_add, BitVec.toNat_mul, hN, BitVec.toNat_ofNat, BitVec.toNat_ofNat, Nat.mod_eq_of_lt (a := 4294967296) (by decide), Nat.mod_add_mod]
  have e2 : F * Y = BitVec.ofNat 64 (F.toNat * Y.toNat) := by
    apply BitVec.eq_of_toNat_eq
    rw [BitVec.toNat_mul, BitVec.toNat_ofNat]
  have e3 : BitVec.ofNat 64 N = BitVec.ofNat 64 (N - F.toNat * Y.toNat) + BitVec.ofNat 64 (F.toNat * Y.toNat) := by
    rw [← BitVec.ofNat_add]; congr 1; omega
  rw [e1, e2, e3, BitVec.add_sub_cancel]

theorem div_ok (hi lo y s Y u v y1 yl v1 v0 q1 r1 F u2 q0 r0 G : BitVec 64) (h : hi < y) (hs : s.toNat < 64) (hyl64 : y.toNat * 2 ^ s.toNat < 18446744073709551616)
    (hY : y <<< s.toNat = Y) (hu : hi <<< s.toNat ||| lo >>> (64#64 - s).toNat = u) (hv : lo <<< s.toNat = v) (hy1 : Y >>> 32 = y1) (b1 : 2147483648 ≤ y1.toNat) (hyl : Y &&& 4294967295#64 = yl)
    (hv1 : v >>> 32 = v1) (hv0 : v &&& 4294967295#64 = v0) (hq1 : u / y1 = q1) (hr1 : u - q1 * y1 = r1) (hF : dl y1 yl v1 4294967296 q1 r1 = F) (hu2 : u * 4294967296#64 + v1 - F * Y = u2)
    (hq0 : u2 / y1 = q0) (hr0 : u2 - q0 * y1 = r0) (hG : dl y1 yl v0 4294967296 q0 r0 = G) :
    ((u2 * 4294967296#64 + v0 - G * Y) >>> s.toNat).toNat = (hi.toNat * 18446744073709551616 + lo.toNat) % y.toNat := by
  have mask : ∀ x : BitVec 64, (x &&& 4294967295#64).toNat = x.toNat % 4294967296 := fun x => by
    rw [BitVec.toNat_and, show (4294967295#64 : BitVec 64).toNat = 2 ^ 32 - 1 from rfl, Nat.and_two_pow_sub_one_eq_mod]
  have shr : ∀ x : BitVec 64, (x >>> 32).toNat = x.toNat / 4294967296 := fun x => by
    rw [BitVec.toNat_ushiftRight, Nat.shiftRight_eq_div_pow]
  have hlt : hi.toNat < y.toNat := h
  have hlo := lo.isLt
  have hp : 0 < 2 ^ s.toNat := Nat.two_pow_pos _
  have hpp : 2 ^ (64 - s.toNat) * 2 ^ s.toNat = 18446744073709551616 := by rw [← Nat.pow_add, show 64 - s.toNat + s.toNat = 64 by omega]
  have eYn : Y.toNat = y.toNat * 2 ^ s.toNat := by
    rw [← hY, BitVec.toNat_shiftLeft, Nat.shiftLeft_eq, Nat.mod_eq_of_lt hyl64]
  have e64 : (64#64 - s).toNat = 64 - s.toNat := by
    rw [BitVec.toNat_sub_of_le (by rw [BitVec.le_def]; show s.toNat ≤ 64; omega)]; rfl
  have elo : lo.toNat * 2 ^ s.toNat / 18446744073709551616 = lo.toNat / 2 ^ (64 - s.toNat) := by
    rw [← hpp, Nat.mul_div_mul_right _ _ hp]
  have hq : lo.toNat / 2 ^ (64 - s.toNat) < 2 ^ s.toNat := by
    apply (Nat.div_lt_iff_lt_mul (Nat.two_pow_pos _)).2
    rw [Nat.mul_comm, hpp]; exact hlo
  have hhi : hi.toNat * 2 ^ s.toNat < 18446744073709551616 := Nat.lt_of_le_of_lt (Nat.mul_le_mul_right _ (Nat.le_of_lt hlt)) hyl64
  have eu : u.toNat = hi.toNat * 2 ^ s.toNat + lo.toNat / 2 ^ (64 - s.toNat) := by
    rw [← hu]
    exact shlOrD hi _ s.toNat _ _ rfl (by rw [e64, BitVec.toNat_ushiftRight, Nat.shiftRight_eq_div_pow]) hq hhi
  have ev : v.toNat = lo.toNat * 2 ^ s.toNat % 18446744073709551616 := by
    rw [← hv, BitVec.toNat_shiftLeft, Nat.shiftLeft_eq]
  -- all of it, moved up
  have eM : (hi.toNat * 18446744073709551616 + lo.toNat) * 2 ^ s.toNat = u.toNat * 18446744073709551616 + v.toNat := by
    have e := Nat.div_add_mod (lo.toNat * 2 ^ s.toNat) 18446744073709551616
    rw [Nat.add_mul, eu, ev, ← elo, Nat.add_mul, Nat.mul_right_comm]
    omega
  have huY : u.toNat < Y.toNat := by
    have h1 : (hi.toNat * 18446744073709551616 + lo.toNat) * 2 ^ s.toNat < Y.toNat * 18446744073709551616 := by
      rw [eYn, Nat.mul_right_comm]
      apply Nat.mul_lt_mul_of_pos_right _ hp
      omega
    rw [eM] at h1
    omega
  have hYl := Y.isLt
  have hvl := v.isLt
  have ey : Y.toNat = y1.toNat * 4294967296 + yl.toNat := by rw [← hy1, ← hyl, shr, mask]; omega
  have evv : v.toNat = v1.toNat * 4294967296 + v0.toNat := by rw [← hv1, ← hv0, shr, mask]; omega
  have l0 : yl.toNat < 4294967296 := by rw [← hyl, mask]; omega
  have l1 : y1.toNat < 4294967296 := by rw [← hy1, shr]; omega
  have l2 : v1.toNat < 4294967296 := by rw [← hv1, shr]; omega
  have l3 : v0.toNat < 4294967296 := by rw [← hv0, mask]; omega
  have hYp : 0 < Y.toNat := by omega
  have f1 := dl_first y1 yl v1 Y.toNat u ey l0 l2 b1 l1 huY q1 r1 hq1 hr1
  rw [hF] at f1
  have d1 := Nat.div_add_mod (u.toNat * 4294967296 + v1.toNat) Y.toNat
  rw [← f1] at d1
  have m1 := Nat.mod_lt (u.toNat * 4294967296 + v1.toNat) hYp
  have c1 : F.toNat * Y.toNat = Y.toNat * F.toNat := Nat.mul_comm _ _
  have s1 := subMod u v1 F Y _ rfl (by rw [c1]; omega)
  rw [hu2] at s1
  have eu2 : u2.toNat = (u.toNat * 4294967296 + v1.toNat) % Y.toNat := by
    rw [s1, BitVec.toNat_ofNat, c1, Nat.mod_eq_of_lt (by omega)]; omega
  have f2 := dl_first y1 yl v0 Y.toNat u2 ey l0 l3 b1 l1 (by rw [eu2]; exact m1) q0 r0 hq0 hr0
  rw [hG] at f2
  have d2 := Nat.div_add_mod (u2.toNat * 4294967296 + v0.toNat) Y.toNat
  rw [← f2] at d2
  have m2 := Nat.mod_lt (u2.toNat * 4294967296 + v0.toNat) hYp
  have c2 : G.toNat * Y.toNat = Y.toNat * G.toNat := Nat.mul_comm _ _
  have s2 := subMod u2 v0 G Y _ rfl (by rw [c2]; omega)
  have eR : (u2 * 4294967296#64 + v0 - G * Y).toNat = (u2.toNat * 4294967296 + v0.toNat) % Y.toNat := by
    rw [s2, BitVec.toNat_ofNat, c2, Nat.mod_eq_of_lt (by omega)]; omega
  rw [BitVec.toNat_ushiftRight, Nat.shiftRight_eq_div_pow, eR]
  have eMod : (u2.toNat * 4294967296 + v0.toNat) % Y.toNat = (u.toNat * 18446744073709551616 + v.toNat) % Y.toNat := by
    have e : u.toNat * 18446744073709551616 + v.toNat = Y.toNat * (F.toNat * 4294967296) + (u2.toNat * 4294967296 + v0.toNat) := by
      have e5 : Y.toNat * (F.toNat * 4294967296) = Y.toNat * F.toNat * 4294967296 := (Nat.mul_assoc _ _ _).symm
      rw [eu2, evv, e5]
      omega
    rw [e, Nat.mul_add_mod]
  rw [eMod, ← eM, eYn, Nat.mul_mod_mul_right, Nat.mul_div_cancel _ hp]
end Mv
namespace Mv
open Go
set_option maxRecDepth 20000
set_option maxHeartbeats 4000000
set_option linter.unusedSimpArgs false

theorem restW (a b : BitVec 64) : (a - a / b * b).toNat = a.toNat % b.toNat := by
  have h : a / b * b = BitVec.ofNat 64 (a.toNat / b.toNat * b.toNat) := by
    apply BitVec.eq_of_toNat_eq
    rw [BitVec.toNat_mul, BitVec.toNat_udiv, BitVec.toNat_ofNat]
  have hl : a.toNat / b.toNat * b.toNat ≤ a.toNat := Nat.div_mul_le_self _ _
  have ha := a.isLt
  rw [h, BitVec.toNat_sub, BitVec.toNat_ofNat, Nat.mod_eq_of_lt (a := a.toNat / b.toNat * b.toNat) (by omega)]
  have e := Nat.div_add_mod a.toNat b.toNat
  rw [Nat.mul_comm] at e
  omega

theorem ofInt_sm (q : Nat) (hq : q < 100) : (BitVec.ofInt 64 (q : Int)).toNat = q := by
  rw [ofInt_nat' _ (by omega) (by omega)]; rfl
theorem top_bit (y : BitVec 64) (hy : y ≠ 0#64) : ∃ s : BitVec 64, BitVec.ofInt 64 ((64 - len64 y : Nat) : Int) = s ∧ (s.toNat < 64 ∧ y.toNat * 2 ^ s.toNat < 18446744073709551616) ∧ 2147483648 ≤ ((y <<< s.toNat) >>> 32).toNat ∧ ((y <<< s.toNat) >>> 32).toNat < 4294967296 := by
  obtain ⟨h1, h2⟩ := len64_ok y
  obtain ⟨h3, h4, h5⟩ := h2 hy
  refine ⟨_, rfl, ?_⟩
  have hs : (BitVec.ofInt 64 ((64 - len64 y : Nat) : Int)).toNat = 64 - len64 y := ofInt_sm _ (by omega)
  rw [hs]
  generalize len64 y = n at *
  have e1 : y.toNat * 2 ^ (64 - n) < 2 ^ 64 := by
    have : 2 ^ 64 = 2 ^ n * 2 ^ (64 - n) := by rw [← Nat.pow_add]; congr 1; omega
    rw [this]
    exact Nat.mul_lt_mul_of_pos_right h5 (Nat.two_pow_pos _)
  have e2 : 2 ^ 63 ≤ y.toNat * 2 ^ (64 - n) := by
    have : 2 ^ 63 = 2 ^ (n - 1) * 2 ^ (64 - n) := by rw [← Nat.pow_add]; congr 1; omega
    rw [this]
    exact Nat.mul_le_mul_right _ h4
  refine ⟨⟨by omega, e1⟩, ?_⟩
  rw [BitVec.toNat_ushiftRight, Nat.shiftRight_eq_div_pow, BitVec.toNat_shiftLeft, Nat.shiftLeft_eq, Nat.mod_eq_of_lt e1]
  omega

theorem ex_Div64 {M : Seat} (ok : OkP M) (hi lo y : BitVec 64) (h : hi < y) :
    ∃ q r : BitVec 64, r.toNat = (hi.toNat * 18446744073709551616 + lo.toNat) % y.toNat ∧ Runs M 423 [W hi, W lo, W y] [] 0 (fun v H' k' => v = tup2 (W q) (W r) ∧ H' = [] ∧ k' = 0) := by
  have hy0 : ¬ y = 0#64 := by rintro rfl; rw [BitVec.lt_def] at h; exact absurd h (Nat.not_lt_zero _)
  have hy0' : (y ≠ 0) = True := eq_true hy0
  have hle : ¬ y ≤ hi := by rw [BitVec.lt_def] at h; rw [BitVec.le_def]; omega
  by_cases hz : hi = 0#64
  · subst hz
    refine ⟨lo / y, lo % y, by rw [BitVec.toNat_umod]; simp, ?_⟩
    refine runs_fr ok.k423 rfl fun x hx => ?_
    refine ex_sound 2000 _ _ _ _ ?_; (simp (maxSteps := 4000000) only [f423, c423, hy0, hy0', hle, LZ, seval, reduceCtorEq, forall_const])
    repeat (refine And.intro (by first | omega | exact True.intro | rfl) ?_)
    exact RetS.mkZ hx [] ⟨rfl, rfl, rfl⟩
  · obtain ⟨s, hs, ⟨hs64, hyl64⟩, b1, b2⟩ := top_bit y hy0
    obtain ⟨Y, hY⟩ : ∃ Y, y <<< s.toNat = Y := ⟨_, rfl⟩
    rw [hY] at b1 b2
    obtain ⟨y1, hy1⟩ : ∃ y1, Y >>> 32 = y1 := ⟨_, rfl⟩
    rw [hy1] at b1 b2
    obtain ⟨yl, hyl⟩ : ∃ yl, Y &&& 4294967295#64 = yl := ⟨_, rfl⟩
    obtain ⟨u, hu⟩ : ∃ u, hi <<< s.toNat ||| lo >>> (64#64 - s).toNat = u := ⟨_, rfl⟩
    obtain ⟨v, hv⟩ : ∃ v, lo <<< s.toNat = v := ⟨_, rfl⟩
    obtain ⟨v1, hv1⟩ : ∃ v1, v >>> 32 = v1 := ⟨_, rfl⟩
    obtain ⟨v0, hv0⟩ : ∃ v0, v &&& 4294967295#64 = v0 := ⟨_, rfl⟩
    obtain ⟨q1, hq1⟩ : ∃ q1, u / y1 = q1 := ⟨_, rfl⟩
    obtain ⟨r1, hr1⟩ : ∃ r1, u - q1 * y1 = r1 := ⟨_, rfl⟩
    obtain ⟨F, hF⟩ : ∃ F, dl y1 yl v1 4294967296 q1 r1 = F := ⟨_, rfl⟩
    obtain ⟨u2, hu2⟩ : ∃ u2, u * 4294967296#64 + v1 - F * Y = u2 := ⟨_, rfl⟩
    obtain ⟨q0, hq0⟩ : ∃ q0, u2 / y1 = q0 := ⟨_, rfl⟩
    obtain ⟨r0, hr0⟩ : ∃ r0, u2 - q0 * y1 = r0 := ⟨_, rfl⟩
    obtain ⟨G, hG⟩ : ∃ G, dl y1 yl v0 4294967296 q0 r0 = G := ⟨_, rfl⟩
    have hy1n : (y1 ≠ 0) = True := eq_true (by rintro rfl; exact absurd b1 (by decide))
    have l1 : r1.toNat < 4294967296 := by
      rw [← hr1, ← hq1, restW]
      exact Nat.lt_trans (Nat.mod_lt _ (by omega)) b2
    have l0 : r0.toNat < 4294967296 := by
      rw [← hr0, ← hq0, restW]
      exact Nat.lt_trans (Nat.mod_lt _ (by omega)) b2
    have hadd : ∀ r : BitVec 64, r.toNat < 4294967296 → (r + y1).toNat = r.toNat + y1.toNat := fun r hr => addW (by omega)
    have hsm : ∀ r : BitVec 64, r.toNat < 4294967296 → ¬ 4294967296#64 ≤ r + y1 → (r + y1).toNat < 4294967296 ∧ r.toNat + y1.toNat < 4294967296 := fun r hr h => by
      rw [BitVec.le_def, hadd r hr] at h
      have e : (4294967296#64).toNat = 4294967296 := rfl
      rw [e] at h
      rw [hadd r hr]; omega
    have hy1z : ¬ y1 = 0#64 := of_eq_true hy1n
    have e32 : (32#64).toNat = 32 := rfl
    refine ⟨F * 4294967296#64 + G, (u2 * 4294967296#64 + v0 - G * Y) >>> s.toNat, div_ok hi lo y s Y u v y1 yl v1 v0 q1 r1 F u2 q0 r0 G h hs64 hyl64 hY hu hv hy1 b1 hyl hv1 hv0 hq1 hr1 hF hu2 hq0 hr0 hG, ?_⟩
    refine runs_fr ok.k423 rfl fun x hx => ?_
    refine ex_sound 2000 _ _ _ _ ?_; (simp (maxSteps := 4000000) only [f423, c423, hy0, hle, hz, LZ, seval, reduceCtorEq, forall_const])
    refine call_pZ (runs_Lead64 ok y) ?_
    (simp (maxSteps := 4000000) only [hs, hY, hy1, hyl, hu, hv, hv1, hv0, hq1, hr1, hy1n, hy1z, e32, LZ, seval, reduceCtorEq, forall_const])
    repeat (refine And.intro (by first | omega | exact True.intro | rfl) ?_)
    refine loop_rule (σ := Nat × BitVec 64 × BitVec 64) (fun t => dl y1 yl v1 t.1 t.2.1 t.2.2 = F ∧ t.2.2.toNat < 4294967296 ∧ 4294967296 - t.2.2.toNat ≤ t.1) (fun t => fr 135 [(2, W Y), (8, W s), (9, W y1), (10, W yl), (11, W u), (13, W v1), (14, W v0), (15, W t.2.1), (16, W t.2.2)]) (fun _ => []) (fun _ => 0) (fun t => t.1) (4294967296, q1, r1) ⟨hF, l1, Nat.sub_le _ _⟩ ?_ ?_
    · refine Weak.fr [] [] hx (by simp only [fr_length]) (by decide) ?_ ?_
      · simp only [LY, seval, reduceCtorEq, implies_true]
      · trivial
    · rintro ⟨k, q, r⟩ ⟨i1, i2, i3⟩
      dsimp only at i1 i2 i3
      cases k with
      | zero => omega
      | succ k =>
        rw [dl] at i1
        refine ex_sound 2000 _ _ _ _ ?_
        by_cases c1 : 4294967296#64 ≤ q
        · rw [if_pos (.inl c1)] at i1
          by_cases c3 : 4294967296#64 ≤ r + y1
          · rw [if_pos c3] at i1
            (simp (maxSteps := 4000000) only [c1, c3, i1, hu2, hq0, hr0, hy1n, hy1z, LZ, seval, reduceCtorEq, forall_const])
            repeat (refine And.intro (by first | omega | exact True.intro | rfl) ?_)
            refine loop_rule (σ := Nat × BitVec 64 × BitVec 64) (fun t => dl y1 yl v0 t.1 t.2.1 t.2.2 = G ∧ t.2.2.toNat < 4294967296 ∧ 4294967296 - t.2.2.toNat ≤ t.1) (fun t => fr 135 [(2, W Y), (8, W s), (9, W y1), (10, W yl), (14, W v0), (15, W F), (17, W u2), (18, W t.2.1), (16, W t.2.2)]) (fun _ => []) (fun _ => 0) (fun t => t.1) (4294967296, q0, r0) ⟨hG, l0, Nat.sub_le _ _⟩ ?_ ?_
            · refine Weak.fr [] [] hx (by simp only [fr_length]) (by decide) ?_ ?_
              · simp only [LY, seval, reduceCtorEq, implies_true]
              · trivial
            · rintro ⟨k, q, r⟩ ⟨i1, i2, i3⟩
              dsimp only at i1 i2 i3
              cases k with
              | zero => omega
              | succ k =>
                rw [dl] at i1
                refine ex_sound 2000 _ _ _ _ ?_
                by_cases c1 : 4294967296#64 ≤ q
                · rw [if_pos (.inl c1)] at i1
                  by_cases c3 : 4294967296#64 ≤ r + y1
                  · rw [if_pos c3] at i1
                    (simp (maxSteps := 4000000) only [c1, c3, i1, e32, LZ, seval, reduceCtorEq, forall_const])
                    repeat (refine And.intro (by first | omega | exact True.intro | rfl) ?_)
                    exact RetS.mkZ hx [] ⟨rfl, rfl, rfl⟩
                  · rw [if_neg c3] at i1
                    have n1 := hsm r i2 c3
                    (simp (maxSteps := 4000000) only [c1, c3, LZ, seval, reduceCtorEq, forall_const])
                    refine ⟨(k, q - 1#64, r + y1), i1, n1.1, by rw [hadd r i2]; omega, by omega, ?_⟩
                    refine Weak.fr [] [] hx (by simp only [fr_length]) (by decide) ?_ ?_
                    · simp only [LY, seval, reduceCtorEq, implies_true]
                    · trivial
                · by_cases c2 : 4294967296#64 * r + v0 < q * yl
                  · rw [if_pos (.inr c2)] at i1
                    by_cases c3 : 4294967296#64 ≤ r + y1
                    · rw [if_pos c3] at i1
                      (simp (maxSteps := 4000000) only [c1, c2, c3, i1, e32, LZ, seval, reduceCtorEq, forall_const])
                      repeat (refine And.intro (by first | omega | exact True.intro | rfl) ?_)
                      exact RetS.mkZ hx [] ⟨rfl, rfl, rfl⟩
                    · rw [if_neg c3] at i1
                      have n1 := hsm r i2 c3
                      (simp (maxSteps := 4000000) only [c1, c2, c3, LZ, seval, reduceCtorEq, forall_const])
                      refine ⟨(k, q - 1#64, r + y1), i1, n1.1, by rw [hadd r i2]; omega, by omega, ?_⟩
                      refine Weak.fr [] [] hx (by simp only [fr_length]) (by decide) ?_ ?_
                      · simp only [LY, seval, reduceCtorEq, implies_true]
                      · trivial
                  · rw [if_neg (fun h => h.elim c1 c2)] at i1
                    have i1 := i1.symm
                    subst i1
                    (simp (maxSteps := 4000000) only [c1, c2, e32, LZ, seval, reduceCtorEq, forall_const])
                    repeat (refine And.intro (by first | omega | exact True.intro | rfl) ?_)
                    exact RetS.mkZ hx [] ⟨rfl, rfl, rfl⟩
          · rw [if_neg c3] at i1
            have n1 := hsm r i2 c3
            (simp (maxSteps := 4000000) only [c1, c3, LZ, seval, reduceCtorEq, forall_const])
            refine ⟨(k, q - 1#64, r + y1), i1, n1.1, by rw [hadd r i2]; omega, by omega, ?_⟩
            refine Weak.fr [] [] hx (by simp only [fr_length]) (by decide) ?_ ?_
            · simp only [LY, seval, reduceCtorEq, implies_true]
            · trivial
        · by_cases c2 : 4294967296#64 * r + v1 < q * yl
          · rw [if_pos (.inr c2)] at i1
            by_cases c3 : 4294967296#64 ≤ r + y1
            · rw [if_pos c3] at i1
              (simp (maxSteps := 4000000) only [c1, c2, c3, i1, hu2, hq0, hr0, hy1n, hy1z, LZ, seval, reduceCtorEq, forall_const])
              repeat (refine And.intro (by first | omega | exact True.intro | rfl) ?_)
              refine loop_rule (σ := Nat × BitVec 64 × BitVec 64) (fun t => dl y1 yl v0 t.1 t.2.1 t.2.2 = G ∧ t.2.2.toNat < 4294967296 ∧ 4294967296 - t.2.2.toNat ≤ t.1) (fun t => fr 135 [(2, W Y), (8, W s), (9, W y1), (10, W yl), (14, W v0), (15, W F), (17, W u2), (18, W t.2.1), (16, W t.2.2)]) (fun _ => []) (fun _ => 0) (fun t => t.1) (4294967296, q0, r0) ⟨hG, l0, Nat.sub_le _ _⟩ ?_ ?_
              · refine Weak.fr [] [] hx (by simp only [fr_length]) (by decide) ?_ ?_
                · simp only [LY, seval, reduceCtorEq, implies_true]
                · trivial
              · rintro ⟨k, q, r⟩ ⟨i1, i2, i3⟩
                dsimp only at i1 i2 i3
                cases k with
                | zero => omega
                | succ k =>
                  rw [dl] at i1
                  refine ex_sound 2000 _ _ _ _ ?_
                  by_cases c1 : 4294967296#64 ≤ q
                  · rw [if_pos (.inl c1)] at i1
                    by_cases c3 : 4294967296#64 ≤ r + y1
                    · rw [if_pos c3] at i1
                      (simp (maxSteps := 4000000) only [c1, c3, i1, e32, LZ, seval, reduceCtorEq, forall_const])
                      repeat (refine And.intro (by first | omega | exact True.intro | rfl) ?_)
                      exact RetS.mkZ hx [] ⟨rfl, rfl, rfl⟩
                    · rw [if_neg c3] at i1
                      have n1 := hsm r i2 c3
                      (simp (maxSteps := 4000000) only [c1, c3, LZ, seval, reduceCtorEq, forall_const])
                      refine ⟨(k, q - 1#64, r + y1), i1, n1.1, by rw [hadd r i2]; omega, by omega, ?_⟩
                      refine Weak.fr [] [] hx (by simp only [fr_length]) (by decide) ?_ ?_
                      · simp only [LY, seval, reduceCtorEq, implies_true]
                      · trivial
                  · by_cases c2 : 4294967296#64 * r + v0 < q * yl
                    · rw [if_pos (.inr c2)] at i1
                      by_cases c3 : 4294967296#64 ≤ r + y1
                      · rw [if_pos c3] at i1
                        (simp (maxSteps := 4000000) only [c1, c2, c3, i1, e32, LZ, seval, reduceCtorEq, forall_const])
                        repeat (refine And.intro (by first | omega | exact True.intro | rfl) ?_)
                        exact RetS.mkZ hx [] ⟨rfl, rfl, rfl⟩
                      · rw [if_neg c3] at i1
                        have n1 := hsm r i2 c3
                        (simp (maxSteps := 4000000) only [c1, c2, c3, LZ, seval, reduceCtorEq, forall_const])
                        refine ⟨(k, q - 1#64, r + y1), i1, n1.1, by rw [hadd r i2]; omega, by omega, ?_⟩
                        refine Weak.fr [] [] hx (by simp only [fr_length]) (by decide) ?_ ?_
                        · simp only [LY, seval, reduceCtorEq, implies_true]
                        · trivial
                    · rw [if_neg (fun h => h.elim c1 c2)] at i1
                      have i1 := i1.symm
                      subst i1
                      (simp (maxSteps := 4000000) only [c1, c2, e32, LZ, seval, reduceCtorEq, forall_const])
                      repeat (refine And.intro (by first | omega | exact True.intro | rfl) ?_)
                      exact RetS.mkZ hx [] ⟨rfl, rfl, rfl⟩
            · rw [if_neg c3] at i1
              have n1 := hsm r i2 c3
              (simp (maxSteps := 4000000) only [c1, c2, c3, LZ, seval, reduceCtorEq, forall_const])
              refine ⟨(k, q - 1#64, r + y1), i1, n1.1, by rw [hadd r i2]; omega, by omega, ?_⟩
              refine Weak.fr [] [] hx (by simp only [fr_length]) (by decide) ?_ ?_
              · simp only [LY, seval, reduceCtorEq, implies_true]
              · trivial
          · rw [if_neg (fun h => h.elim c1 c2)] at i1
            have i1 := i1.symm
            subst i1
            (simp (maxSteps := 4000000) only [c1, c2, hu2, hq0, hr0, hy1n, hy1z, LZ, seval, reduceCtorEq, forall_const])
            repeat (refine And.intro (by first | omega | exact True.intro | rfl) ?_)
            refine loop_rule (σ := Nat × BitVec 64 × BitVec 64) (fun t => dl y1 yl v0 t.1 t.2.1 t.2.2 = G ∧ t.2.2.toNat < 4294967296 ∧ 4294967296 - t.2.2.toNat ≤ t.1) (fun t => fr 135 [(2, W Y), (8, W s), (9, W y1), (10, W yl), (14, W v0), (15, W F), (17, W u2), (18, W t.2.1), (16, W t.2.2)]) (fun _ => []) (fun _ => 0) (fun t => t.1) (4294967296, q0, r0) ⟨hG, l0, Nat.sub_le _ _⟩ ?_ ?_
            · refine Weak.fr [] [] hx (by simp only [fr_length]) (by decide) ?_ ?_
              · simp only [LY, seval, reduceCtorEq, implies_true]
              · trivial
            · rintro ⟨k, q, r⟩ ⟨i1, i2, i3⟩
              dsimp only at i1 i2 i3
              cases k with
              | zero => omega
              | succ k =>
                rw [dl] at i1
                refine ex_sound 2000 _ _ _ _ ?_
                by_cases c1 : 4294967296#64 ≤ q
                · rw [if_pos (.inl c1)] at i1
                  by_cases c3 : 4294967296#64 ≤ r + y1
                  · rw [if_pos c3] at i1
                    (simp (maxSteps := 4000000) only [c1, c3, i1, e32, LZ, seval, reduceCtorEq, forall_const])
                    repeat (refine And.intro (by first | omega | exact True.intro | rfl) ?_)
                    exact RetS.mkZ hx [] ⟨rfl, rfl, rfl⟩
                  · rw [if_neg c3] at i1
                    have n1 := hsm r i2 c3
                    (simp (maxSteps := 4000000) only [c1, c3, LZ, seval, reduceCtorEq, forall_const])
                    refine ⟨(k, q - 1#64, r + y1), i1, n1.1, by rw [hadd r i2]; omega, by omega, ?_⟩
                    refine Weak.fr [] [] hx (by simp only [fr_length]) (by decide) ?_ ?_
                    · simp only [LY, seval, reduceCtorEq, implies_true]
                    · trivial
                · by_cases c2 : 4294967296#64 * r + v0 < q * yl
                  · rw [if_pos (.inr c2)] at i1
                    by_cases c3 : 4294967296#64 ≤ r + y1
                    · rw [if_pos c3] at i1
                      (simp (maxSteps := 4000000) only [c1, c2, c3, i1, e32, LZ, seval, reduceCtorEq, forall_const])
                      repeat (refine And.intro (by first | omega | exact True.intro | rfl) ?_)
                      exact RetS.mkZ hx [] ⟨rfl, rfl, rfl⟩
                    · rw [if_neg c3] at i1
                      have n1 := hsm r i2 c3
                      (simp (maxSteps := 4000000) only [c1, c2, c3, LZ, seval, reduceCtorEq, forall_const])
                      refine ⟨(k, q - 1#64, r + y1), i1, n1.1, by rw [hadd r i2]; omega, by omega, ?_⟩
                      refine Weak.fr [] [] hx (by simp only [fr_length]) (by decide) ?_ ?_
                      · simp only [LY, seval, reduceCtorEq, implies_true]
                      · trivial
                  · rw [if_neg (fun h => h.elim c1 c2)] at i1
                    have i1 := i1.symm
                    subst i1
                    (simp (maxSteps := 4000000) only [c1, c2, e32, LZ, seval, reduceCtorEq, forall_const])
                    repeat (refine And.intro (by first | omega | exact True.intro | rfl) ?_)
                    exact RetS.mkZ hx [] ⟨rfl, rfl, rfl⟩
end Mv
