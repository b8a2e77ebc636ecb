/- A part of the tool. -/
import Derived.Test.YtdenaplelfkecaaDoorT
set_option linter.unusedSimpArgs false
set_option linter.unusedVariables false
namespace Mv
open Go
/-- moot/word.Apply -/
def c215 : LC := (.seq (.reg [A1 8 (.mv (.c (.int .u64 0))),
  A1 9 (.mv (.c .nili))])
 ((.seq ((.seq (.reg [A1 10 (.mv (.t 0))])
 (.block 0 ((.seq (.block 17 ((.seq (.block 16 ((.seq (.block 15 ((.seq (.block 14 ((.seq (.block 13 ((.seq (.block 12 ((.seq (.block 11 ((.seq (.block 10 ((.seq (.block 9 ((.seq (.block 8 ((.seq (.block 7 ((.seq (.block 6 ((.seq (.block 5 ((.seq (.block 4 ((.seq (.block 3 ((.seq (.block 2 ((.seq (.block 1 ((.seq ((.seq ((.seq (.reg [A1 12 (.ari .eql (.t 10) (.c (.int .i64 1))),
  A1 11 (.mv (.t 12))])
 (.cond (.t 11) (.exit 1) (.skip))))
 ((.seq ((.seq (.reg [A1 14 (.ari .eql (.t 10) (.c (.int .i64 2))),
  A1 13 (.mv (.t 14))])
 (.cond (.t 13) (.exit 2) (.skip))))
 ((.seq ((.seq (.reg [A1 16 (.ari .eql (.t 10) (.c (.int .i64 3))),
  A1 15 (.mv (.t 16))])
 (.cond (.t 15) (.exit 3) (.skip))))
 ((.seq ((.seq ((.seq (.reg [A1 18 (.ari .eql (.t 10) (.c (.int .i64 4))),
  A1 17 (.mv (.t 18))])
 (.cond (.t 17) (.skip) ((.seq (.reg [A1 19 (.ari .eql (.t 10) (.c (.int .i64 5))),
  A1 17 (.mv (.t 19))])
 (.cond (.t 17) (.skip) ((.seq (.reg [A1 20 (.ari .eql (.t 10) (.c (.int .i64 6))),
  A1 17 (.mv (.t 20))])
 (.cond (.t 17) (.skip) (.reg [A1 21 (.ari .eql (.t 10) (.c (.int .i64 7))),
  A1 17 (.mv (.t 21))]))))))))))
 (.cond (.t 17) (.exit 4) (.skip))))
 ((.seq ((.seq ((.seq (.reg [A1 23 (.ari .eql (.t 10) (.c (.int .i64 8))),
  A1 22 (.mv (.t 23))])
 (.cond (.t 22) (.skip) (.reg [A1 24 (.ari .eql (.t 10) (.c (.int .i64 9))),
  A1 22 (.mv (.t 24))]))))
 (.cond (.t 22) (.exit 5) (.skip))))
 ((.seq ((.seq (.reg [A1 26 (.ari .eql (.t 10) (.c (.int .i64 10))),
  A1 25 (.mv (.t 26))])
 (.cond (.t 25) (.exit 6) (.skip))))
 ((.seq ((.seq ((.seq (.reg [A1 28 (.ari .eql (.t 10) (.c (.int .i64 11))),
  A1 27 (.mv (.t 28))])
 (.cond (.t 27) (.skip) ((.seq (.reg [A1 29 (.ari .eql (.t 10) (.c (.int .i64 12))),
  A1 27 (.mv (.t 29))])
 (.cond (.t 27) (.skip) ((.seq (.reg [A1 30 (.ari .eql (.t 10) (.c (.int .i64 13))),
  A1 27 (.mv (.t 30))])
 (.cond (.t 27) (.skip) ((.seq (.reg [A1 31 (.ari .eql (.t 10) (.c (.int .i64 14))),
  A1 27 (.mv (.t 31))])
 (.cond (.t 27) (.skip) (.reg [A1 32 (.ari .eql (.t 10) (.c (.int .i64 15))),
  A1 27 (.mv (.t 32))])))))))))))))
 (.cond (.t 27) (.exit 7) (.skip))))
 ((.seq ((.seq (.reg [A1 34 (.ari .eql (.t 10) (.c (.int .i64 17))),
  A1 33 (.mv (.t 34))])
 (.cond (.t 33) (.exit 8) (.skip))))
 ((.seq ((.seq (.reg [A1 36 (.ari .eql (.t 10) (.c (.int .i64 16))),
  A1 35 (.mv (.t 36))])
 (.cond (.t 35) (.exit 9) (.skip))))
 ((.seq ((.seq (.reg [A1 38 (.ari .eql (.t 10) (.c (.int .i64 19))),
  A1 37 (.mv (.t 38))])
 (.cond (.t 37) (.exit 10) (.skip))))
 ((.seq ((.seq (.reg [A1 40 (.ari .eql (.t 10) (.c (.int .i64 18))),
  A1 39 (.mv (.t 40))])
 (.cond (.t 39) (.exit 11) (.skip))))
 ((.seq ((.seq (.reg [A1 42 (.ari .eql (.t 10) (.c (.int .i64 21))),
  A1 41 (.mv (.t 42))])
 (.cond (.t 41) (.exit 12) (.skip))))
 ((.seq ((.seq (.reg [A1 44 (.ari .eql (.t 10) (.c (.int .i64 20))),
  A1 43 (.mv (.t 44))])
 (.cond (.t 43) (.exit 13) (.skip))))
 ((.seq ((.seq (.reg [A1 46 (.ari .eql (.t 10) (.c (.int .i64 22))),
  A1 45 (.mv (.t 46))])
 (.cond (.t 45) (.exit 14) (.skip))))
 ((.seq ((.seq (.reg [A1 48 (.ari .eql (.t 10) (.c (.int .i64 23))),
  A1 47 (.mv (.t 48))])
 (.cond (.t 47) (.exit 15) (.skip))))
 ((.seq ((.seq (.reg [A1 50 (.ari .eql (.t 10) (.c (.int .i64 25))),
  A1 49 (.mv (.t 50))])
 (.cond (.t 49) (.exit 16) (.skip))))
 ((.seq (.reg [A1 52 (.ari .eql (.t 10) (.c (.int .i64 24))),
  A1 51 (.mv (.t 52))])
 (.cond (.t 51) (.exit 17) (.skip))))))))))))))))))))))))))))))))))))
 (.exit 0))))
 ((.seq ((.seq (.reg [A1 53 (.mv (.t 1)),
  A1 54 (.mv (.t 2)),
  A1 55 (.ari .add (.t 53) (.t 54)),
  A1 8 (.mv (.t 55)),
  A1 9 (.mv (.c .nili))])
 (.ret)))
 (.exit 0))))))
 ((.seq ((.seq (.reg [A1 56 (.mv (.t 1)),
  A1 57 (.mv (.t 2)),
  A1 58 (.ari .sub (.t 56) (.t 57)),
  A1 8 (.mv (.t 58)),
  A1 9 (.mv (.c .nili))])
 (.ret)))
 (.exit 0))))))
 ((.seq ((.seq (.reg [A1 59 (.mv (.t 1)),
  A1 60 (.mv (.t 2)),
  A1 61 (.ari .mul (.t 59) (.t 60)),
  A1 8 (.mv (.t 61)),
  A1 9 (.mv (.c .nili))])
 (.ret)))
 (.exit 0))))))
 ((.seq ((.seq (.reg [A1 62 (.mv (.t 0)),
  A1 63 (.mv (.t 1)),
  A1 64 (.mv (.t 2)),
  ⟨(some 65), .call 321 [(.t 62), (.t 63), (.t 64)], none⟩,
  A1 8 (.mv (.t 65)),
  A1 9 (.mv (.c .nili))])
 (.ret)))
 (.exit 0))))))
 ((.seq ((.seq (.reg [A1 66 (.mv (.t 0)),
  A1 67 (.mv (.t 1)),
  A1 68 (.mv (.t 2)),
  A1 69 (.mv (.t 3)),
  ⟨(some 70), .call 322 [(.t 66), (.t 67), (.t 68), (.t 69)], none⟩,
  A1 8 (.mv (.t 70)),
  A1 9 (.mv (.c .nili))])
 (.ret)))
 (.exit 0))))))
 ((.seq ((.seq (.reg [A1 71 (.mv (.t 1)),
  A1 72 (.mv (.t 2)),
  ⟨(some 73), .call 323 [(.t 71), (.t 72)], none⟩,
  A1 8 (.mv (.t 73)),
  A1 9 (.mv (.c .nili))])
 (.ret)))
 (.exit 0))))))
 ((.seq ((.seq (.reg [A1 74 (.mv (.t 0)),
  A1 75 (.mv (.t 1)),
  A1 76 (.mv (.t 2)),
  ⟨(some 77), .call 324 [(.t 74), (.t 75), (.t 76)], none⟩,
  A1 8 (.mv (.t 77)),
  A1 9 (.mv (.c .nili))])
 (.ret)))
 (.exit 0))))))
 (.reg [A1 78 (.mv (.t 2)),
  A1 79 (.mv (.t 1)),
  A1 1 (.mv (.t 78)),
  A1 2 (.mv (.t 79))]))))
 ((.seq ((.seq (.reg [A1 80 (.mv (.t 1)),
  A1 81 (.mv (.t 2)),
  A1 82 (.ari .lss (.t 80) (.t 81)),
  ⟨(some 83), .call 325 [(.t 82)], none⟩,
  A1 8 (.mv (.t 83)),
  A1 9 (.mv (.c .nili))])
 (.ret)))
 (.exit 0))))))
 (.reg [A1 84 (.mv (.t 2)),
  A1 85 (.mv (.t 1)),
  A1 1 (.mv (.t 84)),
  A1 2 (.mv (.t 85))]))))
 ((.seq ((.seq (.reg [A1 86 (.mv (.t 1)),
  A1 87 (.conv .i64 (.t 86)),
  A1 88 (.mv (.t 2)),
  A1 89 (.conv .i64 (.t 88)),
  A1 90 (.ari .lss (.t 87) (.t 89)),
  ⟨(some 91), .call 325 [(.t 90)], none⟩,
  A1 8 (.mv (.t 91)),
  A1 9 (.mv (.c .nili))])
 (.ret)))
 (.exit 0))))))
 (.reg [A1 2 (.mv (.c (.int .u64 0)))]))))
 ((.seq ((.seq (.reg [A1 92 (.mv (.t 1)),
  A1 93 (.mv (.t 2)),
  A1 94 (.ari .eql (.t 92) (.t 93)),
  ⟨(some 95), .call 325 [(.t 94)], none⟩,
  A1 8 (.mv (.t 95)),
  A1 9 (.mv (.c .nili))])
 (.ret)))
 (.exit 0))))))
 ((.seq ((.seq (.reg [A1 96 (.mv (.t 1)),
  A1 97 (.mv (.t 2)),
  A1 98 (.ari .and (.t 96) (.t 97)),
  A1 8 (.mv (.t 98)),
  A1 9 (.mv (.c .nili))])
 (.ret)))
 (.exit 0))))))
 ((.seq ((.seq (.reg [A1 99 (.mv (.t 1)),
  A1 100 (.mv (.t 2)),
  A1 101 (.ari .or (.t 99) (.t 100)),
  A1 8 (.mv (.t 101)),
  A1 9 (.mv (.c .nili))])
 (.ret)))
 (.exit 0))))))
 (.reg [A1 2 (.mv (.c (.int .u64 18446744073709551615)))]))))
 ((.seq ((.seq (.reg [A1 102 (.mv (.t 1)),
  A1 103 (.mv (.t 2)),
  A1 104 (.ari .xor (.t 102) (.t 103)),
  A1 8 (.mv (.t 104)),
  A1 9 (.mv (.c .nili))])
 (.ret)))
 (.exit 0))))))))
 ((.seq (.reg [A1 105 (.mkif 74 (.c (.int .i64 10))),
  A1 8 (.mv (.c (.int .u64 0))),
  A1 9 (.mv (.t 105))])
 (.ret))))))
def f215 : LF := ⟨c215, 4, 0, 106, [.tmp 8, .tmp 9]⟩

end Mv
