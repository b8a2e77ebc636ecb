/- A part of the tool. -/
import Derived.Test.YtfoaeafobdamcaaDoorT
set_option linter.unusedSimpArgs false
set_option linter.unusedVariables false
namespace Mv
open Go
/-- moot/mootlaw11.CommitRuns -/
def c11 : LC := (.seq (.reg [A1 4 (.mv (.c (.bool false)))])
 ((.seq (.reg [A1 16 (.mv (.t 0)),
  ⟨(some 17), .call 75 [(.t 16)], none⟩,
  ⟨(some 18), .call 74 [(.t 17)], none⟩,
  A1 15 (.mv (.t 18)),
  A1 19 (.ext (.t 15) 0),
  A1 20 (.ext (.t 15) 1),
  A1 5 (.mv (.t 19)),
  A1 6 (.mv (.t 20))])
 ((.seq (.reg [A1 22 (.mv (.t 0)),
  ⟨(some 23), .call 75 [(.t 22)], none⟩,
  ⟨(some 24), .call 74 [(.t 23)], none⟩,
  A1 21 (.mv (.t 24)),
  A1 25 (.ext (.t 21) 0),
  A1 26 (.ext (.t 21) 1),
  A1 7 (.mv (.t 25)),
  A1 8 (.mv (.t 26))])
 ((.seq ((.seq (.reg [⟨(some 27), .call 47 [], none⟩,
  A1 28 (.un .not (.t 27)),
  A1 29 (.mv (.t 28)),
  A2 30 29 false (.mv (.t 6)),
  A2 31 29 false (.eq true true (.iface [74]) (.t 30) (.c .nili)),
  A1 32 (.pick (.t 29) (.c (.bool true)) (.t 31)),
  A1 33 (.mv (.t 32)),
  A2 34 33 false (.mv (.t 8)),
  A2 35 33 false (.eq true true (.iface [74]) (.t 34) (.c .nili)),
  A1 36 (.pick (.t 33) (.c (.bool true)) (.t 35)),
  A1 37 (.mv (.t 36)),
  A2 38 37 false (.mv (.t 5)),
  A2 39 37 false (.eq false true .ptr (.t 38) (.c .nilp)),
  A1 40 (.pick (.t 37) (.c (.bool true)) (.t 39)),
  A1 41 (.mv (.t 40)),
  A2 42 41 false (.mv (.t 7)),
  A2 43 41 false (.eq false true .ptr (.t 42) (.c .nilp)),
  A1 44 (.pick (.t 41) (.c (.bool true)) (.t 43))])
 (.cond (.t 44) ((.seq (.reg [A1 4 (.mv (.c (.bool false)))])
 (.ret))) (.skip))))
 ((.seq (.reg [⟨(some 45), .call 68 [], none⟩,
  ⟨(some 46), .call 68 [], none⟩,
  A1 9 (.mv (.t 45)),
  A1 10 (.mv (.t 46))])
 ((.seq ((.seq (.reg [A1 47 (.mv (.t 1)),
  A1 48 (.conv .u64 (.t 47)),
  A1 49 (.ari .rem (.t 48) (.c (.int .u64 4))),
  A1 50 (.conv .i64 (.t 49)),
  A1 51 (.ari .add (.c (.int .i64 1)) (.t 50)),
  A1 52 (.mv (.c (.int .i64 0)))])
 (.block 0 (.loop ((.seq (.reg [A1 53 (.ari .lss (.t 52) (.t 51))])
 ((.seq (.cond (.t 53) (.skip) (.exit 0))
 ((.seq (.block 1 ((.seq (.reg [A1 55 (.mv (.t 5)),
  ⟨(some 56), .call 54 [(.t 55)], none⟩,
  A1 54 (.mv (.t 56)),
  A1 57 (.ext (.t 54) 0),
  A1 58 (.ext (.t 54) 1),
  A1 11 (.alloc (.ar 32 (.int .u8))),
  A0 (.store 32 (.t 11) (.t 57)),
  A1 12 (.mv (.t 58))])
 ((.seq (.reg [A1 60 (.mv (.t 7)),
  ⟨(some 61), .call 54 [(.t 60)], none⟩,
  A1 59 (.mv (.t 61)),
  A1 62 (.ext (.t 59) 0),
  A1 63 (.ext (.t 59) 1),
  A1 13 (.alloc (.ar 32 (.int .u8))),
  A0 (.store 32 (.t 13) (.t 62)),
  A1 14 (.mv (.t 63))])
 ((.seq ((.seq (.reg [A1 64 (.mv (.t 12)),
  A1 65 (.eq true true (.iface [74]) (.t 64) (.c .nili)),
  A1 66 (.mv (.t 65)),
  A2 67 66 false (.mv (.t 14)),
  A2 68 66 false (.eq true true (.iface [74]) (.t 67) (.c .nili)),
  A1 69 (.pick (.t 66) (.c (.bool true)) (.t 68)),
  A1 70 (.mv (.t 69)),
  A2 71 70 false (.load true 32 (.t 11)),
  A2 72 70 false (.load true 32 (.t 13)),
  A2 73 70 false (.eq true false (.ar 32 1 false .int) (.t 71) (.t 72)),
  A1 74 (.pick (.t 70) (.c (.bool true)) (.t 73))])
 (.cond (.t 74) ((.seq (.reg [A1 4 (.mv (.c (.bool false)))])
 (.ret))) (.skip))))
 ((.seq (.reg [A1 75 (.mv (.t 5)),
  A1 76 (.mv (.t 9)),
  ⟨(some 77), .call 71 [(.t 75), (.t 76), (.c (.int .i64 5))], none⟩])
 ((.seq (.reg [A1 78 (.mv (.c (.int .i64 0)))])
 (.block 2 (.loop ((.seq (.reg [A1 79 (.ari .lss (.t 78) (.c (.int .i64 5)))])
 ((.seq (.cond (.t 79) (.skip) (.exit 2))
 ((.seq (.block 3 (.reg [A1 80 (.mv (.t 7)),
  A1 81 (.mv (.t 10)),
  ⟨(some 82), .call 70 [(.t 80), (.t 81)], none⟩]))
 (.reg [A1 83 (.ari .add (.t 78) (.c (.int .i64 1))),
  A1 78 (.mv (.t 83))]))))))))))))))))))))
 (.reg [A1 84 (.ari .add (.t 52) (.c (.int .i64 1))),
  A1 52 (.mv (.t 84))])))))))))))
 ((.seq (.reg [A1 4 (.mv (.c (.bool true)))])
 (.ret))))))))))))))
def f11 : LF := ⟨c11, 2, 0, 85, [.tmp 4]⟩

end Mv
