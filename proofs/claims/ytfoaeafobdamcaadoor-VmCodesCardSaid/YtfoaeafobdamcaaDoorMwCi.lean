/- A part of the tool. -/
import Derived.Test.YtfoaeafobdamcaaDoorT
set_option linter.unusedSimpArgs false
set_option linter.unusedVariables false
namespace Mv
open Go
/-- moot/mootlaw10.number -/
def c80 : LC := (.seq (.reg [A1 2 (.mv (.c (.int .i64 0)))])
 ((.seq (.reg [A1 6 (.mv (.t 0)),
  ⟨(some 7), .call 140 [(.t 6)], none⟩,
  A1 5 (.mv (.t 7)),
  A1 8 (.ext (.t 5) 0),
  A1 9 (.ext (.t 5) 1),
  A1 3 (.mv (.t 8)),
  A1 4 (.mv (.t 9))])
 ((.seq (.reg [A1 10 (.mv (.t 3)),
  A1 2 (.mv (.t 10))])
 (.ret))))))
def f80 : LF := ⟨c80, 1, 0, 11, [.tmp 2]⟩

/-- moot/mootlaw03.Why -/
def c140 : LC := (.seq (.reg [A1 2 (.mv (.c (.int .i64 0))),
  A1 3 (.mv (.c (.int .i64 0)))])
 ((.seq ((.seq (.reg [A1 6 (.mv (.t 0)),
  A1 7 (.eq false true (.iface [74]) (.t 6) (.c .nili))])
 (.cond (.t 7) ((.seq (.reg [A1 2 (.mv (.c (.int .i64 0))),
  A1 3 (.mv (.c (.int .i64 (-1))))])
 (.ret))) (.skip))))
 ((.seq (.reg [A1 4 (.alloc (.int .i64))])
 ((.seq ((.seq (.reg [A1 8 (.mv (.t 0)),
  A1 9 (.mkif 394 (.t 4)),
  ⟨(some 10), .call 93 [(.t 8), (.t 9)], none⟩,
  A1 11 (.un .not (.t 10))])
 (.cond (.t 11) ((.seq (.reg [A1 2 (.mv (.c (.int .i64 (-1)))),
  A1 3 (.mv (.c (.int .i64 (-1))))])
 (.ret))) (.skip))))
 ((.seq (.reg [A1 5 (.alloc .ptr)])
 ((.seq ((.seq (.reg [A1 12 (.mv (.t 0)),
  A1 13 (.mkif 147 (.t 5)),
  ⟨(some 14), .call 93 [(.t 12), (.t 13)], none⟩,
  A1 15 (.mv (.t 14)),
  A2 16 15 true (.load false 1 (.t 5)),
  A2 17 15 true (.eq true true .ptr (.t 16) (.c .nilp)),
  A1 18 (.pick (.t 15) (.t 17) (.c (.bool false)))])
 (.cond (.t 18) ((.seq (.regd [⟨0, 0, A1 19 (.load false 1 (.t 4))⟩,
  ⟨1, 0, A1 20 (.load false 1 (.t 5))⟩,
  ⟨2, 2, A1 21 (.nilc (.t 20))⟩,
  ⟨3, 6, A1 22 (.fadr 0 (.t 21))⟩,
  ⟨4, 14, A1 23 (.load false 1 (.t 22))⟩,
  ⟨5, 1, A1 2 (.mv (.t 19))⟩,
  ⟨6, 63, A1 3 (.mv (.t 23))⟩])
 (.ret))) (.skip))))
 ((.seq (.reg [A1 24 (.load false 1 (.t 4)),
  A1 2 (.mv (.t 24)),
  A1 3 (.mv (.c (.int .i64 (-1))))])
 (.ret))))))))))))))
def f140 : LF := ⟨c140, 1, 0, 25, [.tmp 2, .tmp 3]⟩

end Mv
