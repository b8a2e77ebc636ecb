/- More functions' codes. -/
import Derived.Test.YtfoaeafobdamcaaDoorCc
import Derived.Test.YtfoaeafobdamcaaDoorQ
set_option linter.unusedSimpArgs false
set_option linter.unusedVariables false
namespace Mv
open Go
/-- moot/mootlaw11.CommitNil -/
def c6 : LC := (.seq (.reg [⟨(some 2), .lo (.mv (.c (.bool false))), none⟩])
 ((.seq (.reg [⟨(some 14), .call 55 [(.c .nilp)], none⟩,
  ⟨(some 13), .lo (.mv (.t 14)), none⟩,
  ⟨(some 15), .lo (.ext (.t 13) 0), none⟩,
  ⟨(some 16), .lo (.ext (.t 13) 1), none⟩,
  ⟨(some 3), .lo (.alloc (.st (.cons (.ar 16 (.int .u64)) (.cons (.int .u64) (.cons .bool (.cons (.int .u64) .nil)))))), none⟩,
  ⟨none, .lo (.store 19 (.t 3) (.t 15)), none⟩,
  ⟨(some 4), .lo (.mv (.t 16)), none⟩])
 ((.seq (.reg [⟨(some 18), .call 51 [(.c .nilp)], none⟩,
  ⟨(some 17), .lo (.mv (.t 18)), none⟩,
  ⟨(some 19), .lo (.ext (.t 17) 0), none⟩,
  ⟨(some 20), .lo (.ext (.t 17) 1), none⟩,
  ⟨(some 5), .lo (.alloc (.ar 32 (.int .u8))), none⟩,
  ⟨none, .lo (.store 32 (.t 5) (.t 19)), none⟩,
  ⟨(some 6), .lo (.mv (.t 20)), none⟩])
 ((.seq (.reg [⟨(some 22), .call 54 [(.c .nilp)], none⟩,
  ⟨(some 21), .lo (.mv (.t 22)), none⟩,
  ⟨(some 23), .lo (.ext (.t 21) 0), none⟩,
  ⟨(some 24), .lo (.ext (.t 21) 1), none⟩,
  ⟨(some 7), .lo (.alloc (.ar 32 (.int .u8))), none⟩,
  ⟨none, .lo (.store 32 (.t 7) (.t 23)), none⟩,
  ⟨(some 8), .lo (.mv (.t 24)), none⟩])
 ((.seq (.reg [⟨(some 26), .lo (.mv (.t 0)), none⟩,
  ⟨(some 27), .call 50 [(.c .nilp), (.t 26)], none⟩,
  ⟨(some 25), .lo (.mv (.t 27)), none⟩,
  ⟨(some 28), .lo (.ext (.t 25) 0), none⟩,
  ⟨(some 29), .lo (.ext (.t 25) 1), none⟩,
  ⟨(some 9), .lo (.alloc (.st (.cons (.int .u64) (.cons .slice .nil)))), none⟩,
  ⟨none, .lo (.store 2 (.t 9) (.t 28)), none⟩,
  ⟨(some 10), .lo (.mv (.t 29)), none⟩])
 ((.seq ((.seq (.reg [⟨(some 30), .lo (.mv (.t 4)), none⟩,
  ⟨(some 31), .lo (.mv (.t 6)), none⟩,
  ⟨(some 32), .lo (.mv (.t 8)), none⟩,
  ⟨(some 33), .lo (.mv (.t 10)), none⟩,
  ⟨(some 34), .lo (.bsl 1 4 .iface [(.i 1 0, 1, (.t 30)), (.i 1 1, 1, (.t 31)), (.i 1 2, 1, (.t 32)), (.i 1 3, 1, (.t 33))]), none⟩,
  ⟨(some 35), .lo (.len 0 (.t 34)), none⟩,
  ⟨(some 36), .lo (.mv (.c (.int .i64 0))), none⟩])
 (.block 0 (.loop ((.seq (.reg [⟨(some 37), .lo (.ari .lss (.t 36) (.t 35)), none⟩])
 ((.seq (.cond (.t 37) (.skip) (.exit 0))
 ((.seq (.block 1 ((.seq (.reg [⟨(some 38), .lo (.isl 1 (.t 34) (.t 36)), none⟩,
  ⟨(some 39), .lo (.load false 1 (.t 38)), none⟩,
  ⟨(some 12), .lo (.mv (.t 39)), none⟩])
 ((.seq (.reg [⟨(some 40), .lo (.mv (.t 12)), none⟩,
  ⟨(some 41), .lo (.mkif 74 (.c (.int .i64 1))), none⟩,
  ⟨(some 42), .call 63 [(.t 40), (.t 41)], none⟩,
  ⟨(some 43), .lo (.un .not (.t 42)), none⟩])
 (.cond (.t 43) ((.seq (.reg [⟨(some 2), .lo (.mv (.c (.bool false))), none⟩])
 (.ret))) (.skip)))))))
 (.reg [⟨(some 44), .lo (.ari .add (.t 36) (.c (.int .i64 1))), none⟩,
  ⟨(some 36), .lo (.mv (.t 44)), none⟩])))))))))))
 ((.seq (.reg [⟨(some 45), .call 47 [], none⟩,
  ⟨(some 2), .lo (.mv (.t 45)), none⟩])
 (.ret))))))))))))))
def f6 : LF := ⟨c6, 1, 0, 46, [.tmp 2]⟩


/-- An error of the program's. -/
def errV (n : Int) : V := .ifc 74 (.int .i64 n)
/-- The seat has these functions; errors.Is of two errors of the program's says whether they are the same. -/
structure OkC (M : Seat) : Prop where
  k5 : chkF M 5 f5 = true
  k6 : chkF M 6 f6 = true
  is : ∀ a b : Int, Runs M 63 [errV a, errV b] [] 0 (fun r H' k' => r = .bool (decide (a = b)) ∧ H' = [] ∧ k' = 0)
end Mv
