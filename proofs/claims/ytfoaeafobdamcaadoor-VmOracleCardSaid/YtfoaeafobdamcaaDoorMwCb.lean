/- A part of the tool. -/
import Derived.Test.YtfoaeafobdamcaaDoorT
set_option linter.unusedSimpArgs false
set_option linter.unusedVariables false
namespace Mv
open Go
/-- moot/mootlaw10.VmStores -/
def c7 : LC := (.seq (.reg [⟨(some 6), .lo (.mv (.c (.bool false))), none⟩])
 ((.seq (.reg [⟨(some 12), .lo (.mv (.t 1)), none⟩,
  ⟨(some 13), .lo (.conv .i32 (.t 12)), none⟩,
  ⟨(some 14), .lo (.conv .i64 (.t 13)), none⟩,
  ⟨(some 1), .lo (.mv (.t 14)), none⟩])
 ((.seq (.reg [⟨(some 15), .lo (.mv (.t 1)), none⟩,
  ⟨(some 16), .lo (.build (.st (.cons (.int .i64) (.cons (.int .i64) (.cons (.int .i64) (.cons (.int .i64) (.cons (.int .i64) (.cons (.int .i64) (.cons (.int .u64) .nil)))))))) [(.f 0, 1, (.c (.int .i64 28))), (.f 2, 1, (.c (.int .i64 1))), (.f 3, 1, (.c (.int .i64 2))), (.f 5, 1, (.t 15))]), none⟩,
  ⟨(some 17), .lo (.mv (.t 1)), none⟩,
  ⟨(some 18), .lo (.build (.st (.cons (.int .i64) (.cons (.int .i64) (.cons (.int .i64) (.cons (.int .i64) (.cons (.int .i64) (.cons (.int .i64) (.cons (.int .u64) .nil)))))))) [(.f 0, 1, (.c (.int .i64 27))), (.f 1, 1, (.c (.int .i64 3))), (.f 2, 1, (.c (.int .i64 1))), (.f 5, 1, (.t 17))]), none⟩,
  ⟨(some 19), .lo (.build (.st (.cons (.int .i64) (.cons (.int .i64) (.cons (.int .i64) (.cons (.int .i64) (.cons (.int .i64) (.cons (.int .i64) (.cons (.int .u64) .nil)))))))) [(.f 0, 1, (.c (.int .i64 0))), (.f 2, 1, (.c (.int .i64 3)))]), none⟩,
  ⟨(some 20), .lo (.bsl 7 3 (.st (.cons (.int .i64) (.cons (.int .i64) (.cons (.int .i64) (.cons (.int .i64) (.cons (.int .i64) (.cons (.int .i64) (.cons (.int .u64) .nil)))))))) [(.i 7 0, 7, (.t 16)), (.i 7 1, 7, (.t 18)), (.i 7 2, 7, (.t 19))]), none⟩,
  ⟨(some 21), .call 67 [(.t 20)], none⟩,
  ⟨(some 7), .lo (.mv (.t 21)), none⟩])
 ((.seq (.reg [⟨(some 22), .call 68 [], none⟩,
  ⟨(some 8), .lo (.mv (.t 22)), none⟩])
 ((.seq ((.seq (.reg [⟨(some 23), .lo (.mv (.t 7)), none⟩,
  ⟨(some 24), .lo (.eq false true .ptr (.t 23) (.c .nilp)), none⟩,
  ⟨(some 25), .lo (.mv (.t 24)), none⟩,
  ⟨(some 26), .lo (.mv (.t 8)), (some (25, false))⟩,
  ⟨(some 27), .lo (.eq false true .ptr (.t 26) (.c .nilp)), (some (25, false))⟩,
  ⟨(some 28), .lo (.pick (.t 25) (.c (.bool true)) (.t 27)), none⟩,
  ⟨(some 29), .lo (.mv (.t 28)), none⟩,
  ⟨(some 30), .call 69 [], (some (29, false))⟩,
  ⟨(some 31), .lo (.un .not (.t 30)), (some (29, false))⟩,
  ⟨(some 32), .lo (.pick (.t 29) (.c (.bool true)) (.t 31)), none⟩])
 (.cond (.t 32) ((.seq (.reg [⟨(some 6), .lo (.mv (.c (.bool false))), none⟩])
 (.ret))) (.skip))))
 ((.seq (.regd [⟨0, 0, ⟨(some 33), .lo (.mv (.t 7)), none⟩⟩,
  ⟨2, 0, ⟨(some 35), .lo (.mv (.t 0)), none⟩⟩,
  ⟨4, 1, ⟨(some 37), .lo (.nilc (.t 33)), none⟩⟩,
  ⟨5, 5, ⟨(some 38), .lo (.fadr 8192 (.t 37)), none⟩⟩,
  ⟨6, 15, ⟨(some 39), .lo (.iarr 16 1 (.t 38) (.c (.int .i64 1))), none⟩⟩,
  ⟨7, 31, ⟨none, .lo (.store 1 (.t 39) (.t 35)), none⟩⟩,
  ⟨1, 0, ⟨(some 34), .lo (.mv (.t 7)), none⟩⟩,
  ⟨3, 0, ⟨(some 36), .lo (.mv (.t 2)), none⟩⟩,
  ⟨8, 64, ⟨(some 40), .lo (.nilc (.t 34)), none⟩⟩,
  ⟨9, 320, ⟨(some 41), .lo (.fadr 8192 (.t 40)), none⟩⟩,
  ⟨10, 1023, ⟨(some 42), .lo (.iarr 16 1 (.t 41) (.c (.int .i64 2))), none⟩⟩,
  ⟨11, 2047, ⟨none, .lo (.store 1 (.t 42) (.t 36)), none⟩⟩])
 ((.seq (.reg [⟨(some 43), .lo (.mv (.t 7)), none⟩,
  ⟨(some 44), .lo (.nilc (.t 43)), none⟩,
  ⟨(some 45), .lo (.load true 8211 (.t 44)), none⟩,
  ⟨(some 9), .lo (.alloc (.st (.cons (.ar 8192 (.int .u64)) (.cons (.ar 16 (.int .u64)) (.cons (.int .u64) (.cons .bool (.cons (.int .u64) .nil))))))), none⟩,
  ⟨none, .lo (.store 8211 (.t 9) (.t 45)), none⟩])
 ((.seq (.reg [⟨(some 46), .lo (.mv (.t 0)), none⟩,
  ⟨(some 47), .lo (.mv (.t 1)), none⟩,
  ⟨(some 48), .lo (.conv .u64 (.t 47)), none⟩,
  ⟨(some 49), .lo (.ari .add (.t 46) (.t 48)), none⟩,
  ⟨(some 10), .lo (.mv (.t 49)), none⟩])
 ((.seq ((.seq (.reg [⟨(some 50), .lo (.mv (.t 7)), none⟩,
  ⟨(some 51), .lo (.mv (.t 8)), none⟩,
  ⟨(some 52), .call 70 [(.t 50), (.t 51)], none⟩,
  ⟨(some 11), .lo (.mv (.t 52)), none⟩])
 ((.seq (.reg [⟨(some 53), .lo (.mv (.t 11)), none⟩,
  ⟨(some 54), .lo (.eq true true (.iface [74]) (.t 53) (.c .nili)), none⟩])
 (.cond (.t 54) ((.seq (.reg [⟨(some 6), .lo (.mv (.c (.bool false))), none⟩])
 (.ret))) (.skip))))))
 ((.seq ((.seq (.reg [⟨(some 55), .lo (.mv (.t 10)), none⟩,
  ⟨(some 56), .lo (.ari .geq (.t 55) (.c (.int .u64 8192))), none⟩])
 (.cond (.t 56) ((.seq (.reg [⟨(some 57), .lo (.fadr 8209 (.t 9)), none⟩,
  ⟨none, .lo (.store 1 (.t 57) (.c (.bool true))), none⟩,
  ⟨(some 58), .lo (.fadr 8210 (.t 9)), none⟩,
  ⟨none, .lo (.store 1 (.t 58) (.c (.int .u64 18446744073709551614))), none⟩])
 ((.seq (.regd [⟨0, 0, ⟨(some 59), .lo (.mv (.t 7)), none⟩⟩,
  ⟨1, 1, ⟨(some 60), .lo (.nilc (.t 59)), none⟩⟩,
  ⟨2, 3, ⟨(some 61), .lo (.load true 8211 (.t 60)), none⟩⟩,
  ⟨3, 0, ⟨(some 62), .lo (.load true 8211 (.t 9)), none⟩⟩,
  ⟨4, 15, ⟨(some 63), .lo (.eq false false (.st (.cons 0 8192 true (.ar 8192 1 false .int) (.cons 8192 16 true (.ar 16 1 false .int) (.cons 8208 1 false .int (.cons 8209 1 false .bool (.cons 8210 1 false .int .nil)))))) (.t 61) (.t 62)), none⟩⟩,
  ⟨5, 31, ⟨(some 6), .lo (.mv (.t 63)), none⟩⟩])
 (.ret))))) (.skip))))
 ((.seq (.reg [⟨(some 64), .lo (.mv (.t 10)), none⟩,
  ⟨(some 65), .lo (.mv (.t 2)), none⟩,
  ⟨(some 66), .lo (.fadr 8208 (.t 9)), none⟩,
  ⟨none, .lo (.store 1 (.t 66) (.c (.int .u64 1))), none⟩,
  ⟨(some 67), .lo (.fadr 0 (.t 9)), none⟩,
  ⟨(some 68), .lo (.iarr 8192 1 (.t 67) (.t 64)), none⟩,
  ⟨none, .lo (.store 1 (.t 68) (.t 65)), none⟩])
 ((.seq ((.seq (.regd [⟨0, 0, ⟨(some 69), .lo (.mv (.t 7)), none⟩⟩,
  ⟨1, 1, ⟨(some 70), .lo (.nilc (.t 69)), none⟩⟩,
  ⟨2, 3, ⟨(some 71), .lo (.load true 8211 (.t 70)), none⟩⟩,
  ⟨3, 0, ⟨(some 72), .lo (.load true 8211 (.t 9)), none⟩⟩,
  ⟨4, 15, ⟨(some 73), .lo (.eq true false (.st (.cons 0 8192 true (.ar 8192 1 false .int) (.cons 8192 16 true (.ar 16 1 false .int) (.cons 8208 1 false .int (.cons 8209 1 false .bool (.cons 8210 1 false .int .nil)))))) (.t 71) (.t 72)), none⟩⟩])
 (.cond (.t 73) ((.seq (.reg [⟨(some 6), .lo (.mv (.c (.bool false))), none⟩])
 (.ret))) (.skip))))
 ((.seq ((.seq (.reg [⟨(some 74), .lo (.mv (.t 10)), none⟩,
  ⟨(some 75), .lo (.ari .lss (.t 74) (.c (.int .u64 3))), none⟩])
 (.cond (.t 75) ((.seq (.reg [⟨(some 6), .lo (.mv (.c (.bool true))), none⟩])
 (.ret))) (.skip))))
 ((.seq (.reg [⟨(some 76), .lo (.mv (.t 7)), none⟩,
  ⟨(some 77), .lo (.mv (.t 8)), none⟩,
  ⟨(some 78), .call 71 [(.t 76), (.t 77), (.c (.int .i64 2))], none⟩])
 ((.seq (.reg [⟨(some 79), .lo (.mv (.t 7)), none⟩,
  ⟨(some 80), .lo (.nilc (.t 79)), none⟩,
  ⟨(some 81), .lo (.fadr 8209 (.t 80)), none⟩,
  ⟨(some 82), .lo (.load false 1 (.t 81)), none⟩,
  ⟨(some 83), .lo (.mv (.t 82)), none⟩,
  ⟨(some 84), .lo (.mv (.t 7)), (some (83, true))⟩,
  ⟨(some 85), .lo (.nilc (.t 84)), (some (83, true))⟩,
  ⟨(some 86), .lo (.fadr 8210 (.t 85)), (some (83, true))⟩,
  ⟨(some 87), .lo (.load false 1 (.t 86)), (some (83, true))⟩,
  ⟨(some 88), .lo (.mv (.t 2)), (some (83, true))⟩,
  ⟨(some 89), .lo (.ari .eql (.t 87) (.t 88)), (some (83, true))⟩,
  ⟨(some 90), .lo (.pick (.t 83) (.t 89) (.c (.bool false))), none⟩,
  ⟨(some 6), .lo (.mv (.t 90)), none⟩])
 (.ret))))))))))))))))))))))))))))))
def f7 : LF := ⟨c7, 3, 0, 91, [.tmp 6]⟩

/-- moot/mootlaw10.VmJumps -/
def c8 : LC := (.seq (.reg [⟨(some 8), .lo (.mv (.c (.bool false))), none⟩])
 ((.seq (.reg [⟨(some 14), .lo (.mv (.t 0)), none⟩,
  ⟨(some 15), .lo (.conv .u64 (.t 14)), none⟩,
  ⟨(some 16), .lo (.ari .rem (.t 15) (.c (.int .u64 5))), none⟩,
  ⟨(some 17), .lo (.conv .i64 (.t 16)), none⟩,
  ⟨(some 18), .lo (.ari .add (.c (.int .i64 29)) (.t 17)), none⟩,
  ⟨(some 9), .lo (.mv (.t 18)), none⟩])
 ((.seq (.reg [⟨(some 19), .lo (.mv (.t 9)), none⟩,
  ⟨(some 20), .lo (.mv (.t 2)), none⟩,
  ⟨(some 21), .lo (.ari .rem (.t 20) (.c (.int .i64 2147483648))), none⟩,
  ⟨(some 22), .lo (.build (.st (.cons (.int .i64) (.cons (.int .i64) (.cons (.int .i64) (.cons (.int .i64) (.cons (.int .i64) (.cons (.int .i64) (.cons (.int .u64) .nil)))))))) [(.f 0, 1, (.t 19)), (.f 1, 1, (.c (.int .i64 4))), (.f 2, 1, (.c (.int .i64 1))), (.f 5, 1, (.t 21))]), none⟩,
  ⟨(some 23), .lo (.bsl 7 1 (.st (.cons (.int .i64) (.cons (.int .i64) (.cons (.int .i64) (.cons (.int .i64) (.cons (.int .i64) (.cons (.int .i64) (.cons (.int .u64) .nil)))))))) [(.i 7 0, 7, (.t 22))]), none⟩,
  ⟨(some 24), .call 67 [(.t 23)], none⟩,
  ⟨(some 10), .lo (.mv (.t 24)), none⟩])
 ((.seq (.reg [⟨(some 25), .call 68 [], none⟩,
  ⟨(some 11), .lo (.mv (.t 25)), none⟩])
 ((.seq ((.seq (.reg [⟨(some 26), .lo (.mv (.t 10)), none⟩,
  ⟨(some 27), .lo (.eq false true .ptr (.t 26) (.c .nilp)), none⟩,
  ⟨(some 28), .lo (.mv (.t 27)), none⟩,
  ⟨(some 29), .lo (.mv (.t 11)), (some (28, false))⟩,
  ⟨(some 30), .lo (.eq false true .ptr (.t 29) (.c .nilp)), (some (28, false))⟩,
  ⟨(some 31), .lo (.pick (.t 28) (.c (.bool true)) (.t 30)), none⟩,
  ⟨(some 32), .lo (.mv (.t 31)), none⟩,
  ⟨(some 33), .call 69 [], (some (32, false))⟩,
  ⟨(some 34), .lo (.un .not (.t 33)), (some (32, false))⟩,
  ⟨(some 35), .lo (.pick (.t 32) (.c (.bool true)) (.t 34)), none⟩])
 (.cond (.t 35) ((.seq (.reg [⟨(some 8), .lo (.mv (.c (.bool false))), none⟩])
 (.ret))) (.skip))))
 ((.seq (.reg [⟨(some 36), .lo (.mv (.t 10)), none⟩,
  ⟨(some 37), .lo (.mv (.t 1)), none⟩,
  ⟨(some 38), .lo (.nilc (.t 36)), none⟩,
  ⟨(some 39), .lo (.fadr 8192 (.t 38)), none⟩,
  ⟨(some 40), .lo (.iarr 16 1 (.t 39) (.c (.int .i64 1))), none⟩,
  ⟨none, .lo (.store 1 (.t 40) (.t 37)), none⟩])
 ((.seq ((.seq (.reg [⟨(some 41), .lo (.mv (.t 9)), none⟩,
  ⟨(some 42), .lo (.ari .eql (.t 41) (.c (.int .i64 33))), none⟩])
 (.cond (.t 42) (.reg [⟨(some 43), .lo (.mv (.t 10)), none⟩,
  ⟨(some 44), .lo (.mv (.t 3)), none⟩,
  ⟨(some 45), .lo (.nilc (.t 43)), none⟩,
  ⟨(some 46), .lo (.fadr 8192 (.t 45)), none⟩,
  ⟨(some 47), .lo (.iarr 16 1 (.t 46) (.c (.int .i64 1))), none⟩,
  ⟨none, .lo (.store 1 (.t 47) (.t 44)), none⟩]) (.skip))))
 ((.seq (.reg [⟨(some 48), .lo (.mv (.t 10)), none⟩,
  ⟨(some 49), .lo (.nilc (.t 48)), none⟩,
  ⟨(some 50), .lo (.load true 8211 (.t 49)), none⟩,
  ⟨(some 12), .lo (.alloc (.st (.cons (.ar 8192 (.int .u64)) (.cons (.ar 16 (.int .u64)) (.cons (.int .u64) (.cons .bool (.cons (.int .u64) .nil))))))), none⟩,
  ⟨none, .lo (.store 8211 (.t 12) (.t 50)), none⟩])
 ((.seq ((.seq (.reg [⟨(some 51), .lo (.mv (.t 10)), none⟩,
  ⟨(some 52), .lo (.mv (.t 11)), none⟩,
  ⟨(some 53), .call 70 [(.t 51), (.t 52)], none⟩,
  ⟨(some 54), .lo (.eq true true (.iface [74]) (.t 53) (.c .nili)), none⟩])
 (.cond (.t 54) ((.seq (.reg [⟨(some 8), .lo (.mv (.c (.bool false))), none⟩])
 (.ret))) (.skip))))
 ((.seq (.reg [⟨(some 55), .lo (.mv (.t 2)), none⟩,
  ⟨(some 56), .lo (.ari .rem (.t 55) (.c (.int .i64 2147483648))), none⟩,
  ⟨(some 57), .lo (.conv .u64 (.t 56)), none⟩,
  ⟨(some 13), .lo (.mv (.t 57)), none⟩])
 ((.seq (.block 0 ((.seq (.reg [⟨(some 59), .lo (.mv (.t 9)), none⟩,
  ⟨(some 60), .lo (.ari .eql (.t 59) (.c (.int .i64 30))), none⟩,
  ⟨(some 61), .lo (.mv (.t 60)), none⟩,
  ⟨(some 62), .lo (.mv (.t 1)), (some (61, true))⟩,
  ⟨(some 63), .lo (.ari .neq (.t 62) (.c (.int .u64 0))), (some (61, true))⟩,
  ⟨(some 64), .lo (.pick (.t 61) (.t 63) (.c (.bool false))), none⟩,
  ⟨(some 65), .lo (.mv (.t 64)), none⟩,
  ⟨(some 66), .lo (.mv (.t 9)), (some (65, false))⟩,
  ⟨(some 67), .lo (.ari .eql (.t 66) (.c (.int .i64 31))), (some (65, false))⟩,
  ⟨(some 68), .lo (.mv (.t 67)), (some (65, false))⟩,
  ⟨(some 69), .lo (.mv (.t 1)), (some (68, true))⟩,
  ⟨(some 70), .lo (.ari .eql (.t 69) (.c (.int .u64 0))), (some (68, true))⟩,
  ⟨(some 71), .lo (.pick (.t 68) (.t 70) (.c (.bool false))), (some (65, false))⟩,
  ⟨(some 72), .lo (.pick (.t 65) (.c (.bool true)) (.t 71)), none⟩,
  ⟨(some 58), .lo (.mv (.t 72)), none⟩])
 (.cond (.t 58) ((.seq (.reg [⟨(some 73), .lo (.fadr 8208 (.t 12)), none⟩,
  ⟨none, .lo (.store 1 (.t 73) (.c (.int .u64 1))), none⟩])
 ((.seq (.regd [⟨0, 0, ⟨(some 74), .lo (.mv (.t 10)), none⟩⟩,
  ⟨1, 1, ⟨(some 75), .lo (.nilc (.t 74)), none⟩⟩,
  ⟨2, 3, ⟨(some 76), .lo (.load true 8211 (.t 75)), none⟩⟩,
  ⟨3, 0, ⟨(some 77), .lo (.load true 8211 (.t 12)), none⟩⟩,
  ⟨4, 15, ⟨(some 78), .lo (.eq false false (.st (.cons 0 8192 true (.ar 8192 1 false .int) (.cons 8192 16 true (.ar 16 1 false .int) (.cons 8208 1 false .int (.cons 8209 1 false .bool (.cons 8210 1 false .int .nil)))))) (.t 76) (.t 77)), none⟩⟩,
  ⟨5, 31, ⟨(some 8), .lo (.mv (.t 78)), none⟩⟩])
 (.ret))))) ((.seq (.reg [⟨(some 80), .lo (.mv (.t 9)), none⟩,
  ⟨(some 81), .lo (.ari .eql (.t 80) (.c (.int .i64 33))), none⟩,
  ⟨(some 79), .lo (.mv (.t 81)), none⟩])
 (.cond (.t 79) (.reg [⟨(some 82), .lo (.mv (.t 3)), none⟩,
  ⟨(some 13), .lo (.mv (.t 82)), none⟩]) (.skip))))))))
 ((.seq ((.seq (.reg [⟨(some 83), .lo (.mv (.t 13)), none⟩,
  ⟨(some 84), .lo (.ari .geq (.t 83) (.c (.int .u64 8192))), none⟩])
 (.cond (.t 84) ((.seq (.reg [⟨(some 85), .lo (.fadr 8209 (.t 12)), none⟩,
  ⟨none, .lo (.store 1 (.t 85) (.c (.bool true))), none⟩,
  ⟨(some 86), .lo (.fadr 8210 (.t 12)), none⟩,
  ⟨none, .lo (.store 1 (.t 86) (.c (.int .u64 18446744073709551614))), none⟩])
 ((.seq (.regd [⟨0, 0, ⟨(some 87), .lo (.mv (.t 10)), none⟩⟩,
  ⟨1, 1, ⟨(some 88), .lo (.nilc (.t 87)), none⟩⟩,
  ⟨2, 3, ⟨(some 89), .lo (.load true 8211 (.t 88)), none⟩⟩,
  ⟨3, 0, ⟨(some 90), .lo (.load true 8211 (.t 12)), none⟩⟩,
  ⟨4, 15, ⟨(some 91), .lo (.eq false false (.st (.cons 0 8192 true (.ar 8192 1 false .int) (.cons 8192 16 true (.ar 16 1 false .int) (.cons 8208 1 false .int (.cons 8209 1 false .bool (.cons 8210 1 false .int .nil)))))) (.t 89) (.t 90)), none⟩⟩,
  ⟨5, 31, ⟨(some 8), .lo (.mv (.t 91)), none⟩⟩])
 (.ret))))) (.skip))))
 ((.seq (.reg [⟨(some 92), .lo (.mv (.t 13)), none⟩,
  ⟨(some 93), .lo (.fadr 8208 (.t 12)), none⟩,
  ⟨none, .lo (.store 1 (.t 93) (.t 92)), none⟩])
 ((.seq ((.seq (.reg [⟨(some 94), .lo (.mv (.t 9)), none⟩,
  ⟨(some 95), .lo (.ari .eql (.t 94) (.c (.int .i64 32))), none⟩])
 (.cond (.t 95) (.reg [⟨(some 96), .lo (.fadr 8192 (.t 12)), none⟩,
  ⟨(some 97), .lo (.iarr 16 1 (.t 96) (.c (.int .i64 4))), none⟩,
  ⟨none, .lo (.store 1 (.t 97) (.c (.int .u64 1))), none⟩]) (.skip))))
 ((.seq (.regd [⟨0, 0, ⟨(some 98), .lo (.mv (.t 10)), none⟩⟩,
  ⟨1, 1, ⟨(some 99), .lo (.nilc (.t 98)), none⟩⟩,
  ⟨2, 3, ⟨(some 100), .lo (.load true 8211 (.t 99)), none⟩⟩,
  ⟨3, 0, ⟨(some 101), .lo (.load true 8211 (.t 12)), none⟩⟩,
  ⟨4, 15, ⟨(some 102), .lo (.eq false false (.st (.cons 0 8192 true (.ar 8192 1 false .int) (.cons 8192 16 true (.ar 16 1 false .int) (.cons 8208 1 false .int (.cons 8209 1 false .bool (.cons 8210 1 false .int .nil)))))) (.t 100) (.t 101)), none⟩⟩,
  ⟨5, 31, ⟨(some 8), .lo (.mv (.t 102)), none⟩⟩])
 (.ret))))))))))))))))))))))))))))))
def f8 : LF := ⟨c8, 4, 0, 103, [.tmp 8]⟩

/-- moot/mootlaw10.VmOracle -/
def c9 : LC := (.seq (.reg [⟨(some 4), .lo (.box (.t 0)), none⟩,
  ⟨(some 8), .lo (.mv (.c (.bool false))), none⟩])
 ((.seq (.reg [⟨(some 16), .lo (.build (.st (.cons (.int .i64) (.cons (.int .i64) (.cons (.int .i64) (.cons (.int .i64) (.cons (.int .i64) (.cons (.int .i64) (.cons (.int .u64) .nil)))))))) [(.f 0, 1, (.c (.int .i64 34))), (.f 2, 1, (.c (.int .i64 1))), (.f 3, 1, (.c (.int .i64 2)))]), none⟩,
  ⟨(some 17), .lo (.build (.st (.cons (.int .i64) (.cons (.int .i64) (.cons (.int .i64) (.cons (.int .i64) (.cons (.int .i64) (.cons (.int .i64) (.cons (.int .u64) .nil)))))))) [(.f 0, 1, (.c (.int .i64 35))), (.f 2, 1, (.c (.int .i64 2))), (.f 3, 1, (.c (.int .i64 3)))]), none⟩,
  ⟨(some 18), .lo (.build (.st (.cons (.int .i64) (.cons (.int .i64) (.cons (.int .i64) (.cons (.int .i64) (.cons (.int .i64) (.cons (.int .i64) (.cons (.int .u64) .nil)))))))) [(.f 0, 1, (.c (.int .i64 0)))]), none⟩,
  ⟨(some 19), .lo (.bsl 7 3 (.st (.cons (.int .i64) (.cons (.int .i64) (.cons (.int .i64) (.cons (.int .i64) (.cons (.int .i64) (.cons (.int .i64) (.cons (.int .u64) .nil)))))))) [(.i 7 0, 7, (.t 16)), (.i 7 1, 7, (.t 17)), (.i 7 2, 7, (.t 18))]), none⟩,
  ⟨(some 20), .call 67 [(.t 19)], none⟩,
  ⟨(some 9), .lo (.mv (.t 20)), none⟩])
 ((.seq (.reg [⟨(some 21), .call 68 [], none⟩,
  ⟨(some 10), .lo (.mv (.t 21)), none⟩])
 ((.seq ((.seq (.reg [⟨(some 22), .lo (.mv (.t 9)), none⟩,
  ⟨(some 23), .lo (.eq false true .ptr (.t 22) (.c .nilp)), none⟩,
  ⟨(some 24), .lo (.mv (.t 23)), none⟩,
  ⟨(some 25), .lo (.mv (.t 10)), (some (24, false))⟩,
  ⟨(some 26), .lo (.eq false true .ptr (.t 25) (.c .nilp)), (some (24, false))⟩,
  ⟨(some 27), .lo (.pick (.t 24) (.c (.bool true)) (.t 26)), none⟩,
  ⟨(some 28), .lo (.mv (.t 27)), none⟩,
  ⟨(some 29), .call 69 [], (some (28, false))⟩,
  ⟨(some 30), .lo (.un .not (.t 29)), (some (28, false))⟩,
  ⟨(some 31), .lo (.pick (.t 28) (.c (.bool true)) (.t 30)), none⟩])
 (.cond (.t 31) ((.seq (.reg [⟨(some 8), .lo (.mv (.c (.bool false))), none⟩])
 (.ret))) (.skip))))
 ((.seq (.reg [⟨(some 32), .lo (.mv (.t 1)), none⟩,
  ⟨(some 33), .lo (.ari .rem (.t 32) (.c (.int .u64 8174))), none⟩,
  ⟨(some 34), .lo (.ari .add (.c (.int .u64 10)) (.t 33)), none⟩,
  ⟨(some 35), .lo (.mv (.t 2)), none⟩,
  ⟨(some 36), .lo (.ari .rem (.t 35) (.c (.int .u64 8178))), none⟩,
  ⟨(some 37), .lo (.ari .add (.c (.int .u64 10)) (.t 36)), none⟩,
  ⟨(some 38), .lo (.mv (.t 3)), none⟩,
  ⟨(some 39), .lo (.ari .rem (.t 38) (.c (.int .u64 8174))), none⟩,
  ⟨(some 40), .lo (.ari .add (.c (.int .u64 10)) (.t 39)), none⟩,
  ⟨(some 1), .lo (.mv (.t 34)), none⟩,
  ⟨(some 2), .lo (.mv (.t 37)), none⟩,
  ⟨(some 3), .lo (.mv (.t 40)), none⟩])
 ((.seq ((.seq (.reg [⟨(some 41), .lo (.mv (.t 2)), none⟩,
  ⟨(some 42), .lo (.ari .add (.t 41) (.c (.int .u64 4))), none⟩,
  ⟨(some 43), .lo (.mv (.t 1)), none⟩,
  ⟨(some 44), .lo (.ari .gtr (.t 42) (.t 43)), none⟩,
  ⟨(some 45), .lo (.mv (.t 44)), none⟩,
  ⟨(some 46), .lo (.mv (.t 1)), (some (45, true))⟩,
  ⟨(some 47), .lo (.ari .add (.t 46) (.c (.int .u64 8))), (some (45, true))⟩,
  ⟨(some 48), .lo (.mv (.t 2)), (some (45, true))⟩,
  ⟨(some 49), .lo (.ari .gtr (.t 47) (.t 48)), (some (45, true))⟩,
  ⟨(some 50), .lo (.pick (.t 45) (.t 49) (.c (.bool false))), none⟩])
 (.cond (.t 50) ((.seq (.reg [⟨(some 8), .lo (.mv (.c (.bool true))), none⟩])
 (.ret))) (.skip))))
 ((.seq (.regd [⟨0, 0, ⟨(some 51), .lo (.mv (.t 9)), none⟩⟩,
  ⟨1, 1, ⟨(some 52), .lo (.nilc (.t 51)), none⟩⟩,
  ⟨2, 3, ⟨(some 53), .lo (.fadr 0 (.t 52)), none⟩⟩,
  ⟨3, 0, ⟨(some 54), .lo (.mv (.t 1)), none⟩⟩,
  ⟨4, 15, ⟨(some 55), .lo (.slarr 8192 1 (.t 53) (some (.t 54)) none), none⟩⟩,
  ⟨5, 0, ⟨(some 56), .lo (.slarr 8 1 (.t 4) none none), none⟩⟩,
  ⟨6, 63, ⟨(some 57), .lo (.copy 1 (.t 55) (.t 56)), none⟩⟩])
 ((.seq (.regd [⟨0, 0, ⟨(some 58), .lo (.mv (.t 9)), none⟩⟩,
  ⟨3, 0, ⟨(some 61), .lo (.mv (.t 1)), none⟩⟩,
  ⟨6, 1, ⟨(some 64), .lo (.nilc (.t 58)), none⟩⟩,
  ⟨7, 5, ⟨(some 65), .lo (.fadr 8192 (.t 64)), none⟩⟩,
  ⟨8, 15, ⟨(some 66), .lo (.iarr 16 1 (.t 65) (.c (.int .i64 1))), none⟩⟩,
  ⟨9, 31, ⟨none, .lo (.store 1 (.t 66) (.t 61)), none⟩⟩,
  ⟨1, 0, ⟨(some 59), .lo (.mv (.t 9)), none⟩⟩,
  ⟨4, 0, ⟨(some 62), .lo (.mv (.t 2)), none⟩⟩,
  ⟨10, 64, ⟨(some 67), .lo (.nilc (.t 59)), none⟩⟩,
  ⟨11, 320, ⟨(some 68), .lo (.fadr 8192 (.t 67)), none⟩⟩,
  ⟨12, 1023, ⟨(some 69), .lo (.iarr 16 1 (.t 68) (.c (.int .i64 2))), none⟩⟩,
  ⟨13, 2047, ⟨none, .lo (.store 1 (.t 69) (.t 62)), none⟩⟩,
  ⟨2, 0, ⟨(some 60), .lo (.mv (.t 9)), none⟩⟩,
  ⟨5, 0, ⟨(some 63), .lo (.mv (.t 3)), none⟩⟩,
  ⟨14, 4096, ⟨(some 70), .lo (.nilc (.t 60)), none⟩⟩,
  ⟨15, 20480, ⟨(some 71), .lo (.fadr 8192 (.t 70)), none⟩⟩,
  ⟨16, 65535, ⟨(some 72), .lo (.iarr 16 1 (.t 71) (.c (.int .i64 3))), none⟩⟩,
  ⟨17, 131071, ⟨none, .lo (.store 1 (.t 72) (.t 63)), none⟩⟩])
 ((.seq (.reg [⟨(some 73), .lo (.mv (.t 10)), none⟩,
  ⟨(some 74), .call 72 [(.t 73)], none⟩,
  ⟨(some 11), .lo (.mv (.t 74)), none⟩])
 ((.seq (.reg [⟨(some 76), .lo (.mv (.t 9)), none⟩,
  ⟨(some 77), .lo (.mv (.t 10)), none⟩,
  ⟨(some 78), .call 71 [(.t 76), (.t 77), (.c (.int .i64 9))], none⟩,
  ⟨(some 75), .lo (.mv (.t 78)), none⟩,
  ⟨(some 79), .lo (.ext (.t 75) 0), none⟩,
  ⟨(some 80), .lo (.ext (.t 75) 1), none⟩,
  ⟨(some 12), .lo (.mv (.t 79)), none⟩,
  ⟨(some 13), .lo (.mv (.t 80)), none⟩])
 ((.seq ((.seq (.reg [⟨(some 81), .lo (.mv (.t 13)), none⟩,
  ⟨(some 82), .lo (.eq true true (.iface [74]) (.t 81) (.c .nili)), none⟩,
  ⟨(some 83), .lo (.mv (.t 82)), none⟩,
  ⟨(some 84), .lo (.mv (.t 12)), (some (83, false))⟩,
  ⟨(some 85), .lo (.ari .neq (.t 84) (.c (.int .i64 3))), (some (83, false))⟩,
  ⟨(some 86), .lo (.pick (.t 83) (.c (.bool true)) (.t 85)), none⟩,
  ⟨(some 87), .lo (.mv (.t 86)), none⟩,
  ⟨(some 88), .lo (.mv (.t 9)), (some (87, false))⟩,
  ⟨(some 89), .lo (.nilc (.t 88)), (some (87, false))⟩,
  ⟨(some 90), .lo (.fadr 8209 (.t 89)), (some (87, false))⟩,
  ⟨(some 91), .lo (.load false 1 (.t 90)), (some (87, false))⟩,
  ⟨(some 92), .lo (.un .not (.t 91)), (some (87, false))⟩,
  ⟨(some 93), .lo (.pick (.t 87) (.c (.bool true)) (.t 92)), none⟩,
  ⟨(some 94), .lo (.mv (.t 93)), none⟩,
  ⟨(some 95), .lo (.mv (.t 9)), (some (94, false))⟩,
  ⟨(some 96), .lo (.nilc (.t 95)), (some (94, false))⟩,
  ⟨(some 97), .lo (.fadr 8210 (.t 96)), (some (94, false))⟩,
  ⟨(some 98), .lo (.load false 1 (.t 97)), (some (94, false))⟩,
  ⟨(some 99), .lo (.ari .neq (.t 98) (.c (.int .u64 0))), (some (94, false))⟩,
  ⟨(some 100), .lo (.pick (.t 94) (.c (.bool true)) (.t 99)), none⟩,
  ⟨(some 101), .lo (.mv (.t 100)), none⟩,
  ⟨(some 102), .lo (.mv (.t 10)), (some (101, false))⟩,
  ⟨(some 103), .call 72 [(.t 102)], (some (101, false))⟩,
  ⟨(some 104), .lo (.mv (.t 11)), (some (101, false))⟩,
  ⟨(some 105), .lo (.ari .add (.t 104) (.c (.int .i64 1))), (some (101, false))⟩,
  ⟨(some 106), .lo (.ari .gtr (.t 103) (.t 105)), (some (101, false))⟩,
  ⟨(some 107), .lo (.pick (.t 101) (.c (.bool true)) (.t 106)), none⟩])
 (.cond (.t 107) ((.seq (.reg [⟨(some 8), .lo (.mv (.c (.bool false))), none⟩])
 (.ret))) (.skip))))
 ((.seq ((.seq (.reg [⟨(some 108), .lo (.load true 8 (.t 4)), none⟩,
  ⟨(some 109), .lo (.mv (.c (.int .i64 0))), none⟩])
 (.block 0 (.loop ((.seq (.reg [⟨(some 110), .lo (.ari .lss (.t 109) (.c (.int .i64 8))), none⟩])
 ((.seq (.cond (.t 110) (.skip) (.exit 0))
 ((.seq (.block 1 ((.seq (.reg [⟨(some 111), .lo (.mv (.t 109)), none⟩,
  ⟨(some 112), .lo (.idx 8 1 false (.t 108) (.t 109)), none⟩,
  ⟨(some 14), .lo (.mv (.t 111)), none⟩,
  ⟨(some 15), .lo (.mv (.t 112)), none⟩])
 ((.seq (.reg [⟨(some 113), .lo (.mv (.t 9)), none⟩,
  ⟨(some 114), .lo (.mv (.t 3)), none⟩,
  ⟨(some 115), .lo (.mv (.t 14)), none⟩,
  ⟨(some 116), .lo (.conv .u64 (.t 115)), none⟩,
  ⟨(some 117), .lo (.ari .add (.t 114) (.t 116)), none⟩,
  ⟨(some 118), .lo (.nilc (.t 113)), none⟩,
  ⟨(some 119), .lo (.fadr 0 (.t 118)), none⟩,
  ⟨(some 120), .lo (.iarr 8192 1 (.t 119) (.t 117)), none⟩,
  ⟨(some 121), .lo (.load false 1 (.t 120)), none⟩,
  ⟨(some 122), .lo (.mv (.t 15)), none⟩,
  ⟨(some 123), .lo (.ari .neq (.t 121) (.t 122)), none⟩])
 (.cond (.t 123) ((.seq (.reg [⟨(some 8), .lo (.mv (.c (.bool false))), none⟩])
 (.ret))) (.skip)))))))
 (.reg [⟨(some 124), .lo (.ari .add (.t 109) (.c (.int .i64 1))), none⟩,
  ⟨(some 109), .lo (.mv (.t 124)), none⟩])))))))))))
 ((.seq (.reg [⟨(some 8), .lo (.mv (.c (.bool true))), none⟩])
 (.ret))))))))))))))))))))))))))
def f9 : LF := ⟨c9, 4, 0, 125, [.tmp 8]⟩

/-- moot/mootlaw10.loadedOf -/
def c67 : LC := (.seq (.reg [⟨(some 2), .lo (.mv (.c .nilp)), none⟩])
 ((.seq (.reg [⟨(some 6), .lo (.mv (.t 0)), none⟩,
  ⟨(some 7), .call 75 [(.t 6)], none⟩,
  ⟨(some 8), .call 74 [(.t 7)], none⟩,
  ⟨(some 5), .lo (.mv (.t 8)), none⟩,
  ⟨(some 9), .lo (.ext (.t 5) 0), none⟩,
  ⟨(some 10), .lo (.ext (.t 5) 1), none⟩,
  ⟨(some 3), .lo (.mv (.t 9)), none⟩,
  ⟨(some 4), .lo (.mv (.t 10)), none⟩])
 ((.seq ((.seq (.reg [⟨(some 11), .lo (.mv (.t 4)), none⟩,
  ⟨(some 12), .lo (.eq true true (.iface [74]) (.t 11) (.c .nili)), none⟩])
 (.cond (.t 12) ((.seq (.reg [⟨(some 2), .lo (.mv (.c .nilp)), none⟩])
 (.ret))) (.skip))))
 ((.seq (.reg [⟨(some 13), .lo (.mv (.t 3)), none⟩,
  ⟨(some 2), .lo (.mv (.t 13)), none⟩])
 (.ret))))))))
def f67 : LF := ⟨c67, 1, 0, 14, [.tmp 2]⟩

/-- moot/mootlaw10.fixed -/
def c69 : LC := (.seq (.reg [⟨(some 0), .lo (.mv (.c (.bool false))), none⟩])
 ((.seq (.reg [⟨(some 1), .lo (.mv (.c .nils)), none⟩])
 ((.seq ((.seq (.reg [⟨(some 9), .lo (.build (.ar 6 (.int .i64)) [(.i 1 0, 1, (.c (.int .i64 26))), (.i 1 1, 1, (.c (.int .i64 1))), (.i 1 2, 1, (.c (.int .i64 0))), (.i 1 3, 1, (.c (.int .i64 0))), (.i 1 4, 1, (.c (.int .i64 0))), (.i 1 5, 1, (.c (.int .i64 5)))]), none⟩,
  ⟨(some 10), .lo (.build (.ar 6 (.int .i64)) [(.i 1 0, 1, (.c (.int .i64 26))), (.i 1 1, 1, (.c (.int .i64 2))), (.i 1 2, 1, (.c (.int .i64 0))), (.i 1 3, 1, (.c (.int .i64 0))), (.i 1 4, 1, (.c (.int .i64 0))), (.i 1 5, 1, (.c (.int .i64 (-3))))]), none⟩,
  ⟨(some 11), .lo (.build (.ar 6 (.int .i64)) [(.i 1 0, 1, (.c (.int .i64 1))), (.i 1 1, 1, (.c (.int .i64 3))), (.i 1 2, 1, (.c (.int .i64 1))), (.i 1 3, 1, (.c (.int .i64 2))), (.i 1 4, 1, (.c (.int .i64 0))), (.i 1 5, 1, (.c (.int .i64 0)))]), none⟩,
  ⟨(some 12), .lo (.build (.ar 6 (.int .i64)) [(.i 1 0, 1, (.c (.int .i64 0))), (.i 1 1, 1, (.c (.int .i64 0))), (.i 1 2, 1, (.c (.int .i64 3))), (.i 1 3, 1, (.c (.int .i64 0))), (.i 1 4, 1, (.c (.int .i64 0))), (.i 1 5, 1, (.c (.int .i64 0)))]), none⟩,
  ⟨(some 13), .lo (.bsl 6 4 (.ar 6 (.int .i64)) [(.i 6 0, 6, (.t 9)), (.i 6 1, 6, (.t 10)), (.i 6 2, 6, (.t 11)), (.i 6 3, 6, (.t 12))]), none⟩,
  ⟨(some 14), .lo (.len 0 (.t 13)), none⟩,
  ⟨(some 15), .lo (.mv (.c (.int .i64 0))), none⟩])
 (.block 0 (.loop ((.seq (.reg [⟨(some 16), .lo (.ari .lss (.t 15) (.t 14)), none⟩])
 ((.seq (.cond (.t 16) (.skip) (.exit 0))
 ((.seq (.block 1 ((.seq (.reg [⟨(some 17), .lo (.isl 6 (.t 13) (.t 15)), none⟩,
  ⟨(some 18), .lo (.load true 6 (.t 17)), none⟩,
  ⟨(some 3), .lo (.alloc (.ar 6 (.int .i64))), none⟩,
  ⟨none, .lo (.store 6 (.t 3) (.t 18)), none⟩])
 ((.seq (.reg [⟨(some 20), .lo (.iarr 6 1 (.t 3) (.c (.int .i64 0))), none⟩,
  ⟨(some 21), .lo (.load false 1 (.t 20)), none⟩,
  ⟨(some 22), .lo (.iarr 6 1 (.t 3) (.c (.int .i64 1))), none⟩,
  ⟨(some 23), .lo (.load false 1 (.t 22)), none⟩,
  ⟨(some 24), .lo (.iarr 6 1 (.t 3) (.c (.int .i64 2))), none⟩,
  ⟨(some 25), .lo (.load false 1 (.t 24)), none⟩,
  ⟨(some 26), .lo (.iarr 6 1 (.t 3) (.c (.int .i64 3))), none⟩,
  ⟨(some 27), .lo (.load false 1 (.t 26)), none⟩,
  ⟨(some 28), .lo (.iarr 6 1 (.t 3) (.c (.int .i64 4))), none⟩,
  ⟨(some 29), .lo (.load false 1 (.t 28)), none⟩,
  ⟨(some 30), .lo (.iarr 6 1 (.t 3) (.c (.int .i64 5))), none⟩,
  ⟨(some 31), .lo (.load false 1 (.t 30)), none⟩,
  ⟨(some 32), .call 76 [(.t 21), (.t 23), (.t 25), (.t 27), (.t 29), (.t 31)], none⟩,
  ⟨(some 19), .lo (.mv (.t 32)), none⟩,
  ⟨(some 33), .lo (.ext (.t 19) 0), none⟩,
  ⟨(some 34), .lo (.ext (.t 19) 1), none⟩,
  ⟨(some 4), .lo (.mv (.t 33)), none⟩,
  ⟨(some 5), .lo (.mv (.t 34)), none⟩])
 ((.seq ((.seq (.reg [⟨(some 35), .lo (.mv (.t 5)), none⟩,
  ⟨(some 36), .lo (.eq true true (.iface [74]) (.t 35) (.c .nili)), none⟩])
 (.cond (.t 36) ((.seq (.reg [⟨(some 0), .lo (.mv (.c (.bool false))), none⟩])
 (.ret))) (.skip))))
 (.reg [⟨(some 37), .lo (.mv (.t 1)), none⟩,
  ⟨(some 38), .lo (.mv (.t 4)), none⟩,
  ⟨(some 39), .lo (.bsl 1 1 (.int .u64) [(.i 1 0, 1, (.t 38))]), none⟩,
  ⟨(some 40), .lo (.app 1 8 (.t 37) (.t 39)), none⟩,
  ⟨(some 1), .lo (.mv (.t 40)), none⟩]))))))))
 (.reg [⟨(some 41), .lo (.ari .add (.t 15) (.c (.int .i64 1))), none⟩,
  ⟨(some 15), .lo (.mv (.t 41)), none⟩])))))))))))
 ((.seq (.reg [⟨(some 43), .lo (.mv (.t 1)), none⟩,
  ⟨(some 44), .call 74 [(.t 43)], none⟩,
  ⟨(some 42), .lo (.mv (.t 44)), none⟩,
  ⟨(some 45), .lo (.ext (.t 42) 0), none⟩,
  ⟨(some 46), .lo (.ext (.t 42) 1), none⟩,
  ⟨(some 6), .lo (.mv (.t 45)), none⟩,
  ⟨(some 7), .lo (.mv (.t 46)), none⟩])
 ((.seq ((.seq (.reg [⟨(some 47), .lo (.mv (.t 7)), none⟩,
  ⟨(some 48), .lo (.eq true true (.iface [74]) (.t 47) (.c .nili)), none⟩,
  ⟨(some 49), .lo (.mv (.t 48)), none⟩,
  ⟨(some 50), .lo (.mv (.t 6)), (some (49, false))⟩,
  ⟨(some 51), .lo (.eq false true .ptr (.t 50) (.c .nilp)), (some (49, false))⟩,
  ⟨(some 52), .lo (.pick (.t 49) (.c (.bool true)) (.t 51)), none⟩])
 (.cond (.t 52) ((.seq (.reg [⟨(some 0), .lo (.mv (.c (.bool false))), none⟩])
 (.ret))) (.skip))))
 ((.seq (.reg [⟨(some 54), .lo (.mv (.t 6)), none⟩,
  ⟨(some 55), .call 68 [], none⟩,
  ⟨(some 56), .call 71 [(.t 54), (.t 55), (.c (.int .i64 99))], none⟩,
  ⟨(some 53), .lo (.mv (.t 56)), none⟩,
  ⟨(some 57), .lo (.ext (.t 53) 0), none⟩,
  ⟨(some 58), .lo (.ext (.t 53) 1), none⟩,
  ⟨(some 8), .lo (.mv (.t 57)), none⟩,
  ⟨(some 7), .lo (.mv (.t 58)), none⟩])
 ((.seq (.reg [⟨(some 59), .lo (.mv (.t 7)), none⟩,
  ⟨(some 60), .lo (.eq false true (.iface [74]) (.t 59) (.c .nili)), none⟩,
  ⟨(some 61), .lo (.mv (.t 60)), none⟩,
  ⟨(some 62), .lo (.mv (.t 8)), (some (61, true))⟩,
  ⟨(some 63), .lo (.ari .eql (.t 62) (.c (.int .i64 4))), (some (61, true))⟩,
  ⟨(some 64), .lo (.pick (.t 61) (.t 63) (.c (.bool false))), none⟩,
  ⟨(some 65), .lo (.mv (.t 64)), none⟩,
  ⟨(some 66), .lo (.mv (.t 6)), (some (65, true))⟩,
  ⟨(some 67), .lo (.nilc (.t 66)), (some (65, true))⟩,
  ⟨(some 68), .lo (.fadr 8209 (.t 67)), (some (65, true))⟩,
  ⟨(some 69), .lo (.load false 1 (.t 68)), (some (65, true))⟩,
  ⟨(some 70), .lo (.pick (.t 65) (.t 69) (.c (.bool false))), none⟩,
  ⟨(some 71), .lo (.mv (.t 70)), none⟩,
  ⟨(some 72), .lo (.mv (.t 6)), (some (71, true))⟩,
  ⟨(some 73), .lo (.nilc (.t 72)), (some (71, true))⟩,
  ⟨(some 74), .lo (.fadr 8210 (.t 73)), (some (71, true))⟩,
  ⟨(some 75), .lo (.load false 1 (.t 74)), (some (71, true))⟩,
  ⟨(some 76), .lo (.ari .eql (.t 75) (.c (.int .u64 2))), (some (71, true))⟩,
  ⟨(some 77), .lo (.pick (.t 71) (.t 76) (.c (.bool false))), none⟩,
  ⟨(some 78), .lo (.mv (.t 77)), none⟩,
  ⟨(some 79), .lo (.pick (.t 78) (.c (.bool true)) (.c (.bool false))), none⟩,
  ⟨(some 80), .lo (.mv (.t 79)), none⟩,
  ⟨(some 81), .lo (.pick (.t 80) (.c (.bool true)) (.c (.bool false))), none⟩,
  ⟨(some 82), .lo (.mv (.t 81)), none⟩,
  ⟨(some 83), .lo (.pick (.t 82) (.c (.bool true)) (.c (.bool false))), none⟩,
  ⟨(some 0), .lo (.mv (.t 83)), none⟩])
 (.ret))))))))))))))
def f69 : LF := ⟨c69, 0, 0, 84, [.tmp 0]⟩

/-- (*moot/vm.Machine).Step -/
def c70 : LC := (.seq (.reg [⟨(some 4), .lo (.mv (.c .nili)), none⟩])
 ((.seq ((.seq (.reg [⟨(some 14), .lo (.mv (.t 0)), none⟩,
  ⟨(some 15), .lo (.eq false true .ptr (.t 14) (.c .nilp)), none⟩,
  ⟨(some 16), .lo (.mv (.t 15)), none⟩,
  ⟨(some 17), .lo (.mv (.t 1)), (some (16, false))⟩,
  ⟨(some 18), .lo (.eq false true .ptr (.t 17) (.c .nilp)), (some (16, false))⟩,
  ⟨(some 19), .lo (.pick (.t 16) (.c (.bool true)) (.t 18)), none⟩])
 (.cond (.t 19) ((.seq (.reg [⟨(some 20), .lo (.mkif 74 (.c (.int .i64 1))), none⟩,
  ⟨(some 4), .lo (.mv (.t 20)), none⟩])
 (.ret))) (.skip))))
 ((.seq ((.seq (.reg [⟨(some 21), .lo (.mv (.t 0)), none⟩,
  ⟨(some 22), .lo (.nilc (.t 21)), none⟩,
  ⟨(some 23), .lo (.fadr 8209 (.t 22)), none⟩,
  ⟨(some 24), .lo (.load false 1 (.t 23)), none⟩])
 (.cond (.t 24) ((.seq (.reg [⟨(some 4), .lo (.mv (.c .nili)), none⟩])
 (.ret))) (.skip))))
 ((.seq ((.seq (.reg [⟨(some 25), .lo (.mv (.t 0)), none⟩,
  ⟨(some 26), .lo (.nilc (.t 25)), none⟩,
  ⟨(some 27), .lo (.fadr 8208 (.t 26)), none⟩,
  ⟨(some 28), .lo (.load false 1 (.t 27)), none⟩,
  ⟨(some 29), .lo (.ari .geq (.t 28) (.c (.int .u64 8192))), none⟩])
 (.cond (.t 29) ((.seq (.reg [⟨(some 30), .lo (.mv (.t 0)), none⟩,
  ⟨(some 31), .call 214 [(.t 30), (.c (.int .u64 18446744073709551614))], none⟩])
 ((.seq (.reg [⟨(some 4), .lo (.mv (.c .nili)), none⟩])
 (.ret))))) (.skip))))
 ((.seq (.regd [⟨0, 0, ⟨(some 33), .lo (.mv (.t 0)), none⟩⟩,
  ⟨1, 0, ⟨(some 34), .lo (.mv (.t 0)), none⟩⟩,
  ⟨2, 2, ⟨(some 35), .lo (.nilc (.t 34)), none⟩⟩,
  ⟨3, 6, ⟨(some 36), .lo (.fadr 8208 (.t 35)), none⟩⟩,
  ⟨4, 14, ⟨(some 37), .lo (.load false 1 (.t 36)), none⟩⟩,
  ⟨5, 1, ⟨(some 38), .lo (.nilc (.t 33)), none⟩⟩,
  ⟨6, 33, ⟨(some 39), .lo (.fadr 0 (.t 38)), none⟩⟩,
  ⟨7, 127, ⟨(some 40), .lo (.iarr 8192 1 (.t 39) (.t 37)), none⟩⟩,
  ⟨8, 255, ⟨(some 41), .lo (.load false 1 (.t 40)), none⟩⟩,
  ⟨9, 511, ⟨(some 42), .call 79 [(.t 41)], none⟩⟩,
  ⟨10, 1023, ⟨(some 32), .lo (.mv (.t 42)), none⟩⟩,
  ⟨11, 2047, ⟨(some 43), .lo (.ext (.t 32) 0), none⟩⟩,
  ⟨12, 2047, ⟨(some 44), .lo (.ext (.t 32) 1), none⟩⟩,
  ⟨13, 2047, ⟨(some 45), .lo (.ext (.t 32) 2), none⟩⟩,
  ⟨14, 2047, ⟨(some 46), .lo (.ext (.t 32) 3), none⟩⟩,
  ⟨15, 2047, ⟨(some 47), .lo (.ext (.t 32) 4), none⟩⟩,
  ⟨16, 2047, ⟨(some 48), .lo (.ext (.t 32) 5), none⟩⟩,
  ⟨17, 2047, ⟨(some 49), .lo (.ext (.t 32) 6), none⟩⟩,
  ⟨18, 4095, ⟨(some 5), .lo (.mv (.t 43)), none⟩⟩,
  ⟨19, 270335, ⟨(some 6), .lo (.mv (.t 44)), none⟩⟩,
  ⟨20, 802815, ⟨(some 7), .lo (.mv (.t 45)), none⟩⟩,
  ⟨21, 1867775, ⟨(some 8), .lo (.mv (.t 46)), none⟩⟩,
  ⟨22, 3997695, ⟨(some 9), .lo (.mv (.t 47)), none⟩⟩,
  ⟨23, 8257535, ⟨(some 10), .lo (.mv (.t 48)), none⟩⟩,
  ⟨24, 16777215, ⟨(some 11), .lo (.mv (.t 49)), none⟩⟩])
 ((.seq ((.seq (.reg [⟨(some 50), .lo (.mv (.t 11)), none⟩,
  ⟨(some 51), .lo (.un .not (.t 50)), none⟩])
 (.cond (.t 51) ((.seq (.reg [⟨(some 52), .lo (.mv (.t 0)), none⟩,
  ⟨(some 53), .call 214 [(.t 52), (.c (.int .u64 18446744073709551614))], none⟩])
 ((.seq (.reg [⟨(some 4), .lo (.mv (.c .nili)), none⟩])
 (.ret))))) (.skip))))
 ((.seq (.reg [⟨(some 54), .lo (.mv (.t 0)), none⟩,
  ⟨(some 55), .lo (.nilc (.t 54)), none⟩,
  ⟨(some 56), .lo (.fadr 8192 (.t 55)), none⟩,
  ⟨(some 12), .lo (.mv (.t 56)), none⟩])
 ((.seq (.reg [⟨(some 57), .lo (.mv (.t 12)), none⟩,
  ⟨(some 58), .lo (.mv (.t 7)), none⟩,
  ⟨(some 59), .lo (.nilc (.t 57)), none⟩,
  ⟨(some 60), .lo (.iarr 16 1 (.t 59) (.t 58)), none⟩,
  ⟨(some 61), .lo (.load false 1 (.t 60)), none⟩,
  ⟨(some 62), .lo (.mv (.t 10)), none⟩,
  ⟨(some 63), .lo (.conv .u64 (.t 62)), none⟩,
  ⟨(some 64), .lo (.ari .add (.t 61) (.t 63)), none⟩,
  ⟨(some 13), .lo (.mv (.t 64)), none⟩])
 ((.seq (.block 0 ((.seq (.reg [⟨(some 66), .lo (.mv (.t 5)), none⟩,
  ⟨(some 67), .lo (.ari .eql (.t 66) (.c (.int .i64 0))), none⟩,
  ⟨(some 65), .lo (.mv (.t 67)), none⟩])
 (.cond (.t 65) ((.seq (.reg [⟨(some 68), .lo (.mv (.t 0)), none⟩,
  ⟨(some 69), .lo (.mv (.t 12)), none⟩,
  ⟨(some 70), .lo (.mv (.t 7)), none⟩,
  ⟨(some 71), .lo (.nilc (.t 69)), none⟩,
  ⟨(some 72), .lo (.iarr 16 1 (.t 71) (.t 70)), none⟩,
  ⟨(some 73), .lo (.load false 1 (.t 72)), none⟩,
  ⟨(some 74), .call 214 [(.t 68), (.t 73)], none⟩])
 ((.seq (.reg [⟨(some 4), .lo (.mv (.c .nili)), none⟩])
 (.ret))))) ((.seq (.reg [⟨(some 76), .lo (.mv (.t 5)), none⟩,
  ⟨(some 77), .lo (.ari .lss (.t 76) (.c (.int .i64 26))), none⟩,
  ⟨(some 75), .lo (.mv (.t 77)), none⟩])
 (.cond (.t 75) (.regd [⟨2, 0, ⟨(some 81), .lo (.mv (.t 5)), none⟩⟩,
  ⟨3, 0, ⟨(some 82), .lo (.mv (.t 12)), none⟩⟩,
  ⟨4, 0, ⟨(some 83), .lo (.mv (.t 7)), none⟩⟩,
  ⟨5, 2, ⟨(some 84), .lo (.nilc (.t 82)), none⟩⟩,
  ⟨6, 14, ⟨(some 85), .lo (.iarr 16 1 (.t 84) (.t 83)), none⟩⟩,
  ⟨7, 30, ⟨(some 86), .lo (.load false 1 (.t 85)), none⟩⟩,
  ⟨8, 0, ⟨(some 87), .lo (.mv (.t 12)), none⟩⟩,
  ⟨9, 0, ⟨(some 88), .lo (.mv (.t 8)), none⟩⟩,
  ⟨10, 64, ⟨(some 89), .lo (.nilc (.t 87)), none⟩⟩,
  ⟨11, 448, ⟨(some 90), .lo (.iarr 16 1 (.t 89) (.t 88)), none⟩⟩,
  ⟨12, 960, ⟨(some 91), .lo (.load false 1 (.t 90)), none⟩⟩,
  ⟨13, 0, ⟨(some 92), .lo (.mv (.t 12)), none⟩⟩,
  ⟨14, 0, ⟨(some 93), .lo (.mv (.t 9)), none⟩⟩,
  ⟨15, 2048, ⟨(some 94), .lo (.nilc (.t 92)), none⟩⟩,
  ⟨16, 14336, ⟨(some 95), .lo (.iarr 16 1 (.t 94) (.t 93)), none⟩⟩,
  ⟨17, 30720, ⟨(some 96), .lo (.load false 1 (.t 95)), none⟩⟩,
  ⟨18, 65535, ⟨(some 97), .call 215 [(.t 81), (.t 86), (.t 91), (.t 96)], none⟩⟩,
  ⟨0, 0, ⟨(some 79), .lo (.mv (.t 12)), none⟩⟩,
  ⟨1, 0, ⟨(some 80), .lo (.mv (.t 6)), none⟩⟩,
  ⟨19, 131071, ⟨(some 78), .lo (.mv (.t 97)), none⟩⟩,
  ⟨20, 655359, ⟨(some 98), .lo (.ext (.t 78) 0), none⟩⟩,
  ⟨22, 131072, ⟨(some 100), .lo (.nilc (.t 79)), none⟩⟩,
  ⟨23, 4194303, ⟨(some 101), .lo (.iarr 16 1 (.t 100) (.t 80)), none⟩⟩,
  ⟨24, 8388607, ⟨none, .lo (.store 1 (.t 101) (.t 98)), none⟩⟩,
  ⟨21, 655359, ⟨(some 99), .lo (.ext (.t 78) 1), none⟩⟩]) ((.seq (.reg [⟨(some 103), .lo (.mv (.t 5)), none⟩,
  ⟨(some 104), .lo (.ari .eql (.t 103) (.c (.int .i64 26))), none⟩,
  ⟨(some 102), .lo (.mv (.t 104)), none⟩])
 (.cond (.t 102) (.reg [⟨(some 105), .lo (.mv (.t 12)), none⟩,
  ⟨(some 106), .lo (.mv (.t 6)), none⟩,
  ⟨(some 107), .lo (.mv (.t 10)), none⟩,
  ⟨(some 108), .lo (.conv .u64 (.t 107)), none⟩,
  ⟨(some 109), .lo (.nilc (.t 105)), none⟩,
  ⟨(some 110), .lo (.iarr 16 1 (.t 109) (.t 106)), none⟩,
  ⟨none, .lo (.store 1 (.t 110) (.t 108)), none⟩]) ((.seq (.reg [⟨(some 112), .lo (.mv (.t 5)), none⟩,
  ⟨(some 113), .lo (.ari .eql (.t 112) (.c (.int .i64 27))), none⟩,
  ⟨(some 114), .lo (.mv (.t 113)), none⟩,
  ⟨(some 115), .lo (.mv (.t 5)), (some (114, false))⟩,
  ⟨(some 116), .lo (.ari .eql (.t 115) (.c (.int .i64 28))), (some (114, false))⟩,
  ⟨(some 117), .lo (.pick (.t 114) (.c (.bool true)) (.t 116)), none⟩,
  ⟨(some 111), .lo (.mv (.t 117)), none⟩])
 (.cond (.t 111) ((.seq ((.seq (.reg [⟨(some 118), .lo (.mv (.t 13)), none⟩,
  ⟨(some 119), .lo (.ari .geq (.t 118) (.c (.int .u64 8192))), none⟩])
 (.cond (.t 119) ((.seq (.reg [⟨(some 120), .lo (.mv (.t 0)), none⟩,
  ⟨(some 121), .call 214 [(.t 120), (.c (.int .u64 18446744073709551614))], none⟩])
 ((.seq (.reg [⟨(some 4), .lo (.mv (.c .nili)), none⟩])
 (.ret))))) (.skip))))
 ((.seq (.reg [⟨(some 122), .lo (.mv (.t 5)), none⟩,
  ⟨(some 123), .lo (.ari .eql (.t 122) (.c (.int .i64 27))), none⟩])
 (.cond (.t 123) (.regd [⟨0, 0, ⟨(some 124), .lo (.mv (.t 12)), none⟩⟩,
  ⟨1, 0, ⟨(some 125), .lo (.mv (.t 6)), none⟩⟩,
  ⟨2, 0, ⟨(some 126), .lo (.mv (.t 0)), none⟩⟩,
  ⟨3, 0, ⟨(some 127), .lo (.mv (.t 13)), none⟩⟩,
  ⟨4, 4, ⟨(some 128), .lo (.nilc (.t 126)), none⟩⟩,
  ⟨5, 20, ⟨(some 129), .lo (.fadr 0 (.t 128)), none⟩⟩,
  ⟨6, 60, ⟨(some 130), .lo (.iarr 8192 1 (.t 129) (.t 127)), none⟩⟩,
  ⟨7, 124, ⟨(some 131), .lo (.load false 1 (.t 130)), none⟩⟩,
  ⟨8, 1, ⟨(some 132), .lo (.nilc (.t 124)), none⟩⟩,
  ⟨9, 511, ⟨(some 133), .lo (.iarr 16 1 (.t 132) (.t 125)), none⟩⟩,
  ⟨10, 1023, ⟨none, .lo (.store 1 (.t 133) (.t 131)), none⟩⟩]) (.regd [⟨0, 0, ⟨(some 134), .lo (.mv (.t 0)), none⟩⟩,
  ⟨1, 0, ⟨(some 135), .lo (.mv (.t 13)), none⟩⟩,
  ⟨2, 0, ⟨(some 136), .lo (.mv (.t 12)), none⟩⟩,
  ⟨3, 0, ⟨(some 137), .lo (.mv (.t 8)), none⟩⟩,
  ⟨4, 4, ⟨(some 138), .lo (.nilc (.t 136)), none⟩⟩,
  ⟨5, 28, ⟨(some 139), .lo (.iarr 16 1 (.t 138) (.t 137)), none⟩⟩,
  ⟨6, 60, ⟨(some 140), .lo (.load false 1 (.t 139)), none⟩⟩,
  ⟨7, 1, ⟨(some 141), .lo (.nilc (.t 134)), none⟩⟩,
  ⟨8, 129, ⟨(some 142), .lo (.fadr 0 (.t 141)), none⟩⟩,
  ⟨9, 511, ⟨(some 143), .lo (.iarr 8192 1 (.t 142) (.t 135)), none⟩⟩,
  ⟨10, 1023, ⟨none, .lo (.store 1 (.t 143) (.t 140)), none⟩⟩])))))) ((.seq (.reg [⟨(some 145), .lo (.mv (.t 5)), none⟩,
  ⟨(some 146), .lo (.ari .lss (.t 145) (.c (.int .i64 34))), none⟩,
  ⟨(some 144), .lo (.mv (.t 146)), none⟩])
 (.cond (.t 144) ((.seq (.reg [⟨(some 147), .lo (.mv (.t 0)), none⟩,
  ⟨(some 148), .lo (.mv (.t 5)), none⟩,
  ⟨(some 149), .lo (.mv (.t 6)), none⟩,
  ⟨(some 150), .lo (.mv (.t 7)), none⟩,
  ⟨(some 151), .lo (.mv (.t 10)), none⟩,
  ⟨(some 152), .lo (.conv .u64 (.t 151)), none⟩,
  ⟨(some 153), .call 216 [(.t 147), (.t 148), (.t 149), (.t 150), (.t 152)], none⟩])
 ((.seq (.reg [⟨(some 4), .lo (.mv (.c .nili)), none⟩])
 (.ret))))) ((.seq (.regd [⟨0, 0, ⟨(some 155), .lo (.mv (.t 0)), none⟩⟩,
  ⟨1, 0, ⟨(some 156), .lo (.mv (.t 1)), none⟩⟩,
  ⟨2, 0, ⟨(some 157), .lo (.mv (.t 5)), none⟩⟩,
  ⟨3, 0, ⟨(some 158), .lo (.mv (.t 12)), none⟩⟩,
  ⟨4, 0, ⟨(some 159), .lo (.mv (.t 7)), none⟩⟩,
  ⟨5, 8, ⟨(some 160), .lo (.nilc (.t 158)), none⟩⟩,
  ⟨6, 56, ⟨(some 161), .lo (.iarr 16 1 (.t 160) (.t 159)), none⟩⟩,
  ⟨7, 120, ⟨(some 162), .lo (.load false 1 (.t 161)), none⟩⟩,
  ⟨8, 0, ⟨(some 163), .lo (.mv (.t 12)), none⟩⟩,
  ⟨9, 0, ⟨(some 164), .lo (.mv (.t 8)), none⟩⟩,
  ⟨10, 256, ⟨(some 165), .lo (.nilc (.t 163)), none⟩⟩,
  ⟨11, 1792, ⟨(some 166), .lo (.iarr 16 1 (.t 165) (.t 164)), none⟩⟩,
  ⟨12, 3840, ⟨(some 167), .lo (.load false 1 (.t 166)), none⟩⟩,
  ⟨13, 8191, ⟨(some 168), .call 217 [(.t 155), (.t 156), (.t 157), (.t 162), (.t 167)], none⟩⟩,
  ⟨14, 16383, ⟨(some 169), .lo (.un .not (.t 168)), none⟩⟩,
  ⟨15, 32767, ⟨(some 154), .lo (.mv (.t 169)), none⟩⟩])
 (.cond (.t 154) ((.seq (.reg [⟨(some 4), .lo (.mv (.c .nili)), none⟩])
 (.ret))) (.skip))))))))))))))))))))
 ((.seq (.reg [⟨(some 170), .lo (.mv (.t 0)), none⟩,
  ⟨(some 171), .lo (.nilc (.t 170)), none⟩,
  ⟨(some 172), .lo (.fadr 8208 (.t 171)), none⟩,
  ⟨(some 173), .lo (.load false 1 (.t 172)), none⟩,
  ⟨(some 174), .lo (.ari .add (.t 173) (.c (.int .u64 1))), none⟩,
  ⟨(some 175), .lo (.nilc (.t 170)), none⟩,
  ⟨(some 176), .lo (.fadr 8208 (.t 175)), none⟩,
  ⟨none, .lo (.store 1 (.t 176) (.t 174)), none⟩])
 ((.seq (.reg [⟨(some 4), .lo (.mv (.c .nili)), none⟩])
 (.ret))))))))))))))))))))))
def f70 : LF := ⟨c70, 2, 0, 177, [.tmp 4]⟩

/-- (*moot/vm.Machine).Run -/
def c71 : LC := (.seq (.reg [⟨(some 6), .lo (.mv (.c (.int .i64 0))), none⟩,
  ⟨(some 7), .lo (.mv (.c .nili)), none⟩])
 ((.seq (.block 0 ((.seq (.reg [⟨(some 10), .lo (.mv (.t 0)), none⟩,
  ⟨(some 11), .lo (.eq false true .ptr (.t 10) (.c .nilp)), none⟩,
  ⟨(some 12), .lo (.mv (.t 11)), none⟩,
  ⟨(some 13), .lo (.mv (.t 1)), (some (12, false))⟩,
  ⟨(some 14), .lo (.eq false true .ptr (.t 13) (.c .nilp)), (some (12, false))⟩,
  ⟨(some 15), .lo (.pick (.t 12) (.c (.bool true)) (.t 14)), none⟩,
  ⟨(some 9), .lo (.mv (.t 15)), none⟩])
 (.cond (.t 9) ((.seq (.reg [⟨(some 16), .lo (.mkif 74 (.c (.int .i64 1))), none⟩,
  ⟨(some 6), .lo (.mv (.c (.int .i64 0))), none⟩,
  ⟨(some 7), .lo (.mv (.t 16)), none⟩])
 (.ret))) ((.seq (.reg [⟨(some 18), .lo (.mv (.t 2)), none⟩,
  ⟨(some 19), .lo (.ari .lss (.t 18) (.c (.int .i64 0))), none⟩,
  ⟨(some 17), .lo (.mv (.t 19)), none⟩])
 (.cond (.t 17) ((.seq (.reg [⟨(some 20), .lo (.mkif 74 (.c (.int .i64 2))), none⟩,
  ⟨(some 6), .lo (.mv (.c (.int .i64 0))), none⟩,
  ⟨(some 7), .lo (.mv (.t 20)), none⟩])
 (.ret))) (.skip))))))))
 ((.seq (.reg [⟨(some 8), .lo (.mv (.c (.int .i64 0))), none⟩])
 ((.seq (.block 1 (.loop ((.seq ((.seq (.reg [⟨(some 21), .lo (.mv (.t 8)), none⟩,
  ⟨(some 22), .lo (.mv (.t 2)), none⟩,
  ⟨(some 23), .lo (.ari .lss (.t 21) (.t 22)), none⟩,
  ⟨(some 24), .lo (.mv (.t 23)), none⟩,
  ⟨(some 25), .lo (.mv (.t 0)), (some (24, true))⟩,
  ⟨(some 26), .lo (.nilc (.t 25)), (some (24, true))⟩,
  ⟨(some 27), .lo (.fadr 8209 (.t 26)), (some (24, true))⟩,
  ⟨(some 28), .lo (.load false 1 (.t 27)), (some (24, true))⟩,
  ⟨(some 29), .lo (.un .not (.t 28)), (some (24, true))⟩,
  ⟨(some 30), .lo (.pick (.t 24) (.t 29) (.c (.bool false))), none⟩])
 (.cond (.t 30) (.skip) (.exit 1))))
 (.block 2 ((.seq (.reg [⟨(some 31), .lo (.mv (.t 0)), none⟩,
  ⟨(some 32), .lo (.mv (.t 1)), none⟩,
  ⟨(some 33), .call 70 [(.t 31), (.t 32)], none⟩])
 (.reg [⟨(some 34), .lo (.mv (.t 8)), none⟩,
  ⟨(some 35), .lo (.ari .add (.t 34) (.c (.int .i64 1))), none⟩,
  ⟨(some 8), .lo (.mv (.t 35)), none⟩]))))))))
 ((.seq (.reg [⟨(some 36), .lo (.mv (.t 8)), none⟩,
  ⟨(some 6), .lo (.mv (.t 36)), none⟩,
  ⟨(some 7), .lo (.mv (.c .nili)), none⟩])
 (.ret))))))))))
def f71 : LF := ⟨c71, 3, 0, 37, [.tmp 6, .tmp 7]⟩

/-- moot/mootlaw10.Words -/
def c75 : LC := (.seq (.reg [⟨(some 2), .lo (.mv (.c .nils)), none⟩])
 ((.seq (.reg [⟨(some 3), .lo (.mv (.c .nils)), none⟩])
 ((.seq ((.seq (.reg [⟨(some 8), .lo (.mv (.t 0)), none⟩,
  ⟨(some 9), .lo (.len 0 (.t 8)), none⟩,
  ⟨(some 10), .lo (.mv (.c (.int .i64 0))), none⟩])
 (.block 0 (.loop ((.seq (.reg [⟨(some 11), .lo (.ari .lss (.t 10) (.t 9)), none⟩])
 ((.seq (.cond (.t 11) (.skip) (.exit 0))
 ((.seq (.block 1 ((.seq (.reg [⟨(some 12), .lo (.mv (.t 10)), none⟩,
  ⟨(some 13), .lo (.isl 7 (.t 8) (.t 10)), none⟩,
  ⟨(some 14), .lo (.load true 7 (.t 13)), none⟩,
  ⟨(some 5), .lo (.alloc (.st (.cons (.int .i64) (.cons (.int .i64) (.cons (.int .i64) (.cons (.int .i64) (.cons (.int .i64) (.cons (.int .i64) (.cons (.int .u64) .nil))))))))), none⟩,
  ⟨(some 4), .lo (.mv (.t 12)), none⟩,
  ⟨none, .lo (.store 7 (.t 5) (.t 14)), none⟩])
 ((.seq ((.seq (.reg [⟨(some 15), .lo (.mv (.t 4)), none⟩,
  ⟨(some 16), .lo (.ari .geq (.t 15) (.c (.int .i64 8192))), none⟩])
 (.cond (.t 16) (.exit 0) (.skip))))
 ((.seq (.reg [⟨(some 18), .lo (.fadr 0 (.t 5)), none⟩,
  ⟨(some 19), .lo (.load false 1 (.t 18)), none⟩,
  ⟨(some 20), .lo (.fadr 1 (.t 5)), none⟩,
  ⟨(some 21), .lo (.load false 1 (.t 20)), none⟩,
  ⟨(some 22), .lo (.conv .u64 (.t 21)), none⟩,
  ⟨(some 23), .lo (.ari .rem (.t 22) (.c (.int .u64 16))), none⟩,
  ⟨(some 24), .lo (.conv .i64 (.t 23)), none⟩,
  ⟨(some 25), .lo (.fadr 2 (.t 5)), none⟩,
  ⟨(some 26), .lo (.load false 1 (.t 25)), none⟩,
  ⟨(some 27), .lo (.conv .u64 (.t 26)), none⟩,
  ⟨(some 28), .lo (.ari .rem (.t 27) (.c (.int .u64 16))), none⟩,
  ⟨(some 29), .lo (.conv .i64 (.t 28)), none⟩,
  ⟨(some 30), .lo (.fadr 3 (.t 5)), none⟩,
  ⟨(some 31), .lo (.load false 1 (.t 30)), none⟩,
  ⟨(some 32), .lo (.conv .u64 (.t 31)), none⟩,
  ⟨(some 33), .lo (.ari .rem (.t 32) (.c (.int .u64 16))), none⟩,
  ⟨(some 34), .lo (.conv .i64 (.t 33)), none⟩,
  ⟨(some 35), .lo (.fadr 4 (.t 5)), none⟩,
  ⟨(some 36), .lo (.load false 1 (.t 35)), none⟩,
  ⟨(some 37), .lo (.conv .u64 (.t 36)), none⟩,
  ⟨(some 38), .lo (.ari .rem (.t 37) (.c (.int .u64 16))), none⟩,
  ⟨(some 39), .lo (.conv .i64 (.t 38)), none⟩,
  ⟨(some 40), .lo (.fadr 5 (.t 5)), none⟩,
  ⟨(some 41), .lo (.load false 1 (.t 40)), none⟩,
  ⟨(some 42), .call 77 [(.t 19), (.t 24), (.t 29), (.t 34), (.t 39), (.t 41)], none⟩,
  ⟨(some 17), .lo (.mv (.t 42)), none⟩,
  ⟨(some 43), .lo (.ext (.t 17) 0), none⟩,
  ⟨(some 44), .lo (.ext (.t 17) 1), none⟩,
  ⟨(some 6), .lo (.mv (.t 43)), none⟩,
  ⟨(some 7), .lo (.mv (.t 44)), none⟩])
 ((.seq ((.seq (.reg [⟨(some 45), .lo (.mv (.t 7)), none⟩,
  ⟨(some 46), .lo (.ari .neq (.t 45) (.c (.int .i64 0))), none⟩])
 (.cond (.t 46) (.reg [⟨(some 47), .lo (.fadr 6 (.t 5)), none⟩,
  ⟨(some 48), .lo (.load false 1 (.t 47)), none⟩,
  ⟨(some 6), .lo (.mv (.t 48)), none⟩]) (.skip))))
 (.reg [⟨(some 49), .lo (.mv (.t 3)), none⟩,
  ⟨(some 50), .lo (.mv (.t 6)), none⟩,
  ⟨(some 51), .lo (.bsl 1 1 (.int .u64) [(.i 1 0, 1, (.t 50))]), none⟩,
  ⟨(some 52), .lo (.app 1 8 (.t 49) (.t 51)), none⟩,
  ⟨(some 3), .lo (.mv (.t 52)), none⟩]))))))))))
 (.reg [⟨(some 53), .lo (.ari .add (.t 10) (.c (.int .i64 1))), none⟩,
  ⟨(some 10), .lo (.mv (.t 53)), none⟩])))))))))))
 ((.seq (.reg [⟨(some 54), .lo (.mv (.t 3)), none⟩,
  ⟨(some 2), .lo (.mv (.t 54)), none⟩])
 (.ret))))))))
def f75 : LF := ⟨c75, 1, 0, 55, [.tmp 2]⟩

/-- moot/vm.Code -/
def c76 : LC := (.seq (.reg [⟨(some 12), .lo (.mv (.c (.int .u64 0))), none⟩,
  ⟨(some 13), .lo (.mv (.c .nili)), none⟩])
 ((.seq ((.seq (.reg [⟨(some 17), .lo (.mv (.t 0)), none⟩,
  ⟨(some 18), .lo (.ari .lss (.t 17) (.c (.int .i64 0))), none⟩,
  ⟨(some 19), .lo (.mv (.t 18)), none⟩,
  ⟨(some 20), .lo (.mv (.t 0)), (some (19, false))⟩,
  ⟨(some 21), .lo (.ari .gtr (.t 20) (.c (.int .i64 35))), (some (19, false))⟩,
  ⟨(some 22), .lo (.pick (.t 19) (.c (.bool true)) (.t 21)), none⟩,
  ⟨(some 23), .lo (.mv (.t 22)), none⟩,
  ⟨(some 24), .lo (.mv (.t 5)), (some (23, false))⟩,
  ⟨(some 25), .lo (.mv (.t 5)), (some (23, false))⟩,
  ⟨(some 26), .lo (.conv .i32 (.t 25)), (some (23, false))⟩,
  ⟨(some 27), .lo (.conv .i64 (.t 26)), (some (23, false))⟩,
  ⟨(some 28), .lo (.ari .neq (.t 24) (.t 27)), (some (23, false))⟩,
  ⟨(some 29), .lo (.pick (.t 23) (.c (.bool true)) (.t 28)), none⟩])
 (.cond (.t 29) ((.seq (.reg [⟨(some 30), .lo (.mkif 74 (.c (.int .i64 2))), none⟩,
  ⟨(some 12), .lo (.mv (.c (.int .u64 0))), none⟩,
  ⟨(some 13), .lo (.mv (.t 30)), none⟩])
 (.ret))) (.skip))))
 ((.seq (.reg [⟨(some 31), .lo (.mv (.t 0)), none⟩,
  ⟨(some 32), .lo (.conv .u64 (.t 31)), none⟩,
  ⟨(some 14), .lo (.mv (.t 32)), none⟩])
 ((.seq ((.seq (.reg [⟨(some 33), .lo (.mv (.t 1)), none⟩,
  ⟨(some 34), .lo (.mv (.t 2)), none⟩,
  ⟨(some 35), .lo (.mv (.t 3)), none⟩,
  ⟨(some 36), .lo (.mv (.t 4)), none⟩,
  ⟨(some 37), .lo (.bsl 1 4 (.int .i64) [(.i 1 0, 1, (.t 33)), (.i 1 1, 1, (.t 34)), (.i 1 2, 1, (.t 35)), (.i 1 3, 1, (.t 36))]), none⟩,
  ⟨(some 38), .lo (.len 0 (.t 37)), none⟩,
  ⟨(some 39), .lo (.mv (.c (.int .i64 0))), none⟩])
 (.block 0 (.loop ((.seq (.reg [⟨(some 40), .lo (.ari .lss (.t 39) (.t 38)), none⟩])
 ((.seq (.cond (.t 40) (.skip) (.exit 0))
 ((.seq (.block 1 ((.seq (.reg [⟨(some 41), .lo (.isl 1 (.t 37) (.t 39)), none⟩,
  ⟨(some 42), .lo (.load false 1 (.t 41)), none⟩,
  ⟨(some 16), .lo (.mv (.t 42)), none⟩])
 ((.seq ((.seq (.reg [⟨(some 43), .lo (.mv (.t 16)), none⟩,
  ⟨(some 44), .lo (.ari .lss (.t 43) (.c (.int .i64 0))), none⟩,
  ⟨(some 45), .lo (.mv (.t 44)), none⟩,
  ⟨(some 46), .lo (.mv (.t 16)), (some (45, false))⟩,
  ⟨(some 47), .lo (.ari .gtr (.t 46) (.c (.int .i64 15))), (some (45, false))⟩,
  ⟨(some 48), .lo (.pick (.t 45) (.c (.bool true)) (.t 47)), none⟩])
 (.cond (.t 48) ((.seq (.reg [⟨(some 49), .lo (.mkif 74 (.c (.int .i64 2))), none⟩,
  ⟨(some 12), .lo (.mv (.c (.int .u64 0))), none⟩,
  ⟨(some 13), .lo (.mv (.t 49)), none⟩])
 (.ret))) (.skip))))
 (.reg [⟨(some 50), .lo (.mv (.t 14)), none⟩,
  ⟨(some 51), .lo (.ari .shl (.t 50) (.c (.int .u64 4))), none⟩,
  ⟨(some 52), .lo (.mv (.t 16)), none⟩,
  ⟨(some 53), .lo (.conv .u64 (.t 52)), none⟩,
  ⟨(some 54), .lo (.ari .or (.t 51) (.t 53)), none⟩,
  ⟨(some 14), .lo (.mv (.t 54)), none⟩]))))))
 (.reg [⟨(some 55), .lo (.ari .add (.t 39) (.c (.int .i64 1))), none⟩,
  ⟨(some 39), .lo (.mv (.t 55)), none⟩])))))))))))
 ((.seq (.reg [⟨(some 56), .lo (.mv (.t 14)), none⟩,
  ⟨(some 57), .lo (.ari .shl (.t 56) (.c (.int .u64 40))), none⟩,
  ⟨(some 58), .lo (.mv (.t 5)), none⟩,
  ⟨(some 59), .lo (.conv .u32 (.t 58)), none⟩,
  ⟨(some 60), .lo (.conv .u64 (.t 59)), none⟩,
  ⟨(some 61), .lo (.ari .or (.t 57) (.t 60)), none⟩,
  ⟨(some 12), .lo (.mv (.t 61)), none⟩,
  ⟨(some 13), .lo (.mv (.c .nili)), none⟩])
 (.ret))))))))))
def f76 : LF := ⟨c76, 6, 0, 62, [.tmp 12, .tmp 13]⟩

/-- moot/mootref10.Code -/
def c77 : LC := (.seq (.reg [⟨(some 12), .lo (.mv (.c (.int .u64 0))), none⟩,
  ⟨(some 13), .lo (.mv (.c (.int .i64 0))), none⟩])
 ((.seq (.reg [⟨(some 17), .lo (.mv (.t 0)), none⟩,
  ⟨(some 18), .lo (.conv .u64 (.t 17)), none⟩,
  ⟨(some 14), .lo (.mv (.t 18)), none⟩])
 ((.seq (.reg [⟨(some 19), .lo (.mv (.t 1)), none⟩,
  ⟨(some 20), .lo (.mv (.t 2)), none⟩,
  ⟨(some 21), .lo (.mv (.t 3)), none⟩,
  ⟨(some 22), .lo (.mv (.t 4)), none⟩,
  ⟨(some 23), .lo (.bsl 1 4 (.int .i64) [(.i 1 0, 1, (.t 19)), (.i 1 1, 1, (.t 20)), (.i 1 2, 1, (.t 21)), (.i 1 3, 1, (.t 22))]), none⟩,
  ⟨(some 15), .lo (.mv (.t 23)), none⟩])
 ((.seq ((.seq (.reg [⟨(some 16), .lo (.mv (.c (.int .i64 0))), none⟩])
 (.block 0 (.loop ((.seq ((.seq (.reg [⟨(some 24), .lo (.mv (.t 16)), none⟩,
  ⟨(some 25), .lo (.ari .lss (.t 24) (.c (.int .i64 4))), none⟩])
 (.cond (.t 25) (.skip) (.exit 0))))
 ((.seq (.block 1 ((.seq ((.seq (.reg [⟨(some 28), .lo (.mv (.t 15)), none⟩,
  ⟨(some 29), .lo (.mv (.t 16)), none⟩,
  ⟨(some 30), .lo (.isl 1 (.t 28) (.t 29)), none⟩,
  ⟨(some 31), .lo (.load false 1 (.t 30)), none⟩,
  ⟨(some 32), .lo (.ari .lss (.t 31) (.c (.int .i64 0))), none⟩,
  ⟨(some 33), .lo (.mv (.t 32)), none⟩,
  ⟨(some 34), .lo (.mv (.t 15)), (some (33, false))⟩,
  ⟨(some 35), .lo (.mv (.t 16)), (some (33, false))⟩,
  ⟨(some 36), .lo (.isl 1 (.t 34) (.t 35)), (some (33, false))⟩,
  ⟨(some 37), .lo (.load false 1 (.t 36)), (some (33, false))⟩,
  ⟨(some 38), .lo (.ari .gtr (.t 37) (.c (.int .i64 15))), (some (33, false))⟩,
  ⟨(some 39), .lo (.pick (.t 33) (.c (.bool true)) (.t 38)), none⟩])
 (.cond (.t 39) ((.seq (.reg [⟨(some 12), .lo (.mv (.c (.int .u64 0))), none⟩,
  ⟨(some 13), .lo (.mv (.c (.int .i64 2))), none⟩])
 (.ret))) (.skip))))
 (.reg [⟨(some 40), .lo (.mv (.t 14)), none⟩,
  ⟨(some 41), .lo (.ari .mul (.t 40) (.c (.int .u64 16))), none⟩,
  ⟨(some 42), .lo (.mv (.t 15)), none⟩,
  ⟨(some 43), .lo (.mv (.t 16)), none⟩,
  ⟨(some 44), .lo (.isl 1 (.t 42) (.t 43)), none⟩,
  ⟨(some 45), .lo (.load false 1 (.t 44)), none⟩,
  ⟨(some 46), .lo (.conv .u64 (.t 45)), none⟩,
  ⟨(some 47), .lo (.ari .add (.t 41) (.t 46)), none⟩,
  ⟨(some 14), .lo (.mv (.t 47)), none⟩]))))
 (.reg [⟨(some 26), .lo (.mv (.t 16)), none⟩,
  ⟨(some 27), .lo (.ari .add (.t 26) (.c (.int .i64 1))), none⟩,
  ⟨(some 16), .lo (.mv (.t 27)), none⟩])))))))))
 ((.seq ((.seq (.reg [⟨(some 48), .lo (.mv (.t 0)), none⟩,
  ⟨(some 49), .lo (.ari .lss (.t 48) (.c (.int .i64 0))), none⟩,
  ⟨(some 50), .lo (.mv (.t 49)), none⟩,
  ⟨(some 51), .lo (.mv (.t 0)), (some (50, false))⟩,
  ⟨(some 52), .lo (.ari .gtr (.t 51) (.c (.int .i64 35))), (some (50, false))⟩,
  ⟨(some 53), .lo (.pick (.t 50) (.c (.bool true)) (.t 52)), none⟩,
  ⟨(some 54), .lo (.mv (.t 53)), none⟩,
  ⟨(some 55), .lo (.mv (.t 5)), (some (54, false))⟩,
  ⟨(some 56), .lo (.ari .lss (.t 55) (.c (.int .i64 (-2147483648)))), (some (54, false))⟩,
  ⟨(some 57), .lo (.pick (.t 54) (.c (.bool true)) (.t 56)), none⟩,
  ⟨(some 58), .lo (.mv (.t 57)), none⟩,
  ⟨(some 59), .lo (.mv (.t 5)), (some (58, false))⟩,
  ⟨(some 60), .lo (.ari .geq (.t 59) (.c (.int .i64 2147483648))), (some (58, false))⟩,
  ⟨(some 61), .lo (.pick (.t 58) (.c (.bool true)) (.t 60)), none⟩])
 (.cond (.t 61) ((.seq (.reg [⟨(some 12), .lo (.mv (.c (.int .u64 0))), none⟩,
  ⟨(some 13), .lo (.mv (.c (.int .i64 2))), none⟩])
 (.ret))) (.skip))))
 ((.seq (.reg [⟨(some 62), .lo (.mv (.t 14)), none⟩,
  ⟨(some 63), .lo (.ari .mul (.t 62) (.c (.int .u64 1099511627776))), none⟩,
  ⟨(some 64), .lo (.mv (.t 5)), none⟩,
  ⟨(some 65), .lo (.conv .u64 (.t 64)), none⟩,
  ⟨(some 66), .lo (.ari .and (.t 65) (.c (.int .u64 4294967295))), none⟩,
  ⟨(some 67), .lo (.ari .add (.t 63) (.t 66)), none⟩,
  ⟨(some 12), .lo (.mv (.t 67)), none⟩,
  ⟨(some 13), .lo (.mv (.c (.int .i64 0))), none⟩])
 (.ret))))))))))))
def f77 : LF := ⟨c77, 6, 0, 68, [.tmp 12, .tmp 13]⟩

/-- moot/vm.Parts -/
def c79 : LC := (.seq (.reg [⟨(some 1), .lo (.box (.t 0)), none⟩,
  ⟨(some 2), .lo (.mv (.c (.int .i64 0))), none⟩,
  ⟨(some 3), .lo (.mv (.c (.int .i64 0))), none⟩,
  ⟨(some 4), .lo (.mv (.c (.int .i64 0))), none⟩,
  ⟨(some 5), .lo (.mv (.c (.int .i64 0))), none⟩,
  ⟨(some 6), .lo (.mv (.c (.int .i64 0))), none⟩,
  ⟨(some 7), .lo (.mv (.c (.int .i64 0))), none⟩,
  ⟨(some 8), .lo (.mv (.c (.bool false))), none⟩])
 ((.seq (.reg [⟨(some 10), .lo (.load false 1 (.t 1)), none⟩,
  ⟨(some 11), .lo (.ari .shr (.t 10) (.c (.int .u64 56))), none⟩,
  ⟨(some 12), .lo (.conv .i64 (.t 11)), none⟩,
  ⟨(some 2), .lo (.mv (.t 12)), none⟩])
 ((.seq ((.seq (.reg [⟨(some 13), .lo (.mv (.t 2)), none⟩,
  ⟨(some 14), .lo (.ari .gtr (.t 13) (.c (.int .i64 35))), none⟩,
  ⟨(some 15), .lo (.mv (.t 14)), none⟩,
  ⟨(some 16), .lo (.load false 1 (.t 1)), (some (15, false))⟩,
  ⟨(some 17), .lo (.ari .shr (.t 16) (.c (.int .u64 32))), (some (15, false))⟩,
  ⟨(some 18), .lo (.ari .and (.t 17) (.c (.int .u64 255))), (some (15, false))⟩,
  ⟨(some 19), .lo (.ari .neq (.t 18) (.c (.int .u64 0))), (some (15, false))⟩,
  ⟨(some 20), .lo (.pick (.t 15) (.c (.bool true)) (.t 19)), none⟩])
 (.cond (.t 20) ((.seq (.reg [⟨(some 2), .lo (.mv (.c (.int .i64 0))), none⟩,
  ⟨(some 3), .lo (.mv (.c (.int .i64 0))), none⟩,
  ⟨(some 4), .lo (.mv (.c (.int .i64 0))), none⟩,
  ⟨(some 5), .lo (.mv (.c (.int .i64 0))), none⟩,
  ⟨(some 6), .lo (.mv (.c (.int .i64 0))), none⟩,
  ⟨(some 7), .lo (.mv (.c (.int .i64 0))), none⟩,
  ⟨(some 8), .lo (.mv (.c (.bool false))), none⟩])
 (.ret))) (.skip))))
 ((.seq (.reg [⟨(some 21), .lo (.mkfn 220 [(.t 1)]), none⟩,
  ⟨(some 9), .lo (.mv (.t 21)), none⟩])
 ((.seq (.regd [⟨1, 0, ⟨(some 23), .lo (.mv (.t 9)), none⟩⟩,
  ⟨2, 1, ⟨(some 24), .dyn (.t 23) [(.c (.int .i64 52))], none⟩⟩,
  ⟨3, 0, ⟨(some 25), .lo (.mv (.t 9)), none⟩⟩,
  ⟨4, 7, ⟨(some 26), .dyn (.t 25) [(.c (.int .i64 48))], none⟩⟩,
  ⟨5, 0, ⟨(some 27), .lo (.mv (.t 9)), none⟩⟩,
  ⟨6, 31, ⟨(some 28), .dyn (.t 27) [(.c (.int .i64 44))], none⟩⟩,
  ⟨7, 0, ⟨(some 29), .lo (.mv (.t 9)), none⟩⟩,
  ⟨8, 127, ⟨(some 30), .dyn (.t 29) [(.c (.int .i64 40))], none⟩⟩,
  ⟨0, 0, ⟨(some 22), .lo (.mv (.t 2)), none⟩⟩,
  ⟨9, 0, ⟨(some 31), .lo (.load false 1 (.t 1)), none⟩⟩,
  ⟨10, 512, ⟨(some 32), .lo (.conv .i32 (.t 31)), none⟩⟩,
  ⟨11, 1536, ⟨(some 33), .lo (.conv .i64 (.t 32)), none⟩⟩,
  ⟨12, 511, ⟨(some 2), .lo (.mv (.t 22)), none⟩⟩,
  ⟨13, 4607, ⟨(some 3), .lo (.mv (.t 24)), none⟩⟩,
  ⟨14, 12799, ⟨(some 4), .lo (.mv (.t 26)), none⟩⟩,
  ⟨15, 29183, ⟨(some 5), .lo (.mv (.t 28)), none⟩⟩,
  ⟨16, 61951, ⟨(some 6), .lo (.mv (.t 30)), none⟩⟩,
  ⟨17, 131071, ⟨(some 7), .lo (.mv (.t 33)), none⟩⟩,
  ⟨18, 262143, ⟨(some 8), .lo (.mv (.c (.bool true))), none⟩⟩])
 (.ret))))))))))
def f79 : LF := ⟨c79, 1, 0, 34, [.tmp 2, .tmp 3, .tmp 4, .tmp 5, .tmp 6, .tmp 7, .tmp 8]⟩

/-- (*moot/vm.Machine).stop -/
def c214 : LC := .reg [⟨(some 4), .lo (.mv (.t 0)), none⟩,
  ⟨(some 5), .lo (.mv (.t 0)), none⟩,
  ⟨(some 6), .lo (.mv (.t 1)), none⟩,
  ⟨(some 7), .lo (.nilc (.t 4)), none⟩,
  ⟨(some 8), .lo (.fadr 8209 (.t 7)), none⟩,
  ⟨none, .lo (.store 1 (.t 8) (.c (.bool true))), none⟩,
  ⟨(some 9), .lo (.nilc (.t 5)), none⟩,
  ⟨(some 10), .lo (.fadr 8210 (.t 9)), none⟩,
  ⟨none, .lo (.store 1 (.t 10) (.t 6)), none⟩]
def f214 : LF := ⟨c214, 2, 0, 11, []⟩

/-- (*moot/vm.Machine).jump -/
def c216 : LC := (.seq (.reg [⟨(some 11), .lo (.mv (.t 0)), none⟩,
  ⟨(some 12), .lo (.nilc (.t 11)), none⟩,
  ⟨(some 13), .lo (.fadr 8192 (.t 12)), none⟩,
  ⟨(some 10), .lo (.mv (.t 13)), none⟩])
 ((.seq ((.seq (.reg [⟨(some 14), .lo (.mv (.t 1)), none⟩])
 (.block 0 ((.seq ((.seq (.reg [⟨(some 16), .lo (.ari .eql (.t 14) (.c (.int .i64 30))), none⟩,
  ⟨(some 15), .lo (.mv (.t 16)), none⟩])
 (.cond (.t 15) (.skip) (.reg [⟨(some 17), .lo (.ari .eql (.t 14) (.c (.int .i64 31))), none⟩,
  ⟨(some 15), .lo (.mv (.t 17)), none⟩]))))
 (.cond (.t 15) ((.seq (.reg [⟨(some 18), .lo (.mv (.t 10)), none⟩,
  ⟨(some 19), .lo (.mv (.t 3)), none⟩,
  ⟨(some 20), .lo (.nilc (.t 18)), none⟩,
  ⟨(some 21), .lo (.iarr 16 1 (.t 20) (.t 19)), none⟩,
  ⟨(some 22), .lo (.load false 1 (.t 21)), none⟩,
  ⟨(some 23), .lo (.ari .eql (.t 22) (.c (.int .u64 0))), none⟩,
  ⟨(some 24), .lo (.mv (.t 1)), none⟩,
  ⟨(some 25), .lo (.ari .eql (.t 24) (.c (.int .i64 30))), none⟩,
  ⟨(some 26), .lo (.eq true false .bool (.t 23) (.t 25)), none⟩])
 (.cond (.t 26) ((.seq (.reg [⟨(some 27), .lo (.mv (.t 0)), none⟩,
  ⟨(some 28), .lo (.nilc (.t 27)), none⟩,
  ⟨(some 29), .lo (.fadr 8208 (.t 28)), none⟩,
  ⟨(some 30), .lo (.load false 1 (.t 29)), none⟩,
  ⟨(some 31), .lo (.ari .add (.t 30) (.c (.int .u64 1))), none⟩,
  ⟨(some 32), .lo (.nilc (.t 27)), none⟩,
  ⟨(some 33), .lo (.fadr 8208 (.t 32)), none⟩,
  ⟨none, .lo (.store 1 (.t 33) (.t 31)), none⟩])
 (.ret))) (.skip)))) ((.seq (.reg [⟨(some 35), .lo (.ari .eql (.t 14) (.c (.int .i64 33))), none⟩,
  ⟨(some 34), .lo (.mv (.t 35)), none⟩])
 (.cond (.t 34) (.reg [⟨(some 36), .lo (.mv (.t 10)), none⟩,
  ⟨(some 37), .lo (.mv (.t 3)), none⟩,
  ⟨(some 38), .lo (.nilc (.t 36)), none⟩,
  ⟨(some 39), .lo (.iarr 16 1 (.t 38) (.t 37)), none⟩,
  ⟨(some 40), .lo (.load false 1 (.t 39)), none⟩,
  ⟨(some 4), .lo (.mv (.t 40)), none⟩]) (.skip))))))))))
 ((.seq ((.seq (.reg [⟨(some 41), .lo (.mv (.t 4)), none⟩,
  ⟨(some 42), .lo (.ari .geq (.t 41) (.c (.int .u64 8192))), none⟩])
 (.cond (.t 42) ((.seq (.reg [⟨(some 43), .lo (.mv (.t 0)), none⟩,
  ⟨(some 44), .call 214 [(.t 43), (.c (.int .u64 18446744073709551614))], none⟩])
 (.ret))) (.skip))))
 ((.seq ((.seq (.reg [⟨(some 45), .lo (.mv (.t 1)), none⟩,
  ⟨(some 46), .lo (.ari .eql (.t 45) (.c (.int .i64 32))), none⟩])
 (.cond (.t 46) (.regd [⟨0, 0, ⟨(some 47), .lo (.mv (.t 10)), none⟩⟩,
  ⟨1, 0, ⟨(some 48), .lo (.mv (.t 2)), none⟩⟩,
  ⟨2, 0, ⟨(some 49), .lo (.mv (.t 0)), none⟩⟩,
  ⟨3, 4, ⟨(some 50), .lo (.nilc (.t 49)), none⟩⟩,
  ⟨4, 12, ⟨(some 51), .lo (.fadr 8208 (.t 50)), none⟩⟩,
  ⟨5, 28, ⟨(some 52), .lo (.load false 1 (.t 51)), none⟩⟩,
  ⟨6, 60, ⟨(some 53), .lo (.ari .add (.t 52) (.c (.int .u64 1))), none⟩⟩,
  ⟨7, 1, ⟨(some 54), .lo (.nilc (.t 47)), none⟩⟩,
  ⟨8, 255, ⟨(some 55), .lo (.iarr 16 1 (.t 54) (.t 48)), none⟩⟩,
  ⟨9, 511, ⟨none, .lo (.store 1 (.t 55) (.t 53)), none⟩⟩]) (.skip))))
 (.reg [⟨(some 56), .lo (.mv (.t 0)), none⟩,
  ⟨(some 57), .lo (.mv (.t 4)), none⟩,
  ⟨(some 58), .lo (.nilc (.t 56)), none⟩,
  ⟨(some 59), .lo (.fadr 8208 (.t 58)), none⟩,
  ⟨none, .lo (.store 1 (.t 59) (.t 57)), none⟩]))))))))
def f216 : LF := ⟨c216, 5, 0, 60, []⟩

/-- (*moot/vm.Machine).oracle -/
def c217 : LC := (.seq (.reg [⟨(some 10), .lo (.mv (.c (.bool false))), none⟩])
 ((.seq (.reg [⟨(some 11), .lo (.mv (.c (.int .u64 8))), none⟩,
  ⟨(some 12), .lo (.mv (.c (.int .u64 4))), none⟩])
 ((.seq ((.seq (.reg [⟨(some 22), .lo (.mv (.t 2)), none⟩,
  ⟨(some 23), .lo (.ari .eql (.t 22) (.c (.int .i64 35))), none⟩])
 (.cond (.t 23) (.reg [⟨(some 11), .lo (.mv (.c (.int .u64 4))), none⟩,
  ⟨(some 12), .lo (.mv (.c (.int .u64 8))), none⟩]) (.skip))))
 ((.seq ((.seq (.reg [⟨(some 24), .lo (.mv (.t 3)), none⟩,
  ⟨(some 25), .lo (.mv (.t 11)), none⟩,
  ⟨(some 26), .call 326 [(.t 24), (.t 25)], none⟩,
  ⟨(some 27), .lo (.un .not (.t 26)), none⟩,
  ⟨(some 28), .lo (.mv (.t 27)), none⟩,
  ⟨(some 29), .lo (.mv (.t 4)), (some (28, false))⟩,
  ⟨(some 30), .lo (.mv (.t 12)), (some (28, false))⟩,
  ⟨(some 31), .call 326 [(.t 29), (.t 30)], (some (28, false))⟩,
  ⟨(some 32), .lo (.un .not (.t 31)), (some (28, false))⟩,
  ⟨(some 33), .lo (.pick (.t 28) (.c (.bool true)) (.t 32)), none⟩])
 (.cond (.t 33) ((.seq (.reg [⟨(some 34), .lo (.mv (.t 0)), none⟩,
  ⟨(some 35), .call 214 [(.t 34), (.c (.int .u64 18446744073709551614))], none⟩])
 ((.seq (.reg [⟨(some 10), .lo (.mv (.c (.bool false))), none⟩])
 (.ret))))) (.skip))))
 ((.seq (.reg [⟨(some 13), .lo (.mv (.c .nils)), none⟩])
 ((.seq ((.seq (.reg [⟨(some 36), .lo (.mv (.t 0)), none⟩,
  ⟨(some 37), .lo (.nilc (.t 36)), none⟩,
  ⟨(some 38), .lo (.fadr 0 (.t 37)), none⟩,
  ⟨(some 39), .lo (.mv (.t 3)), none⟩,
  ⟨(some 40), .lo (.mv (.t 3)), none⟩,
  ⟨(some 41), .lo (.mv (.t 11)), none⟩,
  ⟨(some 42), .lo (.ari .add (.t 40) (.t 41)), none⟩,
  ⟨(some 43), .lo (.slarr 8192 1 (.t 38) (some (.t 39)) (some (.t 42))), none⟩,
  ⟨(some 44), .lo (.len 0 (.t 43)), none⟩,
  ⟨(some 45), .lo (.mv (.c (.int .i64 0))), none⟩])
 (.block 0 (.loop ((.seq (.reg [⟨(some 46), .lo (.ari .lss (.t 45) (.t 44)), none⟩])
 ((.seq (.cond (.t 46) (.skip) (.exit 0))
 ((.seq (.block 1 ((.seq (.reg [⟨(some 47), .lo (.isl 1 (.t 43) (.t 45)), none⟩,
  ⟨(some 48), .lo (.load false 1 (.t 47)), none⟩,
  ⟨(some 15), .lo (.mv (.t 48)), none⟩])
 (.reg [⟨(some 49), .lo (.mv (.t 13)), none⟩,
  ⟨(some 50), .lo (.mv (.t 15)), none⟩,
  ⟨(some 51), .call 327 [(.t 49), (.t 50)], none⟩,
  ⟨(some 13), .lo (.mv (.t 51)), none⟩]))))
 (.reg [⟨(some 52), .lo (.ari .add (.t 45) (.c (.int .i64 1))), none⟩,
  ⟨(some 45), .lo (.mv (.t 52)), none⟩])))))))))))
 ((.seq (.reg [⟨(some 16), .lo (.mv (.c .nils)), none⟩])
 ((.seq ((.seq (.reg [⟨(some 53), .lo (.mv (.t 2)), none⟩,
  ⟨(some 54), .lo (.ari .eql (.t 53) (.c (.int .i64 34))), none⟩])
 (.cond (.t 54) ((.seq (.reg [⟨(some 56), .lo (.mv (.t 1)), none⟩,
  ⟨(some 57), .lo (.mv (.t 13)), none⟩,
  ⟨(some 58), .lo (.s2a 64 1 (.t 57)), none⟩,
  ⟨(some 59), .lo (.load true 64 (.t 58)), none⟩,
  ⟨(some 60), .call 212 [(.t 56), (.t 59)], none⟩,
  ⟨(some 55), .lo (.mv (.t 60)), none⟩,
  ⟨(some 61), .lo (.ext (.t 55) 0), none⟩,
  ⟨(some 62), .lo (.ext (.t 55) 1), none⟩,
  ⟨(some 17), .lo (.alloc (.ar 32 (.int .u8))), none⟩,
  ⟨none, .lo (.store 32 (.t 17) (.t 61)), none⟩,
  ⟨(some 18), .lo (.mv (.t 62)), none⟩])
 (.reg [⟨(some 63), .lo (.slarr 32 1 (.t 17) none none), none⟩,
  ⟨(some 16), .lo (.mv (.t 63)), none⟩]))) ((.seq (.reg [⟨(some 65), .lo (.mv (.t 1)), none⟩,
  ⟨(some 66), .lo (.mv (.t 13)), none⟩,
  ⟨(some 67), .lo (.s2a 32 1 (.t 66)), none⟩,
  ⟨(some 68), .lo (.load true 32 (.t 67)), none⟩,
  ⟨(some 69), .call 328 [(.t 65), (.t 68)], none⟩,
  ⟨(some 64), .lo (.mv (.t 69)), none⟩,
  ⟨(some 70), .lo (.ext (.t 64) 0), none⟩,
  ⟨(some 71), .lo (.ext (.t 64) 1), none⟩,
  ⟨(some 19), .lo (.alloc (.ar 64 (.int .u8))), none⟩,
  ⟨none, .lo (.store 64 (.t 19) (.t 70)), none⟩,
  ⟨(some 20), .lo (.mv (.t 71)), none⟩])
 ((.seq ((.seq (.reg [⟨(some 72), .lo (.mv (.t 20)), none⟩,
  ⟨(some 73), .lo (.eq true true (.iface [74]) (.t 72) (.c .nili)), none⟩])
 (.cond (.t 73) ((.seq (.reg [⟨(some 74), .lo (.mv (.t 0)), none⟩,
  ⟨(some 75), .call 214 [(.t 74), (.c (.int .u64 18446744073709551615))], none⟩])
 ((.seq (.reg [⟨(some 10), .lo (.mv (.c (.bool false))), none⟩])
 (.ret))))) (.skip))))
 (.reg [⟨(some 76), .lo (.slarr 64 1 (.t 19) none none), none⟩,
  ⟨(some 16), .lo (.mv (.t 76)), none⟩]))))))))
 ((.seq ((.seq (.reg [⟨(some 77), .lo (.mv (.t 12)), none⟩,
  ⟨(some 78), .lo (.mv (.c (.int .u64 0))), none⟩])
 (.block 2 (.loop ((.seq (.reg [⟨(some 79), .lo (.ari .lss (.t 78) (.t 77)), none⟩])
 ((.seq (.cond (.t 79) (.skip) (.exit 2))
 ((.seq (.block 3 ((.seq (.reg [⟨(some 80), .lo (.mv (.t 78)), none⟩,
  ⟨(some 21), .lo (.mv (.t 80)), none⟩])
 (.regd [⟨4, 0, ⟨(some 85), .lo (.mv (.t 16)), none⟩⟩,
  ⟨5, 0, ⟨(some 86), .lo (.mv (.t 21)), none⟩⟩,
  ⟨6, 2, ⟨(some 87), .lo (.ari .mul (.c (.int .u64 8)) (.t 86)), none⟩⟩,
  ⟨7, 7, ⟨(some 88), .lo (.slsl 1 (.t 85) (some (.t 87)) none), none⟩⟩,
  ⟨8, 15, ⟨(some 89), .call 308 [(.t 88)], none⟩⟩,
  ⟨0, 0, ⟨(some 81), .lo (.mv (.t 0)), none⟩⟩,
  ⟨1, 0, ⟨(some 82), .lo (.mv (.t 4)), none⟩⟩,
  ⟨2, 0, ⟨(some 83), .lo (.mv (.t 21)), none⟩⟩,
  ⟨3, 192, ⟨(some 84), .lo (.ari .add (.t 82) (.t 83)), none⟩⟩,
  ⟨9, 32, ⟨(some 90), .lo (.nilc (.t 81)), none⟩⟩,
  ⟨10, 544, ⟨(some 91), .lo (.fadr 0 (.t 90)), none⟩⟩,
  ⟨11, 2047, ⟨(some 92), .lo (.iarr 8192 1 (.t 91) (.t 84)), none⟩⟩,
  ⟨12, 4095, ⟨none, .lo (.store 1 (.t 92) (.t 89)), none⟩⟩]))))
 (.reg [⟨(some 93), .lo (.ari .add (.t 78) (.c (.int .u64 1))), none⟩,
  ⟨(some 78), .lo (.mv (.t 93)), none⟩])))))))))))
 ((.seq (.reg [⟨(some 10), .lo (.mv (.c (.bool true))), none⟩])
 (.ret))))))))))))))))))))
def f217 : LF := ⟨c217, 5, 0, 94, [.tmp 10]⟩

/-- moot/vm.Parts$1 -/
def c220 : LC := (.seq (.reg [⟨(some 3), .lo (.mv (.c (.int .i64 0))), none⟩])
 ((.seq (.reg [⟨(some 4), .lo (.load false 1 (.t 1)), none⟩,
  ⟨(some 5), .lo (.mv (.t 0)), none⟩,
  ⟨(some 6), .lo (.ari .shr (.t 4) (.t 5)), none⟩,
  ⟨(some 7), .lo (.ari .and (.t 6) (.c (.int .u64 15))), none⟩,
  ⟨(some 8), .lo (.conv .i64 (.t 7)), none⟩,
  ⟨(some 3), .lo (.mv (.t 8)), none⟩])
 (.ret))))
def f220 : LF := ⟨c220, 1, 1, 9, [.tmp 3]⟩

/-- moot/vm.within -/
def c326 : LC := (.seq (.reg [⟨(some 4), .lo (.mv (.c (.bool false))), none⟩])
 ((.seq (.reg [⟨(some 5), .lo (.mv (.t 0)), none⟩,
  ⟨(some 6), .lo (.ari .leq (.t 5) (.c (.int .u64 8192))), none⟩,
  ⟨(some 7), .lo (.mv (.t 6)), none⟩,
  ⟨(some 8), .lo (.mv (.t 1)), (some (7, true))⟩,
  ⟨(some 9), .lo (.mv (.t 0)), (some (7, true))⟩,
  ⟨(some 10), .lo (.ari .sub (.c (.int .u64 8192)) (.t 9)), (some (7, true))⟩,
  ⟨(some 11), .lo (.ari .leq (.t 8) (.t 10)), (some (7, true))⟩,
  ⟨(some 12), .lo (.pick (.t 7) (.t 11) (.c (.bool false))), none⟩,
  ⟨(some 4), .lo (.mv (.t 12)), none⟩])
 (.ret))))
def f326 : LF := ⟨c326, 2, 0, 13, [.tmp 4]⟩

/-- moot/word.Apply -/
def c215 : LC := (.seq (.reg [⟨(some 8), .lo (.mv (.c (.int .u64 0))), none⟩,
  ⟨(some 9), .lo (.mv (.c .nili)), none⟩])
 ((.seq ((.seq (.reg [⟨(some 10), .lo (.mv (.t 0)), none⟩])
 (.block 0 ((.seq (.block 17 ((.seq (.block 16 ((.seq (.block 15 ((.seq (.block 14 ((.seq (.block 13 ((.seq (.block 12 ((.seq (.block 11 ((.seq (.block 10 ((.seq (.block 9 ((.seq (.block 8 ((.seq (.block 7 ((.seq (.block 6 ((.seq (.block 5 ((.seq (.block 4 ((.seq (.block 3 ((.seq (.block 2 ((.seq (.block 1 ((.seq ((.seq ((.seq (.reg [⟨(some 12), .lo (.ari .eql (.t 10) (.c (.int .i64 1))), none⟩,
  ⟨(some 11), .lo (.mv (.t 12)), none⟩])
 (.cond (.t 11) (.exit 1) (.skip))))
 ((.seq ((.seq (.reg [⟨(some 14), .lo (.ari .eql (.t 10) (.c (.int .i64 2))), none⟩,
  ⟨(some 13), .lo (.mv (.t 14)), none⟩])
 (.cond (.t 13) (.exit 2) (.skip))))
 ((.seq ((.seq (.reg [⟨(some 16), .lo (.ari .eql (.t 10) (.c (.int .i64 3))), none⟩,
  ⟨(some 15), .lo (.mv (.t 16)), none⟩])
 (.cond (.t 15) (.exit 3) (.skip))))
 ((.seq ((.seq ((.seq (.reg [⟨(some 18), .lo (.ari .eql (.t 10) (.c (.int .i64 4))), none⟩,
  ⟨(some 17), .lo (.mv (.t 18)), none⟩])
 (.cond (.t 17) (.skip) ((.seq (.reg [⟨(some 19), .lo (.ari .eql (.t 10) (.c (.int .i64 5))), none⟩,
  ⟨(some 17), .lo (.mv (.t 19)), none⟩])
 (.cond (.t 17) (.skip) ((.seq (.reg [⟨(some 20), .lo (.ari .eql (.t 10) (.c (.int .i64 6))), none⟩,
  ⟨(some 17), .lo (.mv (.t 20)), none⟩])
 (.cond (.t 17) (.skip) (.reg [⟨(some 21), .lo (.ari .eql (.t 10) (.c (.int .i64 7))), none⟩,
  ⟨(some 17), .lo (.mv (.t 21)), none⟩]))))))))))
 (.cond (.t 17) (.exit 4) (.skip))))
 ((.seq ((.seq ((.seq (.reg [⟨(some 23), .lo (.ari .eql (.t 10) (.c (.int .i64 8))), none⟩,
  ⟨(some 22), .lo (.mv (.t 23)), none⟩])
 (.cond (.t 22) (.skip) (.reg [⟨(some 24), .lo (.ari .eql (.t 10) (.c (.int .i64 9))), none⟩,
  ⟨(some 22), .lo (.mv (.t 24)), none⟩]))))
 (.cond (.t 22) (.exit 5) (.skip))))
 ((.seq ((.seq (.reg [⟨(some 26), .lo (.ari .eql (.t 10) (.c (.int .i64 10))), none⟩,
  ⟨(some 25), .lo (.mv (.t 26)), none⟩])
 (.cond (.t 25) (.exit 6) (.skip))))
 ((.seq ((.seq ((.seq (.reg [⟨(some 28), .lo (.ari .eql (.t 10) (.c (.int .i64 11))), none⟩,
  ⟨(some 27), .lo (.mv (.t 28)), none⟩])
 (.cond (.t 27) (.skip) ((.seq (.reg [⟨(some 29), .lo (.ari .eql (.t 10) (.c (.int .i64 12))), none⟩,
  ⟨(some 27), .lo (.mv (.t 29)), none⟩])
 (.cond (.t 27) (.skip) ((.seq (.reg [⟨(some 30), .lo (.ari .eql (.t 10) (.c (.int .i64 13))), none⟩,
  ⟨(some 27), .lo (.mv (.t 30)), none⟩])
 (.cond (.t 27) (.skip) ((.seq (.reg [⟨(some 31), .lo (.ari .eql (.t 10) (.c (.int .i64 14))), none⟩,
  ⟨(some 27), .lo (.mv (.t 31)), none⟩])
 (.cond (.t 27) (.skip) (.reg [⟨(some 32), .lo (.ari .eql (.t 10) (.c (.int .i64 15))), none⟩,
  ⟨(some 27), .lo (.mv (.t 32)), none⟩])))))))))))))
 (.cond (.t 27) (.exit 7) (.skip))))
 ((.seq ((.seq (.reg [⟨(some 34), .lo (.ari .eql (.t 10) (.c (.int .i64 17))), none⟩,
  ⟨(some 33), .lo (.mv (.t 34)), none⟩])
 (.cond (.t 33) (.exit 8) (.skip))))
 ((.seq ((.seq (.reg [⟨(some 36), .lo (.ari .eql (.t 10) (.c (.int .i64 16))), none⟩,
  ⟨(some 35), .lo (.mv (.t 36)), none⟩])
 (.cond (.t 35) (.exit 9) (.skip))))
 ((.seq ((.seq (.reg [⟨(some 38), .lo (.ari .eql (.t 10) (.c (.int .i64 19))), none⟩,
  ⟨(some 37), .lo (.mv (.t 38)), none⟩])
 (.cond (.t 37) (.exit 10) (.skip))))
 ((.seq ((.seq (.reg [⟨(some 40), .lo (.ari .eql (.t 10) (.c (.int .i64 18))), none⟩,
  ⟨(some 39), .lo (.mv (.t 40)), none⟩])
 (.cond (.t 39) (.exit 11) (.skip))))
 ((.seq ((.seq (.reg [⟨(some 42), .lo (.ari .eql (.t 10) (.c (.int .i64 21))), none⟩,
  ⟨(some 41), .lo (.mv (.t 42)), none⟩])
 (.cond (.t 41) (.exit 12) (.skip))))
 ((.seq ((.seq (.reg [⟨(some 44), .lo (.ari .eql (.t 10) (.c (.int .i64 20))), none⟩,
  ⟨(some 43), .lo (.mv (.t 44)), none⟩])
 (.cond (.t 43) (.exit 13) (.skip))))
 ((.seq ((.seq (.reg [⟨(some 46), .lo (.ari .eql (.t 10) (.c (.int .i64 22))), none⟩,
  ⟨(some 45), .lo (.mv (.t 46)), none⟩])
 (.cond (.t 45) (.exit 14) (.skip))))
 ((.seq ((.seq (.reg [⟨(some 48), .lo (.ari .eql (.t 10) (.c (.int .i64 23))), none⟩,
  ⟨(some 47), .lo (.mv (.t 48)), none⟩])
 (.cond (.t 47) (.exit 15) (.skip))))
 ((.seq ((.seq (.reg [⟨(some 50), .lo (.ari .eql (.t 10) (.c (.int .i64 25))), none⟩,
  ⟨(some 49), .lo (.mv (.t 50)), none⟩])
 (.cond (.t 49) (.exit 16) (.skip))))
 ((.seq (.reg [⟨(some 52), .lo (.ari .eql (.t 10) (.c (.int .i64 24))), none⟩,
  ⟨(some 51), .lo (.mv (.t 52)), none⟩])
 (.cond (.t 51) (.exit 17) (.skip))))))))))))))))))))))))))))))))))))
 (.exit 0))))
 ((.seq ((.seq (.reg [⟨(some 53), .lo (.mv (.t 1)), none⟩,
  ⟨(some 54), .lo (.mv (.t 2)), none⟩,
  ⟨(some 55), .lo (.ari .add (.t 53) (.t 54)), none⟩,
  ⟨(some 8), .lo (.mv (.t 55)), none⟩,
  ⟨(some 9), .lo (.mv (.c .nili)), none⟩])
 (.ret)))
 (.exit 0))))))
 ((.seq ((.seq (.reg [⟨(some 56), .lo (.mv (.t 1)), none⟩,
  ⟨(some 57), .lo (.mv (.t 2)), none⟩,
  ⟨(some 58), .lo (.ari .sub (.t 56) (.t 57)), none⟩,
  ⟨(some 8), .lo (.mv (.t 58)), none⟩,
  ⟨(some 9), .lo (.mv (.c .nili)), none⟩])
 (.ret)))
 (.exit 0))))))
 ((.seq ((.seq (.reg [⟨(some 59), .lo (.mv (.t 1)), none⟩,
  ⟨(some 60), .lo (.mv (.t 2)), none⟩,
  ⟨(some 61), .lo (.ari .mul (.t 59) (.t 60)), none⟩,
  ⟨(some 8), .lo (.mv (.t 61)), none⟩,
  ⟨(some 9), .lo (.mv (.c .nili)), none⟩])
 (.ret)))
 (.exit 0))))))
 ((.seq ((.seq (.reg [⟨(some 62), .lo (.mv (.t 0)), none⟩,
  ⟨(some 63), .lo (.mv (.t 1)), none⟩,
  ⟨(some 64), .lo (.mv (.t 2)), none⟩,
  ⟨(some 65), .call 321 [(.t 62), (.t 63), (.t 64)], none⟩,
  ⟨(some 8), .lo (.mv (.t 65)), none⟩,
  ⟨(some 9), .lo (.mv (.c .nili)), none⟩])
 (.ret)))
 (.exit 0))))))
 ((.seq ((.seq (.reg [⟨(some 66), .lo (.mv (.t 0)), none⟩,
  ⟨(some 67), .lo (.mv (.t 1)), none⟩,
  ⟨(some 68), .lo (.mv (.t 2)), none⟩,
  ⟨(some 69), .lo (.mv (.t 3)), none⟩,
  ⟨(some 70), .call 322 [(.t 66), (.t 67), (.t 68), (.t 69)], none⟩,
  ⟨(some 8), .lo (.mv (.t 70)), none⟩,
  ⟨(some 9), .lo (.mv (.c .nili)), none⟩])
 (.ret)))
 (.exit 0))))))
 ((.seq ((.seq (.reg [⟨(some 71), .lo (.mv (.t 1)), none⟩,
  ⟨(some 72), .lo (.mv (.t 2)), none⟩,
  ⟨(some 73), .call 323 [(.t 71), (.t 72)], none⟩,
  ⟨(some 8), .lo (.mv (.t 73)), none⟩,
  ⟨(some 9), .lo (.mv (.c .nili)), none⟩])
 (.ret)))
 (.exit 0))))))
 ((.seq ((.seq (.reg [⟨(some 74), .lo (.mv (.t 0)), none⟩,
  ⟨(some 75), .lo (.mv (.t 1)), none⟩,
  ⟨(some 76), .lo (.mv (.t 2)), none⟩,
  ⟨(some 77), .call 324 [(.t 74), (.t 75), (.t 76)], none⟩,
  ⟨(some 8), .lo (.mv (.t 77)), none⟩,
  ⟨(some 9), .lo (.mv (.c .nili)), none⟩])
 (.ret)))
 (.exit 0))))))
 (.reg [⟨(some 78), .lo (.mv (.t 2)), none⟩,
  ⟨(some 79), .lo (.mv (.t 1)), none⟩,
  ⟨(some 1), .lo (.mv (.t 78)), none⟩,
  ⟨(some 2), .lo (.mv (.t 79)), none⟩]))))
 ((.seq ((.seq (.reg [⟨(some 80), .lo (.mv (.t 1)), none⟩,
  ⟨(some 81), .lo (.mv (.t 2)), none⟩,
  ⟨(some 82), .lo (.ari .lss (.t 80) (.t 81)), none⟩,
  ⟨(some 83), .call 325 [(.t 82)], none⟩,
  ⟨(some 8), .lo (.mv (.t 83)), none⟩,
  ⟨(some 9), .lo (.mv (.c .nili)), none⟩])
 (.ret)))
 (.exit 0))))))
 (.reg [⟨(some 84), .lo (.mv (.t 2)), none⟩,
  ⟨(some 85), .lo (.mv (.t 1)), none⟩,
  ⟨(some 1), .lo (.mv (.t 84)), none⟩,
  ⟨(some 2), .lo (.mv (.t 85)), none⟩]))))
 ((.seq ((.seq (.reg [⟨(some 86), .lo (.mv (.t 1)), none⟩,
  ⟨(some 87), .lo (.conv .i64 (.t 86)), none⟩,
  ⟨(some 88), .lo (.mv (.t 2)), none⟩,
  ⟨(some 89), .lo (.conv .i64 (.t 88)), none⟩,
  ⟨(some 90), .lo (.ari .lss (.t 87) (.t 89)), none⟩,
  ⟨(some 91), .call 325 [(.t 90)], none⟩,
  ⟨(some 8), .lo (.mv (.t 91)), none⟩,
  ⟨(some 9), .lo (.mv (.c .nili)), none⟩])
 (.ret)))
 (.exit 0))))))
 (.reg [⟨(some 2), .lo (.mv (.c (.int .u64 0))), none⟩]))))
 ((.seq ((.seq (.reg [⟨(some 92), .lo (.mv (.t 1)), none⟩,
  ⟨(some 93), .lo (.mv (.t 2)), none⟩,
  ⟨(some 94), .lo (.ari .eql (.t 92) (.t 93)), none⟩,
  ⟨(some 95), .call 325 [(.t 94)], none⟩,
  ⟨(some 8), .lo (.mv (.t 95)), none⟩,
  ⟨(some 9), .lo (.mv (.c .nili)), none⟩])
 (.ret)))
 (.exit 0))))))
 ((.seq ((.seq (.reg [⟨(some 96), .lo (.mv (.t 1)), none⟩,
  ⟨(some 97), .lo (.mv (.t 2)), none⟩,
  ⟨(some 98), .lo (.ari .and (.t 96) (.t 97)), none⟩,
  ⟨(some 8), .lo (.mv (.t 98)), none⟩,
  ⟨(some 9), .lo (.mv (.c .nili)), none⟩])
 (.ret)))
 (.exit 0))))))
 ((.seq ((.seq (.reg [⟨(some 99), .lo (.mv (.t 1)), none⟩,
  ⟨(some 100), .lo (.mv (.t 2)), none⟩,
  ⟨(some 101), .lo (.ari .or (.t 99) (.t 100)), none⟩,
  ⟨(some 8), .lo (.mv (.t 101)), none⟩,
  ⟨(some 9), .lo (.mv (.c .nili)), none⟩])
 (.ret)))
 (.exit 0))))))
 (.reg [⟨(some 2), .lo (.mv (.c (.int .u64 18446744073709551615))), none⟩]))))
 ((.seq ((.seq (.reg [⟨(some 102), .lo (.mv (.t 1)), none⟩,
  ⟨(some 103), .lo (.mv (.t 2)), none⟩,
  ⟨(some 104), .lo (.ari .xor (.t 102) (.t 103)), none⟩,
  ⟨(some 8), .lo (.mv (.t 104)), none⟩,
  ⟨(some 9), .lo (.mv (.c .nili)), none⟩])
 (.ret)))
 (.exit 0))))))))
 ((.seq (.reg [⟨(some 105), .lo (.mkif 74 (.c (.int .i64 10))), none⟩,
  ⟨(some 8), .lo (.mv (.c (.int .u64 0))), none⟩,
  ⟨(some 9), .lo (.mv (.t 105)), none⟩])
 (.ret))))))
def f215 : LF := ⟨c215, 4, 0, 106, [.tmp 8, .tmp 9]⟩

end Mv
