/- A part of the tool. -/
import Derived.Test.YtfoaeafobdamcaaDoorT
set_option linter.unusedSimpArgs false
set_option linter.unusedVariables false
namespace Mv
open Go
/-- moot/mootlaw11.CommitOrder -/
def c3 : LC := (.seq (.reg [⟨(some 4), .lo (.box (.t 1)), none⟩,
  ⟨(some 5), .lo (.box (.t 2)), none⟩,
  ⟨(some 6), .lo (.mv (.c (.bool false))), none⟩])
 ((.seq (.reg [⟨(some 26), .lo (.mv (.t 0)), none⟩,
  ⟨(some 27), .call 46 [(.t 26), (.c .nils), (.c (.int .u64 0)), (.c (.int .u64 0)), (.c (.bool false))], none⟩,
  ⟨(some 25), .lo (.mv (.t 27)), none⟩,
  ⟨(some 28), .lo (.ext (.t 25) 0), none⟩,
  ⟨(some 29), .lo (.ext (.t 25) 1), none⟩,
  ⟨(some 7), .lo (.alloc .ptr), none⟩,
  ⟨none, .lo (.store 1 (.t 7) (.t 28)), none⟩,
  ⟨(some 8), .lo (.mv (.t 29)), none⟩])
 ((.seq ((.seq (.reg [⟨(some 30), .lo (.load false 1 (.t 7)), none⟩,
  ⟨(some 31), .lo (.eq false true .ptr (.t 30) (.c .nilp)), none⟩,
  ⟨(some 32), .lo (.mv (.t 31)), none⟩,
  ⟨(some 33), .call 47 [], (some (32, false))⟩,
  ⟨(some 34), .lo (.un .not (.t 33)), (some (32, false))⟩,
  ⟨(some 35), .lo (.pick (.t 32) (.c (.bool true)) (.t 34)), none⟩])
 (.cond (.t 35) ((.seq (.reg [⟨(some 6), .lo (.mv (.c (.bool false))), none⟩])
 (.ret))) (.skip))))
 ((.seq (.regd [⟨0, 0, ⟨(some 36), .lo (.fadr 0 (.t 4)), none⟩⟩,
  ⟨1, 1, ⟨(some 37), .lo (.load false 1 (.t 36)), none⟩⟩,
  ⟨2, 3, ⟨(some 38), .lo (.ari .rem (.t 37) (.c (.int .u64 8192))), none⟩⟩,
  ⟨6, 0, ⟨(some 9), .lo (.alloc (.int .u64)), none⟩⟩,
  ⟨7, 15, ⟨none, .lo (.store 1 (.t 9) (.t 38)), none⟩⟩,
  ⟨3, 0, ⟨(some 39), .lo (.fadr 0 (.t 5)), none⟩⟩,
  ⟨4, 32, ⟨(some 40), .lo (.load false 1 (.t 39)), none⟩⟩,
  ⟨5, 96, ⟨(some 41), .lo (.ari .rem (.t 40) (.c (.int .u64 8192))), none⟩⟩,
  ⟨8, 255, ⟨(some 10), .lo (.mv (.t 41)), none⟩⟩])
 ((.seq (.reg [⟨(some 42), .lo (.mkfn 48 [(.t 7), (.t 9)]), none⟩,
  ⟨(some 11), .lo (.mv (.t 42)), none⟩])
 ((.seq (.reg [⟨(some 44), .lo (.mv (.t 11)), none⟩,
  ⟨(some 45), .lo (.load true 2 (.t 4)), none⟩,
  ⟨(some 46), .lo (.load true 2 (.t 5)), none⟩,
  ⟨(some 47), .lo (.build (.ar 2 (.st (.cons (.int .u64) (.cons (.int .u64) .nil)))) [(.i 2 0, 2, (.t 45)), (.i 2 1, 2, (.t 46))]), none⟩,
  ⟨(some 48), .dyn (.t 44) [(.t 47)], none⟩,
  ⟨(some 43), .lo (.mv (.t 48)), none⟩,
  ⟨(some 49), .lo (.ext (.t 43) 0), none⟩,
  ⟨(some 50), .lo (.ext (.t 43) 1), none⟩,
  ⟨(some 12), .lo (.mv (.t 49)), none⟩,
  ⟨(some 13), .lo (.mv (.t 50)), none⟩])
 ((.seq (.reg [⟨(some 52), .lo (.mv (.t 11)), none⟩,
  ⟨(some 53), .lo (.load true 2 (.t 5)), none⟩,
  ⟨(some 54), .lo (.load true 2 (.t 4)), none⟩,
  ⟨(some 55), .lo (.build (.ar 2 (.st (.cons (.int .u64) (.cons (.int .u64) .nil)))) [(.i 2 0, 2, (.t 53)), (.i 2 1, 2, (.t 54))]), none⟩,
  ⟨(some 56), .dyn (.t 52) [(.t 55)], none⟩,
  ⟨(some 51), .lo (.mv (.t 56)), none⟩,
  ⟨(some 57), .lo (.ext (.t 51) 0), none⟩,
  ⟨(some 58), .lo (.ext (.t 51) 1), none⟩,
  ⟨(some 14), .lo (.mv (.t 57)), none⟩,
  ⟨(some 15), .lo (.mv (.t 58)), none⟩])
 ((.seq ((.seq (.reg [⟨(some 59), .lo (.mv (.t 13)), none⟩,
  ⟨(some 60), .lo (.un .not (.t 59)), none⟩,
  ⟨(some 61), .lo (.mv (.t 60)), none⟩,
  ⟨(some 62), .lo (.mv (.t 15)), (some (61, false))⟩,
  ⟨(some 63), .lo (.un .not (.t 62)), (some (61, false))⟩,
  ⟨(some 64), .lo (.pick (.t 61) (.c (.bool true)) (.t 63)), none⟩,
  ⟨(some 65), .lo (.mv (.t 64)), none⟩,
  ⟨(some 66), .lo (.mv (.t 12)), (some (65, false))⟩,
  ⟨(some 67), .lo (.mv (.t 14)), (some (65, false))⟩,
  ⟨(some 68), .lo (.ari .eql (.t 66) (.t 67)), (some (65, false))⟩,
  ⟨(some 69), .lo (.load false 1 (.t 9)), (some (65, false))⟩,
  ⟨(some 70), .lo (.mv (.t 10)), (some (65, false))⟩,
  ⟨(some 71), .lo (.ari .neq (.t 69) (.t 70)), (some (65, false))⟩,
  ⟨(some 72), .lo (.mv (.t 71)), (some (65, false))⟩,
  ⟨(some 73), .lo (.fadr 1 (.t 4)), (some (72, false))⟩,
  ⟨(some 74), .lo (.load false 1 (.t 73)), (some (72, false))⟩,
  ⟨(some 75), .lo (.fadr 1 (.t 5)), (some (72, false))⟩,
  ⟨(some 76), .lo (.load false 1 (.t 75)), (some (72, false))⟩,
  ⟨(some 77), .lo (.ari .eql (.t 74) (.t 76)), (some (72, false))⟩,
  ⟨(some 78), .lo (.pick (.t 72) (.c (.bool true)) (.t 77)), (some (65, false))⟩,
  ⟨(some 79), .lo (.eq true false .bool (.t 68) (.t 78)), (some (65, false))⟩,
  ⟨(some 80), .lo (.pick (.t 65) (.c (.bool true)) (.t 79)), none⟩])
 (.cond (.t 80) ((.seq (.reg [⟨(some 6), .lo (.mv (.c (.bool false))), none⟩])
 (.ret))) (.skip))))
 ((.seq (.reg [⟨(some 82), .lo (.load false 1 (.t 7)), none⟩,
  ⟨(some 83), .lo (.mv (.t 10)), none⟩,
  ⟨(some 84), .call 50 [(.t 82), (.t 83)], none⟩,
  ⟨(some 81), .lo (.mv (.t 84)), none⟩,
  ⟨(some 85), .lo (.ext (.t 81) 0), none⟩,
  ⟨(some 86), .lo (.ext (.t 81) 1), none⟩,
  ⟨(some 16), .lo (.alloc (.st (.cons (.int .u64) (.cons .slice .nil)))), none⟩,
  ⟨none, .lo (.store 2 (.t 16) (.t 85)), none⟩,
  ⟨(some 17), .lo (.mv (.t 86)), none⟩])
 ((.seq (.reg [⟨(some 88), .lo (.load false 1 (.t 7)), none⟩,
  ⟨(some 89), .call 51 [(.t 88)], none⟩,
  ⟨(some 87), .lo (.mv (.t 89)), none⟩,
  ⟨(some 90), .lo (.ext (.t 87) 0), none⟩,
  ⟨(some 91), .lo (.ext (.t 87) 1), none⟩,
  ⟨(some 18), .lo (.alloc (.ar 32 (.int .u8))), none⟩,
  ⟨none, .lo (.store 32 (.t 18) (.t 90)), none⟩,
  ⟨(some 19), .lo (.mv (.t 91)), none⟩])
 ((.seq (.regd [⟨0, 0, ⟨(some 92), .lo (.load false 1 (.t 7)), none⟩⟩,
  ⟨1, 0, ⟨(some 93), .lo (.load false 1 (.t 9)), none⟩⟩,
  ⟨2, 1, ⟨(some 94), .lo (.nilc (.t 92)), none⟩⟩,
  ⟨3, 5, ⟨(some 95), .lo (.fadr 0 (.t 94)), none⟩⟩,
  ⟨4, 15, ⟨(some 96), .lo (.iarr 8192 1 (.t 95) (.t 93)), none⟩⟩,
  ⟨5, 31, ⟨(some 97), .lo (.load false 1 (.t 96)), none⟩⟩,
  ⟨6, 63, ⟨(some 20), .lo (.mv (.t 97)), none⟩⟩])
 ((.seq (.regd [⟨0, 0, ⟨(some 98), .lo (.load false 1 (.t 7)), none⟩⟩,
  ⟨1, 0, ⟨(some 99), .lo (.load false 1 (.t 9)), none⟩⟩,
  ⟨2, 0, ⟨(some 100), .lo (.fadr 1 (.t 4)), none⟩⟩,
  ⟨3, 4, ⟨(some 101), .lo (.load false 1 (.t 100)), none⟩⟩,
  ⟨4, 1, ⟨(some 102), .lo (.nilc (.t 98)), none⟩⟩,
  ⟨5, 17, ⟨(some 103), .lo (.fadr 0 (.t 102)), none⟩⟩,
  ⟨6, 63, ⟨(some 104), .lo (.iarr 8192 1 (.t 103) (.t 99)), none⟩⟩,
  ⟨7, 127, ⟨none, .lo (.store 1 (.t 104) (.t 101)), none⟩⟩])
 ((.seq (.reg [⟨(some 106), .lo (.load false 1 (.t 7)), none⟩,
  ⟨(some 107), .call 51 [(.t 106)], none⟩,
  ⟨(some 105), .lo (.mv (.t 107)), none⟩,
  ⟨(some 108), .lo (.ext (.t 105) 0), none⟩,
  ⟨(some 109), .lo (.ext (.t 105) 1), none⟩,
  ⟨(some 21), .lo (.alloc (.ar 32 (.int .u8))), none⟩,
  ⟨none, .lo (.store 32 (.t 21) (.t 108)), none⟩,
  ⟨(some 22), .lo (.mv (.t 109)), none⟩])
 ((.seq (.reg [⟨(some 111), .lo (.load true 32 (.t 21)), none⟩,
  ⟨(some 112), .lo (.mv (.t 10)), none⟩,
  ⟨(some 113), .lo (.load true 2 (.t 16)), none⟩,
  ⟨(some 114), .call 53 [(.t 111), (.t 112), (.t 113)], none⟩,
  ⟨(some 110), .lo (.mv (.t 114)), none⟩,
  ⟨(some 115), .lo (.ext (.t 110) 0), none⟩,
  ⟨(some 116), .lo (.ext (.t 110) 1), none⟩,
  ⟨(some 23), .lo (.mv (.t 115)), none⟩,
  ⟨(some 24), .lo (.mv (.t 116)), none⟩])
 ((.seq (.reg [⟨(some 117), .lo (.mv (.t 17)), none⟩,
  ⟨(some 118), .lo (.eq false true (.iface [74]) (.t 117) (.c .nili)), none⟩,
  ⟨(some 119), .lo (.mv (.t 118)), none⟩,
  ⟨(some 120), .lo (.mv (.t 19)), (some (119, true))⟩,
  ⟨(some 121), .lo (.eq false true (.iface [74]) (.t 120) (.c .nili)), (some (119, true))⟩,
  ⟨(some 122), .lo (.pick (.t 119) (.t 121) (.c (.bool false))), none⟩,
  ⟨(some 123), .lo (.mv (.t 122)), none⟩,
  ⟨(some 124), .lo (.mv (.t 22)), (some (123, true))⟩,
  ⟨(some 125), .lo (.eq false true (.iface [74]) (.t 124) (.c .nili)), (some (123, true))⟩,
  ⟨(some 126), .lo (.pick (.t 123) (.t 125) (.c (.bool false))), none⟩,
  ⟨(some 127), .lo (.mv (.t 126)), none⟩,
  ⟨(some 128), .lo (.mv (.t 24)), (some (127, true))⟩,
  ⟨(some 129), .lo (.eq false true (.iface [74]) (.t 128) (.c .nili)), (some (127, true))⟩,
  ⟨(some 130), .lo (.pick (.t 127) (.t 129) (.c (.bool false))), none⟩,
  ⟨(some 131), .lo (.mv (.t 130)), none⟩,
  ⟨(some 132), .lo (.mv (.t 23)), (some (131, true))⟩,
  ⟨(some 133), .lo (.load true 32 (.t 21)), (some (131, true))⟩,
  ⟨(some 134), .lo (.load true 32 (.t 18)), (some (131, true))⟩,
  ⟨(some 135), .lo (.eq false false (.ar 32 1 false .int) (.t 133) (.t 134)), (some (131, true))⟩,
  ⟨(some 136), .lo (.eq false false .bool (.t 132) (.t 135)), (some (131, true))⟩,
  ⟨(some 137), .lo (.mv (.t 136)), (some (131, true))⟩,
  ⟨(some 138), .lo (.mv (.t 20)), (some (137, false))⟩,
  ⟨(some 139), .lo (.fadr 1 (.t 4)), (some (137, false))⟩,
  ⟨(some 140), .lo (.load false 1 (.t 139)), (some (137, false))⟩,
  ⟨(some 141), .lo (.ari .eql (.t 138) (.t 140)), (some (137, false))⟩,
  ⟨(some 142), .lo (.pick (.t 137) (.c (.bool true)) (.t 141)), (some (131, true))⟩,
  ⟨(some 143), .lo (.pick (.t 131) (.t 142) (.c (.bool false))), none⟩,
  ⟨(some 6), .lo (.mv (.t 143)), none⟩])
 (.ret))))))))))))))))))))))))))))))
def f3 : LF := ⟨c3, 3, 0, 144, [.tmp 6]⟩

/-- moot/mootlaw11.laid -/
def c46 : LC := (.seq (.reg [⟨(some 10), .lo (.mv (.c .nilp)), none⟩,
  ⟨(some 11), .lo (.mv (.c .nilp)), none⟩])
 ((.seq (.reg [⟨(some 19), .call 74 [(.c .nils)], none⟩,
  ⟨(some 18), .lo (.mv (.t 19)), none⟩,
  ⟨(some 20), .lo (.ext (.t 18) 0), none⟩,
  ⟨(some 21), .lo (.ext (.t 18) 1), none⟩,
  ⟨(some 12), .lo (.mv (.t 20)), none⟩,
  ⟨(some 13), .lo (.mv (.t 21)), none⟩])
 ((.seq (.reg [⟨(some 22), .call 196 [(.c .nils)], none⟩,
  ⟨(some 14), .lo (.mv (.t 22)), none⟩])
 ((.seq ((.seq (.reg [⟨(some 23), .lo (.mv (.t 13)), none⟩,
  ⟨(some 24), .lo (.eq true true (.iface [74]) (.t 23) (.c .nili)), none⟩,
  ⟨(some 25), .lo (.mv (.t 24)), none⟩,
  ⟨(some 26), .lo (.mv (.t 12)), (some (25, false))⟩,
  ⟨(some 27), .lo (.eq false true .ptr (.t 26) (.c .nilp)), (some (25, false))⟩,
  ⟨(some 28), .lo (.pick (.t 25) (.c (.bool true)) (.t 27)), none⟩])
 (.cond (.t 28) ((.seq (.reg [⟨(some 29), .lo (.mv (.t 14)), none⟩,
  ⟨(some 10), .lo (.mv (.c .nilp)), none⟩,
  ⟨(some 11), .lo (.mv (.t 29)), none⟩])
 (.ret))) (.skip))))
 ((.seq ((.seq (.reg [⟨(some 30), .lo (.mv (.t 0)), none⟩,
  ⟨(some 31), .lo (.len 0 (.t 30)), none⟩,
  ⟨(some 32), .lo (.mv (.c (.int .i64 0))), none⟩])
 (.block 0 (.loop ((.seq (.reg [⟨(some 33), .lo (.ari .lss (.t 32) (.t 31)), none⟩])
 ((.seq (.cond (.t 33) (.skip) (.exit 0))
 ((.seq (.block 1 ((.seq (.reg [⟨(some 34), .lo (.mv (.t 32)), none⟩,
  ⟨(some 35), .lo (.isl 2 (.t 30) (.t 32)), none⟩,
  ⟨(some 36), .lo (.load true 2 (.t 35)), none⟩,
  ⟨(some 16), .lo (.alloc (.st (.cons (.int .u64) (.cons (.int .u64) .nil)))), none⟩,
  ⟨(some 15), .lo (.mv (.t 34)), none⟩,
  ⟨none, .lo (.store 2 (.t 16) (.t 36)), none⟩])
 ((.seq ((.seq (.reg [⟨(some 37), .lo (.mv (.t 15)), none⟩,
  ⟨(some 38), .lo (.ari .geq (.t 37) (.c (.int .i64 100))), none⟩])
 (.cond (.t 38) (.exit 0) (.skip))))
 (.regd [⟨0, 0, ⟨(some 39), .lo (.mv (.t 12)), none⟩⟩,
  ⟨1, 0, ⟨(some 40), .lo (.fadr 0 (.t 16)), none⟩⟩,
  ⟨2, 2, ⟨(some 41), .lo (.load false 1 (.t 40)), none⟩⟩,
  ⟨3, 6, ⟨(some 42), .lo (.ari .rem (.t 41) (.c (.int .u64 8192))), none⟩⟩,
  ⟨4, 0, ⟨(some 43), .lo (.mv (.t 14)), none⟩⟩,
  ⟨5, 16, ⟨(some 44), .lo (.nilc (.t 43)), none⟩⟩,
  ⟨6, 48, ⟨(some 45), .lo (.fadr 0 (.t 44)), none⟩⟩,
  ⟨7, 112, ⟨(some 46), .lo (.load false 1 (.t 45)), none⟩⟩,
  ⟨11, 0, ⟨(some 50), .lo (.fadr 1 (.t 16)), none⟩⟩,
  ⟨12, 256, ⟨(some 51), .lo (.load false 1 (.t 50)), none⟩⟩,
  ⟨15, 1, ⟨(some 54), .lo (.nilc (.t 39)), none⟩⟩,
  ⟨16, 1025, ⟨(some 55), .lo (.fadr 0 (.t 54)), none⟩⟩,
  ⟨17, 4095, ⟨(some 56), .lo (.iarr 8192 1 (.t 55) (.t 42)), none⟩⟩,
  ⟨18, 8191, ⟨none, .lo (.store 1 (.t 56) (.t 51)), none⟩⟩,
  ⟨8, 0, ⟨(some 47), .lo (.fadr 0 (.t 16)), none⟩⟩,
  ⟨9, 16384, ⟨(some 48), .lo (.load false 1 (.t 47)), none⟩⟩,
  ⟨10, 49152, ⟨(some 49), .lo (.ari .rem (.t 48) (.c (.int .u64 8192))), none⟩⟩,
  ⟨13, 0, ⟨(some 52), .lo (.fadr 1 (.t 16)), none⟩⟩,
  ⟨14, 131072, ⟨(some 53), .lo (.load false 1 (.t 52)), none⟩⟩,
  ⟨19, 524287, ⟨(some 57), .lo (.isl 1 (.t 46) (.t 49)), none⟩⟩,
  ⟨20, 1048575, ⟨none, .lo (.store 1 (.t 57) (.t 53)), none⟩⟩]))))))
 (.reg [⟨(some 58), .lo (.ari .add (.t 32) (.c (.int .i64 1))), none⟩,
  ⟨(some 32), .lo (.mv (.t 58)), none⟩])))))))))))
 ((.seq ((.seq (.reg [⟨(some 59), .lo (.mv (.t 1)), none⟩,
  ⟨(some 60), .lo (.len 0 (.t 59)), none⟩,
  ⟨(some 61), .lo (.mm false (.c (.int .i64 16)) (.t 60)), none⟩,
  ⟨(some 62), .lo (.mv (.c (.int .i64 0))), none⟩])
 (.block 2 (.loop ((.seq (.reg [⟨(some 63), .lo (.ari .lss (.t 62) (.t 61)), none⟩])
 ((.seq (.cond (.t 63) (.skip) (.exit 2))
 ((.seq (.block 3 ((.seq (.reg [⟨(some 64), .lo (.mv (.t 62)), none⟩,
  ⟨(some 17), .lo (.mv (.t 64)), none⟩])
 (.regd [⟨0, 0, ⟨(some 65), .lo (.mv (.t 12)), none⟩⟩,
  ⟨1, 0, ⟨(some 66), .lo (.mv (.t 17)), none⟩⟩,
  ⟨2, 0, ⟨(some 67), .lo (.mv (.t 14)), none⟩⟩,
  ⟨3, 4, ⟨(some 68), .lo (.nilc (.t 67)), none⟩⟩,
  ⟨4, 12, ⟨(some 69), .lo (.fadr 1 (.t 68)), none⟩⟩,
  ⟨5, 28, ⟨(some 70), .lo (.load false 1 (.t 69)), none⟩⟩,
  ⟨7, 0, ⟨(some 72), .lo (.mv (.t 1)), none⟩⟩,
  ⟨8, 0, ⟨(some 73), .lo (.mv (.t 17)), none⟩⟩,
  ⟨9, 192, ⟨(some 74), .lo (.isl 1 (.t 72) (.t 73)), none⟩⟩,
  ⟨10, 448, ⟨(some 75), .lo (.load false 1 (.t 74)), none⟩⟩,
  ⟨11, 0, ⟨(some 76), .lo (.mv (.t 1)), none⟩⟩,
  ⟨12, 0, ⟨(some 77), .lo (.mv (.t 17)), none⟩⟩,
  ⟨13, 3072, ⟨(some 78), .lo (.isl 1 (.t 76) (.t 77)), none⟩⟩,
  ⟨14, 7168, ⟨(some 79), .lo (.load false 1 (.t 78)), none⟩⟩,
  ⟨15, 1, ⟨(some 80), .lo (.nilc (.t 65)), none⟩⟩,
  ⟨16, 16385, ⟨(some 81), .lo (.fadr 8192 (.t 80)), none⟩⟩,
  ⟨17, 65535, ⟨(some 82), .lo (.iarr 16 1 (.t 81) (.t 66)), none⟩⟩,
  ⟨18, 131071, ⟨none, .lo (.store 1 (.t 82) (.t 75)), none⟩⟩,
  ⟨6, 0, ⟨(some 71), .lo (.mv (.t 17)), none⟩⟩,
  ⟨19, 524287, ⟨(some 83), .lo (.isl 1 (.t 70) (.t 71)), none⟩⟩,
  ⟨20, 1048575, ⟨none, .lo (.store 1 (.t 83) (.t 79)), none⟩⟩]))))
 (.reg [⟨(some 84), .lo (.ari .add (.t 62) (.c (.int .i64 1))), none⟩,
  ⟨(some 62), .lo (.mv (.t 84)), none⟩])))))))))))
 ((.seq (.reg [⟨(some 85), .lo (.mv (.t 12)), none⟩,
  ⟨(some 86), .lo (.mv (.t 12)), none⟩,
  ⟨(some 87), .lo (.mv (.t 12)), none⟩,
  ⟨(some 88), .lo (.mv (.t 2)), none⟩,
  ⟨(some 89), .lo (.mv (.t 3)), none⟩,
  ⟨(some 90), .lo (.mv (.t 4)), none⟩,
  ⟨(some 91), .lo (.nilc (.t 85)), none⟩,
  ⟨(some 92), .lo (.fadr 8208 (.t 91)), none⟩,
  ⟨none, .lo (.store 1 (.t 92) (.t 88)), none⟩,
  ⟨(some 93), .lo (.nilc (.t 86)), none⟩,
  ⟨(some 94), .lo (.fadr 8210 (.t 93)), none⟩,
  ⟨none, .lo (.store 1 (.t 94) (.t 89)), none⟩,
  ⟨(some 95), .lo (.nilc (.t 87)), none⟩,
  ⟨(some 96), .lo (.fadr 8209 (.t 95)), none⟩,
  ⟨none, .lo (.store 1 (.t 96) (.t 90)), none⟩])
 ((.seq (.reg [⟨(some 97), .lo (.mv (.t 14)), none⟩,
  ⟨(some 98), .lo (.mv (.t 14)), none⟩,
  ⟨(some 99), .lo (.mv (.t 14)), none⟩,
  ⟨(some 100), .lo (.mv (.t 2)), none⟩,
  ⟨(some 101), .lo (.mv (.t 3)), none⟩,
  ⟨(some 102), .lo (.mv (.t 4)), none⟩,
  ⟨(some 103), .lo (.nilc (.t 97)), none⟩,
  ⟨(some 104), .lo (.fadr 2 (.t 103)), none⟩,
  ⟨none, .lo (.store 1 (.t 104) (.t 100)), none⟩,
  ⟨(some 105), .lo (.nilc (.t 98)), none⟩,
  ⟨(some 106), .lo (.fadr 4 (.t 105)), none⟩,
  ⟨none, .lo (.store 1 (.t 106) (.t 101)), none⟩,
  ⟨(some 107), .lo (.nilc (.t 99)), none⟩,
  ⟨(some 108), .lo (.fadr 3 (.t 107)), none⟩,
  ⟨none, .lo (.store 1 (.t 108) (.t 102)), none⟩])
 ((.seq (.reg [⟨(some 109), .lo (.mv (.t 12)), none⟩,
  ⟨(some 110), .lo (.mv (.t 14)), none⟩,
  ⟨(some 10), .lo (.mv (.t 109)), none⟩,
  ⟨(some 11), .lo (.mv (.t 110)), none⟩])
 (.ret))))))))))))))))))
def f46 : LF := ⟨c46, 5, 0, 111, [.tmp 10, .tmp 11]⟩

/-- moot/mootlaw11.fixed -/
def c47 : LC := (.seq (.reg [⟨(some 0), .lo (.mv (.c (.bool false))), none⟩])
 ((.seq (.reg [⟨(some 13), .call 46 [(.c .nils), (.c .nils), (.c (.int .u64 0)), (.c (.int .u64 0)), (.c (.bool false))], none⟩,
  ⟨(some 12), .lo (.mv (.t 13)), none⟩,
  ⟨(some 14), .lo (.ext (.t 12) 0), none⟩,
  ⟨(some 15), .lo (.ext (.t 12) 1), none⟩,
  ⟨(some 1), .lo (.mv (.t 14)), none⟩,
  ⟨(some 2), .lo (.mv (.t 15)), none⟩])
 ((.seq (.reg [⟨(some 17), .call 197 [(.c (.int .i64 13))], none⟩,
  ⟨(some 16), .lo (.mv (.t 17)), none⟩,
  ⟨(some 18), .lo (.ext (.t 16) 0), none⟩,
  ⟨(some 19), .lo (.ext (.t 16) 1), none⟩,
  ⟨(some 3), .lo (.alloc (.ar 32 (.int .u8))), none⟩,
  ⟨none, .lo (.store 32 (.t 3) (.t 18)), none⟩,
  ⟨(some 4), .lo (.mv (.t 19)), none⟩])
 ((.seq ((.seq (.reg [⟨(some 20), .lo (.mv (.t 1)), none⟩,
  ⟨(some 21), .lo (.eq false true .ptr (.t 20) (.c .nilp)), none⟩,
  ⟨(some 22), .lo (.mv (.t 21)), none⟩,
  ⟨(some 23), .lo (.mv (.t 4)), (some (22, false))⟩,
  ⟨(some 24), .lo (.eq true true (.iface [74]) (.t 23) (.c .nili)), (some (22, false))⟩,
  ⟨(some 25), .lo (.pick (.t 22) (.c (.bool true)) (.t 24)), none⟩])
 (.cond (.t 25) ((.seq (.reg [⟨(some 0), .lo (.mv (.c (.bool false))), none⟩])
 (.ret))) (.skip))))
 ((.seq (.reg [⟨(some 27), .lo (.mv (.t 1)), none⟩,
  ⟨(some 28), .call 51 [(.t 27)], none⟩,
  ⟨(some 26), .lo (.mv (.t 28)), none⟩,
  ⟨(some 29), .lo (.ext (.t 26) 0), none⟩,
  ⟨(some 30), .lo (.ext (.t 26) 1), none⟩,
  ⟨(some 5), .lo (.alloc (.ar 32 (.int .u8))), none⟩,
  ⟨none, .lo (.store 32 (.t 5) (.t 29)), none⟩,
  ⟨(some 4), .lo (.mv (.t 30)), none⟩])
 ((.seq (.reg [⟨(some 32), .lo (.mv (.t 1)), none⟩,
  ⟨(some 33), .call 50 [(.t 32), (.c (.int .u64 5))], none⟩,
  ⟨(some 31), .lo (.mv (.t 33)), none⟩,
  ⟨(some 34), .lo (.ext (.t 31) 0), none⟩,
  ⟨(some 35), .lo (.ext (.t 31) 1), none⟩,
  ⟨(some 6), .lo (.alloc (.st (.cons (.int .u64) (.cons .slice .nil)))), none⟩,
  ⟨none, .lo (.store 2 (.t 6) (.t 34)), none⟩,
  ⟨(some 7), .lo (.mv (.t 35)), none⟩])
 ((.seq (.reg [⟨(some 37), .lo (.load true 32 (.t 3)), none⟩,
  ⟨(some 38), .lo (.load true 2 (.t 6)), none⟩,
  ⟨(some 39), .call 53 [(.t 37), (.c (.int .u64 5)), (.t 38)], none⟩,
  ⟨(some 36), .lo (.mv (.t 39)), none⟩,
  ⟨(some 40), .lo (.ext (.t 36) 0), none⟩,
  ⟨(some 41), .lo (.ext (.t 36) 1), none⟩,
  ⟨(some 8), .lo (.mv (.t 40)), none⟩,
  ⟨(some 9), .lo (.mv (.t 41)), none⟩])
 ((.seq (.reg [⟨(some 42), .lo (.fadr 0 (.t 6)), none⟩,
  ⟨none, .lo (.store 1 (.t 42) (.c (.int .u64 1))), none⟩])
 ((.seq (.reg [⟨(some 44), .lo (.load true 32 (.t 3)), none⟩,
  ⟨(some 45), .lo (.load true 2 (.t 6)), none⟩,
  ⟨(some 46), .call 53 [(.t 44), (.c (.int .u64 5)), (.t 45)], none⟩,
  ⟨(some 43), .lo (.mv (.t 46)), none⟩,
  ⟨(some 47), .lo (.ext (.t 43) 0), none⟩,
  ⟨(some 48), .lo (.ext (.t 43) 1), none⟩,
  ⟨(some 10), .lo (.mv (.t 47)), none⟩,
  ⟨(some 11), .lo (.mv (.t 48)), none⟩])
 ((.seq (.reg [⟨(some 49), .lo (.mv (.t 4)), none⟩,
  ⟨(some 50), .lo (.eq false true (.iface [74]) (.t 49) (.c .nili)), none⟩,
  ⟨(some 51), .lo (.mv (.t 50)), none⟩,
  ⟨(some 52), .lo (.load true 32 (.t 5)), (some (51, true))⟩,
  ⟨(some 53), .lo (.load true 32 (.t 3)), (some (51, true))⟩,
  ⟨(some 54), .lo (.eq false false (.ar 32 1 false .int) (.t 52) (.t 53)), (some (51, true))⟩,
  ⟨(some 55), .lo (.pick (.t 51) (.t 54) (.c (.bool false))), none⟩,
  ⟨(some 56), .lo (.mv (.t 55)), none⟩,
  ⟨(some 57), .lo (.mv (.t 7)), (some (56, true))⟩,
  ⟨(some 58), .lo (.eq false true (.iface [74]) (.t 57) (.c .nili)), (some (56, true))⟩,
  ⟨(some 59), .lo (.pick (.t 56) (.t 58) (.c (.bool false))), none⟩,
  ⟨(some 60), .lo (.mv (.t 59)), none⟩,
  ⟨(some 61), .lo (.mv (.t 9)), (some (60, true))⟩,
  ⟨(some 62), .lo (.eq false true (.iface [74]) (.t 61) (.c .nili)), (some (60, true))⟩,
  ⟨(some 63), .lo (.pick (.t 60) (.t 62) (.c (.bool false))), none⟩,
  ⟨(some 64), .lo (.mv (.t 63)), none⟩,
  ⟨(some 65), .lo (.mv (.t 8)), (some (64, true))⟩,
  ⟨(some 66), .lo (.pick (.t 64) (.t 65) (.c (.bool false))), none⟩,
  ⟨(some 67), .lo (.mv (.t 66)), none⟩,
  ⟨(some 68), .lo (.mv (.t 11)), (some (67, true))⟩,
  ⟨(some 69), .lo (.eq false true (.iface [74]) (.t 68) (.c .nili)), (some (67, true))⟩,
  ⟨(some 70), .lo (.pick (.t 67) (.t 69) (.c (.bool false))), none⟩,
  ⟨(some 71), .lo (.mv (.t 70)), none⟩,
  ⟨(some 72), .lo (.mv (.t 10)), (some (71, true))⟩,
  ⟨(some 73), .lo (.un .not (.t 72)), (some (71, true))⟩,
  ⟨(some 74), .lo (.pick (.t 71) (.t 73) (.c (.bool false))), none⟩,
  ⟨(some 75), .lo (.mv (.t 74)), none⟩,
  ⟨(some 76), .lo (.fadr 1 (.t 6)), (some (75, true))⟩,
  ⟨(some 77), .lo (.load false 1 (.t 76)), (some (75, true))⟩,
  ⟨(some 78), .lo (.len 0 (.t 77)), (some (75, true))⟩,
  ⟨(some 79), .lo (.ari .eql (.t 78) (.c (.int .i64 13))), (some (75, true))⟩,
  ⟨(some 80), .lo (.pick (.t 75) (.t 79) (.c (.bool false))), none⟩,
  ⟨(some 81), .lo (.mv (.t 80)), none⟩,
  ⟨(some 82), .lo (.pick (.t 81) (.c (.bool true)) (.c (.bool false))), none⟩,
  ⟨(some 0), .lo (.mv (.t 82)), none⟩])
 (.ret))))))))))))))))))))
def f47 : LF := ⟨c47, 0, 0, 83, [.tmp 0]⟩

/-- moot/mootlaw11.CommitOrder$1 -/
def c48 : LC := (.seq (.reg [⟨(some 3), .lo (.box (.t 0)), none⟩,
  ⟨(some 4), .lo (.mv (.c (.int .u64 0))), none⟩,
  ⟨(some 5), .lo (.mv (.c (.bool false))), none⟩])
 ((.seq (.reg [⟨(some 17), .lo (.load false 1 (.t 1)), none⟩,
  ⟨(some 18), .call 49 [(.t 17)], none⟩,
  ⟨(some 6), .lo (.mv (.t 18)), none⟩])
 ((.seq ((.seq (.reg [⟨(some 19), .lo (.load true 4 (.t 3)), none⟩,
  ⟨(some 20), .lo (.mv (.c (.int .i64 0))), none⟩])
 (.block 0 (.loop ((.seq (.reg [⟨(some 21), .lo (.ari .lss (.t 20) (.c (.int .i64 2))), none⟩])
 ((.seq (.cond (.t 21) (.skip) (.exit 0))
 ((.seq (.block 1 ((.seq (.reg [⟨(some 22), .lo (.idx 2 2 true (.t 19) (.t 20)), none⟩,
  ⟨(some 8), .lo (.alloc (.st (.cons (.int .u64) (.cons (.int .u64) .nil)))), none⟩,
  ⟨none, .lo (.store 2 (.t 8) (.t 22)), none⟩])
 ((.seq (.reg [⟨(some 24), .lo (.mv (.t 6)), none⟩,
  ⟨(some 25), .lo (.fadr 0 (.t 8)), none⟩,
  ⟨(some 26), .lo (.load false 1 (.t 25)), none⟩,
  ⟨(some 27), .lo (.ari .rem (.t 26) (.c (.int .u64 8192))), none⟩,
  ⟨(some 28), .call 50 [(.t 24), (.t 27)], none⟩,
  ⟨(some 23), .lo (.mv (.t 28)), none⟩,
  ⟨(some 29), .lo (.ext (.t 23) 0), none⟩,
  ⟨(some 30), .lo (.ext (.t 23) 1), none⟩,
  ⟨(some 9), .lo (.alloc (.st (.cons (.int .u64) (.cons .slice .nil)))), none⟩,
  ⟨none, .lo (.store 2 (.t 9) (.t 29)), none⟩,
  ⟨(some 10), .lo (.mv (.t 30)), none⟩])
 ((.seq (.reg [⟨(some 32), .lo (.mv (.t 6)), none⟩,
  ⟨(some 33), .call 51 [(.t 32)], none⟩,
  ⟨(some 31), .lo (.mv (.t 33)), none⟩,
  ⟨(some 34), .lo (.ext (.t 31) 0), none⟩,
  ⟨(some 35), .lo (.ext (.t 31) 1), none⟩,
  ⟨(some 11), .lo (.alloc (.ar 32 (.int .u8))), none⟩,
  ⟨none, .lo (.store 32 (.t 11) (.t 34)), none⟩,
  ⟨(some 12), .lo (.mv (.t 35)), none⟩])
 ((.seq (.reg [⟨(some 37), .lo (.load true 32 (.t 11)), none⟩,
  ⟨(some 38), .lo (.fadr 0 (.t 8)), none⟩,
  ⟨(some 39), .lo (.load false 1 (.t 38)), none⟩,
  ⟨(some 40), .lo (.ari .rem (.t 39) (.c (.int .u64 8192))), none⟩,
  ⟨(some 41), .lo (.load true 2 (.t 9)), none⟩,
  ⟨(some 42), .lo (.fadr 1 (.t 8)), none⟩,
  ⟨(some 43), .lo (.load false 1 (.t 42)), none⟩,
  ⟨(some 44), .call 52 [(.t 37), (.t 40), (.t 41), (.t 43)], none⟩,
  ⟨(some 36), .lo (.mv (.t 44)), none⟩,
  ⟨(some 45), .lo (.ext (.t 36) 0), none⟩,
  ⟨(some 46), .lo (.ext (.t 36) 1), none⟩,
  ⟨(some 13), .lo (.alloc (.ar 32 (.int .u8))), none⟩,
  ⟨none, .lo (.store 32 (.t 13) (.t 45)), none⟩,
  ⟨(some 14), .lo (.mv (.t 46)), none⟩])
 ((.seq (.regd [⟨0, 0, ⟨(some 47), .lo (.mv (.t 6)), none⟩⟩,
  ⟨1, 0, ⟨(some 48), .lo (.fadr 0 (.t 8)), none⟩⟩,
  ⟨2, 2, ⟨(some 49), .lo (.load false 1 (.t 48)), none⟩⟩,
  ⟨3, 6, ⟨(some 50), .lo (.ari .rem (.t 49) (.c (.int .u64 8192))), none⟩⟩,
  ⟨4, 0, ⟨(some 51), .lo (.fadr 1 (.t 8)), none⟩⟩,
  ⟨5, 16, ⟨(some 52), .lo (.load false 1 (.t 51)), none⟩⟩,
  ⟨6, 1, ⟨(some 53), .lo (.nilc (.t 47)), none⟩⟩,
  ⟨7, 65, ⟨(some 54), .lo (.fadr 0 (.t 53)), none⟩⟩,
  ⟨8, 255, ⟨(some 55), .lo (.iarr 8192 1 (.t 54) (.t 50)), none⟩⟩,
  ⟨9, 511, ⟨none, .lo (.store 1 (.t 55) (.t 52)), none⟩⟩])
 ((.seq (.reg [⟨(some 57), .lo (.mv (.t 6)), none⟩,
  ⟨(some 58), .call 51 [(.t 57)], none⟩,
  ⟨(some 56), .lo (.mv (.t 58)), none⟩,
  ⟨(some 59), .lo (.ext (.t 56) 0), none⟩,
  ⟨(some 60), .lo (.ext (.t 56) 1), none⟩,
  ⟨(some 15), .lo (.alloc (.ar 32 (.int .u8))), none⟩,
  ⟨none, .lo (.store 32 (.t 15) (.t 59)), none⟩,
  ⟨(some 16), .lo (.mv (.t 60)), none⟩])
 ((.seq (.reg [⟨(some 61), .lo (.mv (.t 10)), none⟩,
  ⟨(some 62), .lo (.eq true true (.iface [74]) (.t 61) (.c .nili)), none⟩,
  ⟨(some 63), .lo (.mv (.t 62)), none⟩,
  ⟨(some 64), .lo (.mv (.t 12)), (some (63, false))⟩,
  ⟨(some 65), .lo (.eq true true (.iface [74]) (.t 64) (.c .nili)), (some (63, false))⟩,
  ⟨(some 66), .lo (.pick (.t 63) (.c (.bool true)) (.t 65)), none⟩,
  ⟨(some 67), .lo (.mv (.t 66)), none⟩,
  ⟨(some 68), .lo (.mv (.t 14)), (some (67, false))⟩,
  ⟨(some 69), .lo (.eq true true (.iface [74]) (.t 68) (.c .nili)), (some (67, false))⟩,
  ⟨(some 70), .lo (.pick (.t 67) (.c (.bool true)) (.t 69)), none⟩,
  ⟨(some 71), .lo (.mv (.t 70)), none⟩,
  ⟨(some 72), .lo (.mv (.t 16)), (some (71, false))⟩,
  ⟨(some 73), .lo (.eq true true (.iface [74]) (.t 72) (.c .nili)), (some (71, false))⟩,
  ⟨(some 74), .lo (.pick (.t 71) (.c (.bool true)) (.t 73)), none⟩,
  ⟨(some 75), .lo (.mv (.t 74)), none⟩,
  ⟨(some 76), .lo (.load true 32 (.t 13)), (some (75, false))⟩,
  ⟨(some 77), .lo (.load true 32 (.t 15)), (some (75, false))⟩,
  ⟨(some 78), .lo (.eq true false (.ar 32 1 false .int) (.t 76) (.t 77)), (some (75, false))⟩,
  ⟨(some 79), .lo (.pick (.t 75) (.c (.bool true)) (.t 78)), none⟩])
 (.cond (.t 79) ((.seq (.reg [⟨(some 4), .lo (.mv (.c (.int .u64 0))), none⟩,
  ⟨(some 5), .lo (.mv (.c (.bool false))), none⟩])
 (.ret))) (.skip)))))))))))))))))
 (.reg [⟨(some 80), .lo (.ari .add (.t 20) (.c (.int .i64 1))), none⟩,
  ⟨(some 20), .lo (.mv (.t 80)), none⟩])))))))))))
 ((.seq (.regd [⟨0, 0, ⟨(some 81), .lo (.mv (.t 6)), none⟩⟩,
  ⟨1, 0, ⟨(some 82), .lo (.load false 1 (.t 2)), none⟩⟩,
  ⟨2, 1, ⟨(some 83), .lo (.nilc (.t 81)), none⟩⟩,
  ⟨3, 5, ⟨(some 84), .lo (.fadr 0 (.t 83)), none⟩⟩,
  ⟨4, 15, ⟨(some 85), .lo (.iarr 8192 1 (.t 84) (.t 82)), none⟩⟩,
  ⟨5, 31, ⟨(some 86), .lo (.load false 1 (.t 85)), none⟩⟩,
  ⟨6, 63, ⟨(some 4), .lo (.mv (.t 86)), none⟩⟩,
  ⟨7, 127, ⟨(some 5), .lo (.mv (.c (.bool true))), none⟩⟩])
 (.ret))))))))
def f48 : LF := ⟨c48, 1, 2, 87, [.tmp 4, .tmp 5]⟩

/-- (*moot/vm.Machine).Copy -/
def c49 : LC := (.seq (.reg [⟨(some 2), .lo (.mv (.c .nilp)), none⟩])
 ((.seq ((.seq (.reg [⟨(some 4), .lo (.mv (.t 0)), none⟩,
  ⟨(some 5), .lo (.eq false true .ptr (.t 4) (.c .nilp)), none⟩])
 (.cond (.t 5) ((.seq (.reg [⟨(some 2), .lo (.mv (.c .nilp)), none⟩])
 (.ret))) (.skip))))
 ((.seq (.reg [⟨(some 6), .lo (.mv (.t 0)), none⟩,
  ⟨(some 7), .lo (.nilc (.t 6)), none⟩,
  ⟨(some 8), .lo (.load true 8211 (.t 7)), none⟩,
  ⟨(some 3), .lo (.alloc (.st (.cons (.ar 8192 (.int .u64)) (.cons (.ar 16 (.int .u64)) (.cons (.int .u64) (.cons .bool (.cons (.int .u64) .nil))))))), none⟩,
  ⟨none, .lo (.store 8211 (.t 3) (.t 8)), none⟩])
 ((.seq (.reg [⟨(some 2), .lo (.mv (.t 3)), none⟩])
 (.ret))))))))
def f49 : LF := ⟨c49, 1, 0, 9, [.tmp 2]⟩

/-- moot/commit.Prove -/
def c50 : LC := (.seq (.reg [⟨(some 4), .lo (.alloc (.st (.cons (.int .u64) (.cons .slice .nil)))), none⟩,
  ⟨(some 5), .lo (.mv (.c .nili)), none⟩])
 ((.seq (.block 0 ((.seq (.reg [⟨(some 9), .lo (.mv (.t 0)), none⟩,
  ⟨(some 10), .lo (.eq false true .ptr (.t 9) (.c .nilp)), none⟩,
  ⟨(some 8), .lo (.mv (.t 10)), none⟩])
 (.cond (.t 8) ((.seq (.reg [⟨(some 11), .lo (.build (.st (.cons (.int .u64) (.cons .slice .nil))) []), none⟩,
  ⟨(some 12), .lo (.mkif 74 (.c (.int .i64 1))), none⟩,
  ⟨none, .lo (.store 2 (.t 4) (.t 11)), none⟩,
  ⟨(some 5), .lo (.mv (.t 12)), none⟩])
 (.ret))) ((.seq (.reg [⟨(some 14), .lo (.mv (.t 1)), none⟩,
  ⟨(some 15), .lo (.ari .geq (.t 14) (.c (.int .u64 8192))), none⟩,
  ⟨(some 13), .lo (.mv (.t 15)), none⟩])
 (.cond (.t 13) ((.seq (.reg [⟨(some 16), .lo (.build (.st (.cons (.int .u64) (.cons .slice .nil))) []), none⟩,
  ⟨(some 17), .lo (.mkif 74 (.c (.int .i64 2))), none⟩,
  ⟨none, .lo (.store 2 (.t 4) (.t 16)), none⟩,
  ⟨(some 5), .lo (.mv (.t 17)), none⟩])
 (.ret))) (.skip))))))))
 ((.seq (.reg [⟨(some 19), .lo (.mv (.t 0)), none⟩,
  ⟨(some 20), .call 199 [(.t 19)], none⟩,
  ⟨(some 21), .lo (.mv (.t 1)), none⟩,
  ⟨(some 22), .lo (.conv .i64 (.t 21)), none⟩,
  ⟨(some 23), .call 198 [(.c (.int .i64 13)), (.t 20), (.t 22)], none⟩,
  ⟨(some 18), .lo (.mv (.t 23)), none⟩,
  ⟨(some 24), .lo (.ext (.t 18) 0), none⟩,
  ⟨(some 25), .lo (.ext (.t 18) 1), none⟩,
  ⟨(some 6), .lo (.mv (.t 24)), none⟩,
  ⟨(some 7), .lo (.mv (.t 25)), none⟩])
 ((.seq (.reg [⟨(some 26), .lo (.mv (.t 0)), none⟩,
  ⟨(some 27), .lo (.mv (.t 1)), none⟩,
  ⟨(some 28), .lo (.nilc (.t 26)), none⟩,
  ⟨(some 29), .lo (.fadr 0 (.t 28)), none⟩,
  ⟨(some 30), .lo (.iarr 8192 1 (.t 29) (.t 27)), none⟩,
  ⟨(some 31), .lo (.load false 1 (.t 30)), none⟩,
  ⟨(some 32), .lo (.mv (.t 6)), none⟩,
  ⟨(some 33), .lo (.build (.st (.cons (.int .u64) (.cons .slice .nil))) [(.f 0, 1, (.t 31)), (.f 1, 1, (.t 32))]), none⟩,
  ⟨(some 34), .lo (.mv (.t 7)), none⟩,
  ⟨none, .lo (.store 2 (.t 4) (.t 33)), none⟩,
  ⟨(some 5), .lo (.mv (.t 34)), none⟩])
 (.ret))))))))
def f50 : LF := ⟨c50, 2, 0, 35, [.cell 4 true 2, .tmp 5]⟩

/-- moot/commit.Root -/
def c51 : LC := (.seq (.reg [⟨(some 2), .lo (.alloc (.ar 32 (.int .u8))), none⟩,
  ⟨(some 3), .lo (.mv (.c .nili)), none⟩])
 ((.seq ((.seq (.reg [⟨(some 4), .lo (.mv (.t 0)), none⟩,
  ⟨(some 5), .lo (.eq false true .ptr (.t 4) (.c .nilp)), none⟩])
 (.cond (.t 5) ((.seq (.reg [⟨(some 6), .lo (.build (.ar 32 (.int .u8)) []), none⟩,
  ⟨(some 7), .lo (.mkif 74 (.c (.int .i64 1))), none⟩,
  ⟨none, .lo (.store 32 (.t 2) (.t 6)), none⟩,
  ⟨(some 3), .lo (.mv (.t 7)), none⟩])
 (.ret))) (.skip))))
 ((.seq (.reg [⟨(some 8), .lo (.mv (.t 0)), none⟩,
  ⟨(some 9), .call 199 [(.t 8)], none⟩,
  ⟨(some 10), .call 200 [(.c (.int .i64 13)), (.t 9)], none⟩,
  ⟨(some 11), .lo (.ext (.t 10) 0), none⟩,
  ⟨(some 12), .lo (.ext (.t 10) 1), none⟩,
  ⟨none, .lo (.store 32 (.t 2) (.t 11)), none⟩,
  ⟨(some 3), .lo (.mv (.t 12)), none⟩])
 (.ret))))))
def f51 : LF := ⟨c51, 1, 0, 13, [.cell 2 true 32, .tmp 3]⟩

/-- moot/commit.Write -/
def c52 : LC := (.seq (.reg [⟨(some 4), .lo (.box (.t 0)), none⟩,
  ⟨(some 6), .lo (.box (.t 2)), none⟩,
  ⟨(some 8), .lo (.alloc (.ar 32 (.int .u8))), none⟩,
  ⟨(some 9), .lo (.mv (.c .nili)), none⟩])
 ((.seq (.reg [⟨(some 13), .lo (.load true 32 (.t 4)), none⟩,
  ⟨(some 14), .lo (.mv (.t 1)), none⟩,
  ⟨(some 15), .lo (.load true 2 (.t 6)), none⟩,
  ⟨(some 16), .call 53 [(.t 13), (.t 14), (.t 15)], none⟩,
  ⟨(some 12), .lo (.mv (.t 16)), none⟩,
  ⟨(some 17), .lo (.ext (.t 12) 0), none⟩,
  ⟨(some 18), .lo (.ext (.t 12) 1), none⟩,
  ⟨(some 10), .lo (.mv (.t 17)), none⟩,
  ⟨(some 11), .lo (.mv (.t 18)), none⟩])
 ((.seq (.block 0 ((.seq (.reg [⟨(some 20), .lo (.mv (.t 11)), none⟩,
  ⟨(some 21), .lo (.eq true true (.iface [74]) (.t 20) (.c .nili)), none⟩,
  ⟨(some 19), .lo (.mv (.t 21)), none⟩])
 (.cond (.t 19) ((.seq (.reg [⟨(some 22), .lo (.build (.ar 32 (.int .u8)) []), none⟩,
  ⟨(some 23), .lo (.mv (.t 11)), none⟩,
  ⟨none, .lo (.store 32 (.t 8) (.t 22)), none⟩,
  ⟨(some 9), .lo (.mv (.t 23)), none⟩])
 (.ret))) ((.seq (.reg [⟨(some 25), .lo (.mv (.t 10)), none⟩,
  ⟨(some 26), .lo (.un .not (.t 25)), none⟩,
  ⟨(some 24), .lo (.mv (.t 26)), none⟩])
 (.cond (.t 24) ((.seq (.reg [⟨(some 27), .lo (.build (.ar 32 (.int .u8)) []), none⟩,
  ⟨(some 28), .lo (.mkif 74 (.c (.int .i64 31))), none⟩,
  ⟨none, .lo (.store 32 (.t 8) (.t 27)), none⟩,
  ⟨(some 9), .lo (.mv (.t 28)), none⟩])
 (.ret))) (.skip))))))))
 ((.seq (.regd [⟨2, 0, ⟨(some 31), .lo (.mv (.t 3)), none⟩⟩,
  ⟨3, 1, ⟨(some 32), .call 202 [(.t 31)], none⟩⟩,
  ⟨0, 0, ⟨(some 29), .lo (.mv (.t 1)), none⟩⟩,
  ⟨1, 4, ⟨(some 30), .lo (.conv .i64 (.t 29)), none⟩⟩,
  ⟨4, 0, ⟨(some 33), .lo (.fadr 1 (.t 6)), none⟩⟩,
  ⟨5, 16, ⟨(some 34), .lo (.load false 1 (.t 33)), none⟩⟩,
  ⟨6, 63, ⟨(some 35), .call 201 [(.t 30), (.t 32), (.t 34)], none⟩⟩,
  ⟨7, 127, ⟨(some 36), .lo (.ext (.t 35) 0), none⟩⟩,
  ⟨8, 127, ⟨(some 37), .lo (.ext (.t 35) 1), none⟩⟩,
  ⟨9, 511, ⟨none, .lo (.store 32 (.t 8) (.t 36)), none⟩⟩,
  ⟨10, 1023, ⟨(some 9), .lo (.mv (.t 37)), none⟩⟩])
 (.ret))))))))
def f52 : LF := ⟨c52, 4, 0, 38, [.cell 8 true 32, .tmp 9]⟩

/-- moot/commit.Holds -/
def c53 : LC := (.seq (.reg [⟨(some 3), .lo (.box (.t 0)), none⟩,
  ⟨(some 5), .lo (.box (.t 2)), none⟩,
  ⟨(some 6), .lo (.mv (.c (.bool false))), none⟩,
  ⟨(some 7), .lo (.mv (.c .nili)), none⟩])
 ((.seq (.block 0 ((.seq (.reg [⟨(some 11), .lo (.mv (.t 1)), none⟩,
  ⟨(some 12), .lo (.ari .geq (.t 11) (.c (.int .u64 8192))), none⟩,
  ⟨(some 10), .lo (.mv (.t 12)), none⟩])
 (.cond (.t 10) ((.seq (.reg [⟨(some 13), .lo (.mkif 74 (.c (.int .i64 2))), none⟩,
  ⟨(some 6), .lo (.mv (.c (.bool false))), none⟩,
  ⟨(some 7), .lo (.mv (.t 13)), none⟩])
 (.ret))) ((.seq (.reg [⟨(some 15), .lo (.fadr 1 (.t 5)), none⟩,
  ⟨(some 16), .lo (.load false 1 (.t 15)), none⟩,
  ⟨(some 17), .lo (.len 0 (.t 16)), none⟩,
  ⟨(some 18), .lo (.ari .neq (.t 17) (.c (.int .i64 13))), none⟩,
  ⟨(some 14), .lo (.mv (.t 18)), none⟩])
 (.cond (.t 14) ((.seq (.reg [⟨(some 19), .lo (.mkif 74 (.c (.int .i64 3))), none⟩,
  ⟨(some 6), .lo (.mv (.c (.bool false))), none⟩,
  ⟨(some 7), .lo (.mv (.t 19)), none⟩])
 (.ret))) (.skip))))))))
 ((.seq (.regd [⟨2, 0, ⟨(some 23), .lo (.fadr 0 (.t 5)), none⟩⟩,
  ⟨3, 1, ⟨(some 24), .lo (.load false 1 (.t 23)), none⟩⟩,
  ⟨4, 3, ⟨(some 25), .call 202 [(.t 24)], none⟩⟩,
  ⟨0, 0, ⟨(some 21), .lo (.mv (.t 1)), none⟩⟩,
  ⟨1, 8, ⟨(some 22), .lo (.conv .i64 (.t 21)), none⟩⟩,
  ⟨5, 0, ⟨(some 26), .lo (.fadr 1 (.t 5)), none⟩⟩,
  ⟨6, 32, ⟨(some 27), .lo (.load false 1 (.t 26)), none⟩⟩,
  ⟨7, 127, ⟨(some 28), .call 201 [(.t 22), (.t 25), (.t 27)], none⟩⟩,
  ⟨8, 255, ⟨(some 20), .lo (.mv (.t 28)), none⟩⟩,
  ⟨9, 511, ⟨(some 29), .lo (.ext (.t 20) 0), none⟩⟩,
  ⟨11, 0, ⟨(some 8), .lo (.alloc (.ar 32 (.int .u8))), none⟩⟩,
  ⟨12, 2047, ⟨none, .lo (.store 32 (.t 8) (.t 29)), none⟩⟩,
  ⟨10, 511, ⟨(some 30), .lo (.ext (.t 20) 1), none⟩⟩,
  ⟨13, 8191, ⟨(some 9), .lo (.mv (.t 30)), none⟩⟩])
 ((.seq (.reg [⟨(some 31), .lo (.load true 32 (.t 8)), none⟩,
  ⟨(some 32), .lo (.load true 32 (.t 3)), none⟩,
  ⟨(some 33), .lo (.eq false false (.ar 32 1 false .int) (.t 31) (.t 32)), none⟩,
  ⟨(some 34), .lo (.mv (.t 33)), none⟩,
  ⟨(some 35), .lo (.mv (.t 9)), (some (34, true))⟩,
  ⟨(some 36), .lo (.eq false true (.iface [74]) (.t 35) (.c .nili)), (some (34, true))⟩,
  ⟨(some 37), .lo (.pick (.t 34) (.t 36) (.c (.bool false))), none⟩,
  ⟨(some 38), .lo (.mv (.t 9)), none⟩,
  ⟨(some 6), .lo (.mv (.t 37)), none⟩,
  ⟨(some 7), .lo (.mv (.t 38)), none⟩])
 (.ret))))))))
def f53 : LF := ⟨c53, 3, 0, 39, [.tmp 6, .tmp 7]⟩

/-- moot/vm.Load -/
def c74 : LC := (.seq (.reg [⟨(some 2), .lo (.mv (.c .nilp)), none⟩,
  ⟨(some 3), .lo (.mv (.c .nili)), none⟩])
 ((.seq ((.seq (.reg [⟨(some 5), .lo (.mv (.t 0)), none⟩,
  ⟨(some 6), .lo (.len 0 (.t 5)), none⟩,
  ⟨(some 7), .lo (.ari .gtr (.t 6) (.c (.int .i64 8192))), none⟩])
 (.cond (.t 7) ((.seq (.reg [⟨(some 8), .lo (.mkif 74 (.c (.int .i64 5))), none⟩,
  ⟨(some 2), .lo (.mv (.c .nilp)), none⟩,
  ⟨(some 3), .lo (.mv (.t 8)), none⟩])
 (.ret))) (.skip))))
 ((.seq (.reg [⟨(some 9), .lo (.build (.st (.cons (.ar 8192 (.int .u64)) (.cons (.ar 16 (.int .u64)) (.cons (.int .u64) (.cons .bool (.cons (.int .u64) .nil)))))) []), none⟩,
  ⟨(some 10), .lo (.box (.t 9)), none⟩,
  ⟨(some 4), .lo (.mv (.t 10)), none⟩])
 ((.seq (.reg [⟨(some 11), .lo (.mv (.t 4)), none⟩,
  ⟨(some 12), .lo (.nilc (.t 11)), none⟩,
  ⟨(some 13), .lo (.fadr 0 (.t 12)), none⟩,
  ⟨(some 14), .lo (.slarr 8192 1 (.t 13) none none), none⟩,
  ⟨(some 15), .lo (.mv (.t 0)), none⟩,
  ⟨(some 16), .lo (.copy 1 (.t 14) (.t 15)), none⟩])
 ((.seq (.reg [⟨(some 17), .lo (.mv (.t 4)), none⟩,
  ⟨(some 2), .lo (.mv (.t 17)), none⟩,
  ⟨(some 3), .lo (.mv (.c .nili)), none⟩])
 (.ret))))))))))
def f74 : LF := ⟨c74, 1, 0, 18, [.tmp 2, .tmp 3]⟩

/-- moot/mootref10.Load -/
def c196 : LC := (.seq (.reg [⟨(some 2), .lo (.mv (.c .nilp)), none⟩])
 ((.seq (.regd [⟨0, 0, ⟨(some 4), .lo (.mksl 1 8 (.int .u64) (.c (.int .i64 8192)) (.c (.int .i64 8192))), none⟩⟩,
  ⟨1, 0, ⟨(some 5), .lo (.mksl 1 8 (.int .u64) (.c (.int .i64 16)) (.c (.int .i64 16))), none⟩⟩,
  ⟨2, 3, ⟨(some 6), .lo (.build (.st (.cons .slice (.cons .slice (.cons (.int .u64) (.cons .bool (.cons (.int .u64) .nil)))))) [(.f 0, 1, (.t 4)), (.f 1, 1, (.t 5))]), none⟩⟩,
  ⟨3, 7, ⟨(some 7), .lo (.box (.t 6)), none⟩⟩,
  ⟨4, 15, ⟨(some 3), .lo (.mv (.t 7)), none⟩⟩])
 ((.seq (.reg [⟨(some 8), .lo (.mv (.t 3)), none⟩,
  ⟨(some 9), .lo (.nilc (.t 8)), none⟩,
  ⟨(some 10), .lo (.fadr 0 (.t 9)), none⟩,
  ⟨(some 11), .lo (.load false 1 (.t 10)), none⟩,
  ⟨(some 12), .lo (.mv (.t 0)), none⟩,
  ⟨(some 13), .lo (.copy 1 (.t 11) (.t 12)), none⟩])
 ((.seq (.reg [⟨(some 14), .lo (.mv (.t 3)), none⟩,
  ⟨(some 2), .lo (.mv (.t 14)), none⟩])
 (.ret))))))))
def f196 : LF := ⟨c196, 1, 0, 15, [.tmp 2]⟩

/-- moot/merkle.Zero -/
def c197 : LC := (.seq (.reg [⟨(some 2), .lo (.alloc (.ar 32 (.int .u8))), none⟩,
  ⟨(some 3), .lo (.mv (.c .nili)), none⟩])
 ((.seq ((.seq (.reg [⟨(some 4), .lo (.mv (.t 0)), none⟩,
  ⟨(some 5), .lo (.ari .lss (.t 4) (.c (.int .i64 0))), none⟩,
  ⟨(some 6), .lo (.mv (.t 5)), none⟩,
  ⟨(some 7), .lo (.mv (.t 0)), (some (6, false))⟩,
  ⟨(some 8), .lo (.ari .gtr (.t 7) (.c (.int .i64 16))), (some (6, false))⟩,
  ⟨(some 9), .lo (.pick (.t 6) (.c (.bool true)) (.t 8)), none⟩])
 (.cond (.t 9) ((.seq (.reg [⟨(some 10), .lo (.build (.ar 32 (.int .u8)) []), none⟩,
  ⟨(some 11), .lo (.mkif 74 (.c (.int .i64 2))), none⟩,
  ⟨none, .lo (.store 32 (.t 2) (.t 10)), none⟩,
  ⟨(some 3), .lo (.mv (.t 11)), none⟩])
 (.ret))) (.skip))))
 ((.seq (.reg [⟨(some 12), .call 315 [], none⟩,
  ⟨(some 13), .lo (.mv (.t 0)), none⟩,
  ⟨(some 14), .lo (.idx 17 32 true (.t 12) (.t 13)), none⟩,
  ⟨none, .lo (.store 32 (.t 2) (.t 14)), none⟩,
  ⟨(some 3), .lo (.mv (.c .nili)), none⟩])
 (.ret))))))
def f197 : LF := ⟨c197, 1, 0, 15, [.cell 2 true 32, .tmp 3]⟩

/-- moot/merkle.Path -/
def c198 : LC := (.seq (.reg [⟨(some 6), .lo (.mv (.c .nils)), none⟩,
  ⟨(some 7), .lo (.mv (.c .nili)), none⟩])
 ((.seq (.reg [⟨(some 16), .lo (.mv (.t 0)), none⟩,
  ⟨(some 17), .lo (.mv (.t 1)), none⟩,
  ⟨(some 18), .call 316 [(.t 16), (.t 17)], none⟩,
  ⟨(some 15), .lo (.mv (.t 18)), none⟩,
  ⟨(some 19), .lo (.ext (.t 15) 0), none⟩,
  ⟨(some 20), .lo (.ext (.t 15) 1), none⟩,
  ⟨(some 21), .lo (.ext (.t 15) 2), none⟩,
  ⟨(some 9), .lo (.alloc (.ar 17 (.ar 32 (.int .u8)))), none⟩,
  ⟨(some 8), .lo (.mv (.t 19)), none⟩,
  ⟨none, .lo (.store 544 (.t 9) (.t 20)), none⟩,
  ⟨(some 10), .lo (.mv (.t 21)), none⟩])
 ((.seq ((.seq (.reg [⟨(some 22), .lo (.mv (.t 10)), none⟩,
  ⟨(some 23), .lo (.eq true true (.iface [74]) (.t 22) (.c .nili)), none⟩])
 (.cond (.t 23) ((.seq (.reg [⟨(some 24), .lo (.mv (.t 10)), none⟩,
  ⟨(some 6), .lo (.mv (.c .nils)), none⟩,
  ⟨(some 7), .lo (.mv (.t 24)), none⟩])
 (.ret))) (.skip))))
 ((.seq ((.seq (.reg [⟨(some 25), .lo (.mv (.t 2)), none⟩,
  ⟨(some 26), .lo (.ari .lss (.t 25) (.c (.int .i64 0))), none⟩,
  ⟨(some 27), .lo (.mv (.t 26)), none⟩,
  ⟨(some 28), .lo (.mv (.t 2)), (some (27, false))⟩,
  ⟨(some 29), .lo (.mv (.t 0)), (some (27, false))⟩,
  ⟨(some 30), .lo (.ari .shl (.c (.int .i64 1)) (.t 29)), (some (27, false))⟩,
  ⟨(some 31), .lo (.ari .geq (.t 28) (.t 30)), (some (27, false))⟩,
  ⟨(some 32), .lo (.pick (.t 27) (.c (.bool true)) (.t 31)), none⟩])
 (.cond (.t 32) ((.seq (.reg [⟨(some 33), .lo (.mkif 74 (.c (.int .i64 2))), none⟩,
  ⟨(some 6), .lo (.mv (.c .nils)), none⟩,
  ⟨(some 7), .lo (.mv (.t 33)), none⟩])
 (.ret))) (.skip))))
 ((.seq (.reg [⟨(some 11), .lo (.mv (.c .nils)), none⟩])
 ((.seq ((.seq (.reg [⟨(some 34), .lo (.mv (.t 0)), none⟩,
  ⟨(some 35), .lo (.mv (.c (.int .i64 0))), none⟩])
 (.block 0 (.loop ((.seq (.reg [⟨(some 36), .lo (.ari .lss (.t 35) (.t 34)), none⟩])
 ((.seq (.cond (.t 36) (.skip) (.exit 0))
 ((.seq (.block 1 ((.seq (.reg [⟨(some 37), .lo (.mv (.t 35)), none⟩,
  ⟨(some 12), .lo (.mv (.t 37)), none⟩])
 ((.seq (.reg [⟨(some 38), .lo (.mv (.t 12)), none⟩,
  ⟨(some 39), .lo (.iarr 17 32 (.t 9) (.t 38)), none⟩,
  ⟨(some 40), .lo (.load true 32 (.t 39)), none⟩,
  ⟨(some 13), .lo (.alloc (.ar 32 (.int .u8))), none⟩,
  ⟨none, .lo (.store 32 (.t 13) (.t 40)), none⟩])
 ((.seq ((.seq (.reg [⟨(some 41), .lo (.mv (.t 2)), none⟩,
  ⟨(some 42), .lo (.ari .xor (.t 41) (.c (.int .i64 1))), none⟩,
  ⟨(some 14), .lo (.mv (.t 42)), none⟩])
 ((.seq (.reg [⟨(some 43), .lo (.mv (.t 14)), none⟩,
  ⟨(some 44), .lo (.mv (.t 8)), none⟩,
  ⟨(some 45), .lo (.mv (.t 12)), none⟩,
  ⟨(some 46), .lo (.isl 1 (.t 44) (.t 45)), none⟩,
  ⟨(some 47), .lo (.load false 1 (.t 46)), none⟩,
  ⟨(some 48), .lo (.len 0 (.t 47)), none⟩,
  ⟨(some 49), .lo (.ari .lss (.t 43) (.t 48)), none⟩])
 (.cond (.t 49) (.reg [⟨(some 50), .lo (.mv (.t 8)), none⟩,
  ⟨(some 51), .lo (.mv (.t 12)), none⟩,
  ⟨(some 52), .lo (.isl 1 (.t 50) (.t 51)), none⟩,
  ⟨(some 53), .lo (.load false 1 (.t 52)), none⟩,
  ⟨(some 54), .lo (.mv (.t 14)), none⟩,
  ⟨(some 55), .lo (.isl 32 (.t 53) (.t 54)), none⟩,
  ⟨(some 56), .lo (.load true 32 (.t 55)), none⟩,
  ⟨none, .lo (.store 32 (.t 13) (.t 56)), none⟩]) (.skip))))))
 ((.seq (.reg [⟨(some 57), .lo (.mv (.t 11)), none⟩,
  ⟨(some 58), .lo (.load true 32 (.t 13)), none⟩,
  ⟨(some 59), .lo (.bsl 32 1 (.ar 32 (.int .u8)) [(.i 32 0, 32, (.t 58))]), none⟩,
  ⟨(some 60), .lo (.app 32 32 (.t 57) (.t 59)), none⟩,
  ⟨(some 11), .lo (.mv (.t 60)), none⟩])
 (.reg [⟨(some 61), .lo (.mv (.t 2)), none⟩,
  ⟨(some 62), .lo (.ari .quo (.t 61) (.c (.int .i64 2))), none⟩,
  ⟨(some 2), .lo (.mv (.t 62)), none⟩]))))))))))
 (.reg [⟨(some 63), .lo (.ari .add (.t 35) (.c (.int .i64 1))), none⟩,
  ⟨(some 35), .lo (.mv (.t 63)), none⟩])))))))))))
 ((.seq (.reg [⟨(some 64), .lo (.mv (.t 11)), none⟩,
  ⟨(some 6), .lo (.mv (.t 64)), none⟩,
  ⟨(some 7), .lo (.mv (.c .nili)), none⟩])
 (.ret))))))))))))))
def f198 : LF := ⟨c198, 3, 0, 65, [.tmp 6, .tmp 7]⟩

/-- moot/merkle.Root -/
def c200 : LC := (.seq (.reg [⟨(some 4), .lo (.alloc (.ar 32 (.int .u8))), none⟩,
  ⟨(some 5), .lo (.mv (.c .nili)), none⟩])
 ((.seq (.reg [⟨(some 10), .lo (.mv (.t 0)), none⟩,
  ⟨(some 11), .lo (.mv (.t 1)), none⟩,
  ⟨(some 12), .call 316 [(.t 10), (.t 11)], none⟩,
  ⟨(some 9), .lo (.mv (.t 12)), none⟩,
  ⟨(some 13), .lo (.ext (.t 9) 0), none⟩,
  ⟨(some 14), .lo (.ext (.t 9) 1), none⟩,
  ⟨(some 15), .lo (.ext (.t 9) 2), none⟩,
  ⟨(some 7), .lo (.alloc (.ar 17 (.ar 32 (.int .u8)))), none⟩,
  ⟨(some 6), .lo (.mv (.t 13)), none⟩,
  ⟨none, .lo (.store 544 (.t 7) (.t 14)), none⟩,
  ⟨(some 8), .lo (.mv (.t 15)), none⟩])
 ((.seq (.block 0 ((.seq (.reg [⟨(some 17), .lo (.mv (.t 8)), none⟩,
  ⟨(some 18), .lo (.eq true true (.iface [74]) (.t 17) (.c .nili)), none⟩,
  ⟨(some 16), .lo (.mv (.t 18)), none⟩])
 (.cond (.t 16) ((.seq (.reg [⟨(some 19), .lo (.build (.ar 32 (.int .u8)) []), none⟩,
  ⟨(some 20), .lo (.mv (.t 8)), none⟩,
  ⟨none, .lo (.store 32 (.t 4) (.t 19)), none⟩,
  ⟨(some 5), .lo (.mv (.t 20)), none⟩])
 (.ret))) ((.seq (.reg [⟨(some 22), .lo (.mv (.t 1)), none⟩,
  ⟨(some 23), .lo (.len 0 (.t 22)), none⟩,
  ⟨(some 24), .lo (.ari .eql (.t 23) (.c (.int .i64 0))), none⟩,
  ⟨(some 21), .lo (.mv (.t 24)), none⟩])
 (.cond (.t 21) ((.seq (.reg [⟨(some 25), .lo (.mv (.t 0)), none⟩,
  ⟨(some 26), .lo (.iarr 17 32 (.t 7) (.t 25)), none⟩,
  ⟨(some 27), .lo (.load true 32 (.t 26)), none⟩,
  ⟨none, .lo (.store 32 (.t 4) (.t 27)), none⟩,
  ⟨(some 5), .lo (.mv (.c .nili)), none⟩])
 (.ret))) (.skip))))))))
 ((.seq (.reg [⟨(some 28), .lo (.mv (.t 6)), none⟩,
  ⟨(some 29), .lo (.mv (.t 0)), none⟩,
  ⟨(some 30), .lo (.isl 1 (.t 28) (.t 29)), none⟩,
  ⟨(some 31), .lo (.load false 1 (.t 30)), none⟩,
  ⟨(some 32), .lo (.isl 32 (.t 31) (.c (.int .i64 0))), none⟩,
  ⟨(some 33), .lo (.load true 32 (.t 32)), none⟩,
  ⟨none, .lo (.store 32 (.t 4) (.t 33)), none⟩,
  ⟨(some 5), .lo (.mv (.c .nili)), none⟩])
 (.ret))))))))
def f200 : LF := ⟨c200, 2, 0, 34, [.cell 4 true 32, .tmp 5]⟩

/-- moot/merkle.Fold -/
def c201 : LC := (.seq (.reg [⟨(some 4), .lo (.box (.t 1)), none⟩,
  ⟨(some 6), .lo (.alloc (.ar 32 (.int .u8))), none⟩,
  ⟨(some 7), .lo (.mv (.c .nili)), none⟩])
 ((.seq ((.seq (.reg [⟨(some 10), .lo (.mv (.t 2)), none⟩,
  ⟨(some 11), .lo (.len 0 (.t 10)), none⟩,
  ⟨(some 12), .lo (.ari .gtr (.t 11) (.c (.int .i64 16))), none⟩,
  ⟨(some 13), .lo (.mv (.t 12)), none⟩,
  ⟨(some 14), .lo (.mv (.t 0)), (some (13, false))⟩,
  ⟨(some 15), .lo (.ari .lss (.t 14) (.c (.int .i64 0))), (some (13, false))⟩,
  ⟨(some 16), .lo (.pick (.t 13) (.c (.bool true)) (.t 15)), none⟩,
  ⟨(some 17), .lo (.mv (.t 16)), none⟩,
  ⟨(some 18), .lo (.mv (.t 0)), (some (17, false))⟩,
  ⟨(some 19), .lo (.mv (.t 2)), (some (17, false))⟩,
  ⟨(some 20), .lo (.len 0 (.t 19)), (some (17, false))⟩,
  ⟨(some 21), .lo (.ari .shl (.c (.int .i64 1)) (.t 20)), (some (17, false))⟩,
  ⟨(some 22), .lo (.ari .geq (.t 18) (.t 21)), (some (17, false))⟩,
  ⟨(some 23), .lo (.pick (.t 17) (.c (.bool true)) (.t 22)), none⟩])
 (.cond (.t 23) ((.seq (.reg [⟨(some 24), .lo (.build (.ar 32 (.int .u8)) []), none⟩,
  ⟨(some 25), .lo (.mkif 74 (.c (.int .i64 2))), none⟩,
  ⟨none, .lo (.store 32 (.t 6) (.t 24)), none⟩,
  ⟨(some 7), .lo (.mv (.t 25)), none⟩])
 (.ret))) (.skip))))
 ((.seq ((.seq (.reg [⟨(some 26), .lo (.mv (.t 2)), none⟩,
  ⟨(some 27), .lo (.len 0 (.t 26)), none⟩,
  ⟨(some 28), .lo (.mv (.c (.int .i64 0))), none⟩])
 (.block 0 (.loop ((.seq (.reg [⟨(some 29), .lo (.ari .lss (.t 28) (.t 27)), none⟩])
 ((.seq (.cond (.t 29) (.skip) (.exit 0))
 ((.seq (.block 1 ((.seq (.reg [⟨(some 30), .lo (.isl 32 (.t 26) (.t 28)), none⟩,
  ⟨(some 31), .lo (.load true 32 (.t 30)), none⟩,
  ⟨(some 9), .lo (.alloc (.ar 32 (.int .u8))), none⟩,
  ⟨none, .lo (.store 32 (.t 9) (.t 31)), none⟩])
 ((.seq ((.seq (.reg [⟨(some 32), .lo (.mv (.t 0)), none⟩,
  ⟨(some 33), .lo (.ari .rem (.t 32) (.c (.int .i64 2))), none⟩,
  ⟨(some 34), .lo (.ari .eql (.t 33) (.c (.int .i64 0))), none⟩])
 (.cond (.t 34) (.reg [⟨(some 35), .lo (.load true 32 (.t 4)), none⟩,
  ⟨(some 36), .lo (.load true 32 (.t 9)), none⟩,
  ⟨(some 37), .call 207 [(.t 35), (.t 36)], none⟩,
  ⟨none, .lo (.store 32 (.t 4) (.t 37)), none⟩]) (.reg [⟨(some 38), .lo (.load true 32 (.t 9)), none⟩,
  ⟨(some 39), .lo (.load true 32 (.t 4)), none⟩,
  ⟨(some 40), .call 207 [(.t 38), (.t 39)], none⟩,
  ⟨none, .lo (.store 32 (.t 4) (.t 40)), none⟩]))))
 (.reg [⟨(some 41), .lo (.mv (.t 0)), none⟩,
  ⟨(some 42), .lo (.ari .quo (.t 41) (.c (.int .i64 2))), none⟩,
  ⟨(some 0), .lo (.mv (.t 42)), none⟩]))))))
 (.reg [⟨(some 43), .lo (.ari .add (.t 28) (.c (.int .i64 1))), none⟩,
  ⟨(some 28), .lo (.mv (.t 43)), none⟩])))))))))))
 ((.seq (.reg [⟨(some 44), .lo (.load true 32 (.t 4)), none⟩,
  ⟨none, .lo (.store 32 (.t 6) (.t 44)), none⟩,
  ⟨(some 7), .lo (.mv (.c .nili)), none⟩])
 (.ret))))))))
def f201 : LF := ⟨c201, 3, 0, 45, [.cell 6 true 32, .tmp 7]⟩

/-- moot/commit.leaves -/
def c199 : LC := (.seq (.reg [⟨(some 2), .lo (.mv (.c .nils)), none⟩])
 ((.seq (.reg [⟨(some 3), .lo (.mv (.c (.int .i64 8192))), none⟩])
 ((.seq (.block 0 (.loop ((.seq ((.seq (.reg [⟨(some 6), .lo (.mv (.t 3)), none⟩,
  ⟨(some 7), .lo (.ari .gtr (.t 6) (.c (.int .i64 0))), none⟩,
  ⟨(some 8), .lo (.mv (.t 7)), none⟩,
  ⟨(some 9), .lo (.mv (.t 0)), (some (8, true))⟩,
  ⟨(some 10), .lo (.mv (.t 3)), (some (8, true))⟩,
  ⟨(some 11), .lo (.ari .sub (.t 10) (.c (.int .i64 1))), (some (8, true))⟩,
  ⟨(some 12), .lo (.nilc (.t 9)), (some (8, true))⟩,
  ⟨(some 13), .lo (.fadr 0 (.t 12)), (some (8, true))⟩,
  ⟨(some 14), .lo (.iarr 8192 1 (.t 13) (.t 11)), (some (8, true))⟩,
  ⟨(some 15), .lo (.load false 1 (.t 14)), (some (8, true))⟩,
  ⟨(some 16), .lo (.ari .eql (.t 15) (.c (.int .u64 0))), (some (8, true))⟩,
  ⟨(some 17), .lo (.pick (.t 8) (.t 16) (.c (.bool false))), none⟩])
 (.cond (.t 17) (.skip) (.exit 0))))
 (.block 1 (.reg [⟨(some 18), .lo (.mv (.t 3)), none⟩,
  ⟨(some 19), .lo (.ari .sub (.t 18) (.c (.int .i64 1))), none⟩,
  ⟨(some 3), .lo (.mv (.t 19)), none⟩]))))))
 ((.seq (.reg [⟨(some 20), .lo (.mv (.t 3)), none⟩,
  ⟨(some 21), .lo (.mksl 32 32 (.ar 32 (.int .u8)) (.t 20) (.t 20)), none⟩,
  ⟨(some 4), .lo (.mv (.t 21)), none⟩])
 ((.seq ((.seq (.reg [⟨(some 22), .lo (.mv (.t 4)), none⟩,
  ⟨(some 23), .lo (.len 0 (.t 22)), none⟩,
  ⟨(some 24), .lo (.mv (.c (.int .i64 0))), none⟩])
 (.block 2 (.loop ((.seq (.reg [⟨(some 25), .lo (.ari .lss (.t 24) (.t 23)), none⟩])
 ((.seq (.cond (.t 25) (.skip) (.exit 2))
 ((.seq (.block 3 ((.seq (.reg [⟨(some 26), .lo (.mv (.t 24)), none⟩,
  ⟨(some 5), .lo (.mv (.t 26)), none⟩])
 (.reg [⟨(some 27), .lo (.mv (.t 4)), none⟩,
  ⟨(some 28), .lo (.mv (.t 5)), none⟩,
  ⟨(some 29), .lo (.mv (.t 0)), none⟩,
  ⟨(some 30), .lo (.mv (.t 5)), none⟩,
  ⟨(some 31), .lo (.nilc (.t 29)), none⟩,
  ⟨(some 32), .lo (.fadr 0 (.t 31)), none⟩,
  ⟨(some 33), .lo (.iarr 8192 1 (.t 32) (.t 30)), none⟩,
  ⟨(some 34), .lo (.load false 1 (.t 33)), none⟩,
  ⟨(some 35), .call 202 [(.t 34)], none⟩,
  ⟨(some 36), .lo (.isl 32 (.t 27) (.t 28)), none⟩,
  ⟨none, .lo (.store 32 (.t 36) (.t 35)), none⟩]))))
 (.reg [⟨(some 37), .lo (.ari .add (.t 24) (.c (.int .i64 1))), none⟩,
  ⟨(some 24), .lo (.mv (.t 37)), none⟩])))))))))))
 ((.seq (.reg [⟨(some 38), .lo (.mv (.t 4)), none⟩,
  ⟨(some 2), .lo (.mv (.t 38)), none⟩])
 (.ret))))))))))))
def f199 : LF := ⟨c199, 1, 0, 39, [.tmp 2]⟩

/-- moot/commit.leaf -/
def c202 : LC := (.seq (.reg [⟨(some 2), .lo (.alloc (.ar 32 (.int .u8))), none⟩])
 ((.seq (.reg [⟨(some 3), .lo (.alloc (.ar 32 (.int .u8))), none⟩])
 ((.seq (.reg [⟨(some 4), .lo (.slarr 32 1 (.t 3) (some (.c (.int .i64 24))) none), none⟩,
  ⟨(some 5), .lo (.mv (.t 0)), none⟩,
  ⟨(some 6), .call 312 [(.t 4), (.t 5)], none⟩])
 ((.seq (.reg [⟨(some 7), .lo (.load true 32 (.t 3)), none⟩,
  ⟨none, .lo (.store 32 (.t 2) (.t 7)), none⟩])
 (.ret))))))))
def f202 : LF := ⟨c202, 1, 0, 8, [.cell 2 true 32]⟩

/-- moot/keccak.Pair -/
def c207 : LC := (.seq (.reg [⟨(some 2), .lo (.box (.t 0)), none⟩,
  ⟨(some 3), .lo (.box (.t 1)), none⟩,
  ⟨(some 4), .lo (.alloc (.ar 32 (.int .u8))), none⟩])
 ((.seq (.reg [⟨(some 5), .lo (.alloc (.ar 136 (.int .u8))), none⟩])
 ((.seq (.regd [⟨0, 0, ⟨(some 6), .lo (.slarr 136 1 (.t 5) none none), none⟩⟩,
  ⟨1, 0, ⟨(some 7), .lo (.slarr 32 1 (.t 2) none none), none⟩⟩,
  ⟨2, 3, ⟨(some 8), .lo (.copy 1 (.t 6) (.t 7)), none⟩⟩])
 ((.seq (.regd [⟨0, 0, ⟨(some 9), .lo (.slarr 136 1 (.t 5) (some (.c (.int .i64 32))) none), none⟩⟩,
  ⟨1, 0, ⟨(some 10), .lo (.slarr 32 1 (.t 3) none none), none⟩⟩,
  ⟨2, 3, ⟨(some 11), .lo (.copy 1 (.t 9) (.t 10)), none⟩⟩])
 ((.seq (.reg [⟨(some 12), .lo (.iarr 136 1 (.t 5) (.c (.int .i64 64))), none⟩,
  ⟨none, .lo (.store 1 (.t 12) (.c (.int .u8 1))), none⟩,
  ⟨(some 13), .lo (.iarr 136 1 (.t 5) (.c (.int .i64 135))), none⟩,
  ⟨none, .lo (.store 1 (.t 13) (.c (.int .u8 128))), none⟩])
 ((.seq (.reg [⟨(some 14), .lo (.build (.ar 25 (.int .u64)) []), none⟩,
  ⟨(some 15), .lo (.slarr 136 1 (.t 5) none none), none⟩,
  ⟨(some 16), .call 318 [(.t 14), (.t 15)], none⟩,
  ⟨(some 17), .call 317 [(.t 16)], none⟩,
  ⟨none, .lo (.store 32 (.t 4) (.t 17)), none⟩])
 (.ret))))))))))))
def f207 : LF := ⟨c207, 2, 0, 18, [.cell 4 true 32]⟩

/-- moot/merkle.noughts -/
def c315 : LC := (.seq (.reg [⟨(some 0), .lo (.alloc (.ar 17 (.ar 32 (.int .u8)))), none⟩])
 ((.seq (.reg [⟨(some 1), .lo (.alloc (.ar 17 (.ar 32 (.int .u8)))), none⟩])
 ((.seq ((.seq (.reg [⟨(some 2), .lo (.mv (.c (.int .i64 1))), none⟩])
 (.block 0 (.loop ((.seq ((.seq (.reg [⟨(some 3), .lo (.mv (.t 2)), none⟩,
  ⟨(some 4), .lo (.ari .leq (.t 3) (.c (.int .i64 16))), none⟩])
 (.cond (.t 4) (.skip) (.exit 0))))
 ((.seq (.block 1 (.regd [⟨1, 0, ⟨(some 8), .lo (.mv (.t 2)), none⟩⟩,
  ⟨2, 1, ⟨(some 9), .lo (.ari .sub (.t 8) (.c (.int .i64 1))), none⟩⟩,
  ⟨3, 3, ⟨(some 10), .lo (.iarr 17 32 (.t 1) (.t 9)), none⟩⟩,
  ⟨4, 7, ⟨(some 11), .lo (.load true 32 (.t 10)), none⟩⟩,
  ⟨5, 0, ⟨(some 12), .lo (.mv (.t 2)), none⟩⟩,
  ⟨6, 16, ⟨(some 13), .lo (.ari .sub (.t 12) (.c (.int .i64 1))), none⟩⟩,
  ⟨7, 48, ⟨(some 14), .lo (.iarr 17 32 (.t 1) (.t 13)), none⟩⟩,
  ⟨8, 112, ⟨(some 15), .lo (.load true 32 (.t 14)), none⟩⟩,
  ⟨9, 255, ⟨(some 16), .call 207 [(.t 11), (.t 15)], none⟩⟩,
  ⟨0, 0, ⟨(some 7), .lo (.mv (.t 2)), none⟩⟩,
  ⟨10, 1023, ⟨(some 17), .lo (.iarr 17 32 (.t 1) (.t 7)), none⟩⟩,
  ⟨11, 2047, ⟨none, .lo (.store 32 (.t 17) (.t 16)), none⟩⟩]))
 (.reg [⟨(some 5), .lo (.mv (.t 2)), none⟩,
  ⟨(some 6), .lo (.ari .add (.t 5) (.c (.int .i64 1))), none⟩,
  ⟨(some 2), .lo (.mv (.t 6)), none⟩])))))))))
 ((.seq (.reg [⟨(some 18), .lo (.load true 544 (.t 1)), none⟩,
  ⟨none, .lo (.store 544 (.t 0) (.t 18)), none⟩])
 (.ret))))))))
def f315 : LF := ⟨c315, 0, 0, 19, [.cell 0 true 544]⟩

/-- moot/merkle.levels -/
def c316 : LC := (.seq (.reg [⟨(some 4), .lo (.mv (.c .nils)), none⟩,
  ⟨(some 5), .lo (.alloc (.ar 17 (.ar 32 (.int .u8)))), none⟩,
  ⟨(some 6), .lo (.mv (.c .nili)), none⟩])
 ((.seq (.reg [⟨(some 14), .call 315 [], none⟩,
  ⟨(some 7), .lo (.alloc (.ar 17 (.ar 32 (.int .u8)))), none⟩,
  ⟨none, .lo (.store 544 (.t 7) (.t 14)), none⟩])
 ((.seq (.block 0 ((.seq (.reg [⟨(some 16), .lo (.mv (.t 0)), none⟩,
  ⟨(some 17), .lo (.ari .lss (.t 16) (.c (.int .i64 0))), none⟩,
  ⟨(some 18), .lo (.mv (.t 17)), none⟩,
  ⟨(some 19), .lo (.mv (.t 0)), (some (18, false))⟩,
  ⟨(some 20), .lo (.ari .gtr (.t 19) (.c (.int .i64 16))), (some (18, false))⟩,
  ⟨(some 21), .lo (.pick (.t 18) (.c (.bool true)) (.t 20)), none⟩,
  ⟨(some 15), .lo (.mv (.t 21)), none⟩])
 (.cond (.t 15) ((.seq (.regd [⟨0, 0, ⟨(some 22), .lo (.load true 544 (.t 7)), none⟩⟩,
  ⟨2, 0, ⟨(some 4), .lo (.mv (.c .nils)), none⟩⟩,
  ⟨3, 3, ⟨none, .lo (.store 544 (.t 5) (.t 22)), none⟩⟩,
  ⟨1, 0, ⟨(some 23), .lo (.mkif 74 (.c (.int .i64 2))), none⟩⟩,
  ⟨4, 15, ⟨(some 6), .lo (.mv (.t 23)), none⟩⟩])
 (.ret))) ((.seq (.reg [⟨(some 25), .lo (.mv (.t 1)), none⟩,
  ⟨(some 26), .lo (.len 0 (.t 25)), none⟩,
  ⟨(some 27), .lo (.mv (.t 0)), none⟩,
  ⟨(some 28), .lo (.ari .shl (.c (.int .i64 1)) (.t 27)), none⟩,
  ⟨(some 29), .lo (.ari .gtr (.t 26) (.t 28)), none⟩,
  ⟨(some 24), .lo (.mv (.t 29)), none⟩])
 (.cond (.t 24) ((.seq (.regd [⟨0, 0, ⟨(some 30), .lo (.load true 544 (.t 7)), none⟩⟩,
  ⟨2, 0, ⟨(some 4), .lo (.mv (.c .nils)), none⟩⟩,
  ⟨3, 3, ⟨none, .lo (.store 544 (.t 5) (.t 30)), none⟩⟩,
  ⟨1, 0, ⟨(some 31), .lo (.mkif 74 (.c (.int .i64 5))), none⟩⟩,
  ⟨4, 15, ⟨(some 6), .lo (.mv (.t 31)), none⟩⟩])
 (.ret))) (.skip))))))))
 ((.seq (.reg [⟨(some 32), .lo (.mv (.t 1)), none⟩,
  ⟨(some 33), .lo (.bsl 1 1 .slice [(.i 1 0, 1, (.t 32))]), none⟩,
  ⟨(some 8), .lo (.mv (.t 33)), none⟩])
 ((.seq ((.seq (.reg [⟨(some 34), .lo (.mv (.t 0)), none⟩,
  ⟨(some 35), .lo (.mv (.c (.int .i64 0))), none⟩])
 (.block 1 (.loop ((.seq (.reg [⟨(some 36), .lo (.ari .lss (.t 35) (.t 34)), none⟩])
 ((.seq (.cond (.t 36) (.skip) (.exit 1))
 ((.seq (.block 2 ((.seq (.reg [⟨(some 37), .lo (.mv (.t 35)), none⟩,
  ⟨(some 9), .lo (.mv (.t 37)), none⟩])
 ((.seq (.reg [⟨(some 10), .lo (.mv (.c .nils)), none⟩])
 ((.seq (.reg [⟨(some 38), .lo (.mv (.t 8)), none⟩,
  ⟨(some 39), .lo (.mv (.t 9)), none⟩,
  ⟨(some 40), .lo (.isl 1 (.t 38) (.t 39)), none⟩,
  ⟨(some 41), .lo (.load false 1 (.t 40)), none⟩,
  ⟨(some 11), .lo (.mv (.t 41)), none⟩])
 ((.seq ((.seq (.reg [⟨(some 12), .lo (.mv (.c (.int .i64 0))), none⟩])
 (.block 3 (.loop ((.seq ((.seq (.reg [⟨(some 42), .lo (.mv (.t 12)), none⟩,
  ⟨(some 43), .lo (.mv (.t 11)), none⟩,
  ⟨(some 44), .lo (.len 0 (.t 43)), none⟩,
  ⟨(some 45), .lo (.ari .lss (.t 42) (.t 44)), none⟩])
 (.cond (.t 45) (.skip) (.exit 3))))
 ((.seq (.block 4 ((.seq (.reg [⟨(some 48), .lo (.mv (.t 9)), none⟩,
  ⟨(some 49), .lo (.iarr 17 32 (.t 7) (.t 48)), none⟩,
  ⟨(some 50), .lo (.load true 32 (.t 49)), none⟩,
  ⟨(some 13), .lo (.alloc (.ar 32 (.int .u8))), none⟩,
  ⟨none, .lo (.store 32 (.t 13) (.t 50)), none⟩])
 ((.seq ((.seq (.reg [⟨(some 51), .lo (.mv (.t 12)), none⟩,
  ⟨(some 52), .lo (.ari .add (.t 51) (.c (.int .i64 1))), none⟩,
  ⟨(some 53), .lo (.mv (.t 11)), none⟩,
  ⟨(some 54), .lo (.len 0 (.t 53)), none⟩,
  ⟨(some 55), .lo (.ari .lss (.t 52) (.t 54)), none⟩])
 (.cond (.t 55) (.reg [⟨(some 56), .lo (.mv (.t 11)), none⟩,
  ⟨(some 57), .lo (.mv (.t 12)), none⟩,
  ⟨(some 58), .lo (.ari .add (.t 57) (.c (.int .i64 1))), none⟩,
  ⟨(some 59), .lo (.isl 32 (.t 56) (.t 58)), none⟩,
  ⟨(some 60), .lo (.load true 32 (.t 59)), none⟩,
  ⟨none, .lo (.store 32 (.t 13) (.t 60)), none⟩]) (.skip))))
 ((.seq (.regd [⟨0, 0, ⟨(some 61), .lo (.mv (.t 11)), none⟩⟩,
  ⟨1, 0, ⟨(some 62), .lo (.mv (.t 12)), none⟩⟩,
  ⟨2, 3, ⟨(some 63), .lo (.isl 32 (.t 61) (.t 62)), none⟩⟩,
  ⟨3, 7, ⟨(some 64), .lo (.load true 32 (.t 63)), none⟩⟩,
  ⟨4, 0, ⟨(some 65), .lo (.mv (.t 9)), none⟩⟩,
  ⟨5, 16, ⟨(some 66), .lo (.iarr 17 32 (.t 7) (.t 65)), none⟩⟩,
  ⟨6, 48, ⟨(some 67), .lo (.load true 32 (.t 66)), none⟩⟩,
  ⟨7, 127, ⟨(some 68), .lo (.eq false false (.ar 32 1 false .int) (.t 64) (.t 67)), none⟩⟩,
  ⟨8, 255, ⟨(some 69), .lo (.mv (.t 68)), none⟩⟩,
  ⟨9, 511, ⟨(some 70), .lo (.load true 32 (.t 13)), (some (69, true))⟩⟩,
  ⟨10, 511, ⟨(some 71), .lo (.mv (.t 9)), (some (69, true))⟩⟩,
  ⟨11, 1535, ⟨(some 72), .lo (.iarr 17 32 (.t 7) (.t 71)), (some (69, true))⟩⟩,
  ⟨12, 3583, ⟨(some 73), .lo (.load true 32 (.t 72)), (some (69, true))⟩⟩,
  ⟨13, 8191, ⟨(some 74), .lo (.eq false false (.ar 32 1 false .int) (.t 70) (.t 73)), (some (69, true))⟩⟩,
  ⟨14, 16383, ⟨(some 75), .lo (.pick (.t 69) (.t 74) (.c (.bool false))), none⟩⟩])
 (.cond (.t 75) (.reg [⟨(some 76), .lo (.mv (.t 10)), none⟩,
  ⟨(some 77), .lo (.mv (.t 9)), none⟩,
  ⟨(some 78), .lo (.ari .add (.t 77) (.c (.int .i64 1))), none⟩,
  ⟨(some 79), .lo (.iarr 17 32 (.t 7) (.t 78)), none⟩,
  ⟨(some 80), .lo (.load true 32 (.t 79)), none⟩,
  ⟨(some 81), .lo (.bsl 32 1 (.ar 32 (.int .u8)) [(.i 32 0, 32, (.t 80))]), none⟩,
  ⟨(some 82), .lo (.app 32 32 (.t 76) (.t 81)), none⟩,
  ⟨(some 10), .lo (.mv (.t 82)), none⟩]) (.regd [⟨1, 0, ⟨(some 84), .lo (.mv (.t 11)), none⟩⟩,
  ⟨2, 0, ⟨(some 85), .lo (.mv (.t 12)), none⟩⟩,
  ⟨3, 3, ⟨(some 86), .lo (.isl 32 (.t 84) (.t 85)), none⟩⟩,
  ⟨4, 7, ⟨(some 87), .lo (.load true 32 (.t 86)), none⟩⟩,
  ⟨5, 0, ⟨(some 88), .lo (.load true 32 (.t 13)), none⟩⟩,
  ⟨6, 31, ⟨(some 89), .call 207 [(.t 87), (.t 88)], none⟩⟩,
  ⟨0, 0, ⟨(some 83), .lo (.mv (.t 10)), none⟩⟩,
  ⟨7, 63, ⟨(some 90), .lo (.bsl 32 1 (.ar 32 (.int .u8)) [(.i 32 0, 32, (.t 89))]), none⟩⟩,
  ⟨8, 255, ⟨(some 91), .lo (.app 32 32 (.t 83) (.t 90)), none⟩⟩,
  ⟨9, 511, ⟨(some 10), .lo (.mv (.t 91)), none⟩⟩])))))))))
 (.reg [⟨(some 46), .lo (.mv (.t 12)), none⟩,
  ⟨(some 47), .lo (.ari .add (.t 46) (.c (.int .i64 2))), none⟩,
  ⟨(some 12), .lo (.mv (.t 47)), none⟩])))))))))
 (.reg [⟨(some 92), .lo (.mv (.t 8)), none⟩,
  ⟨(some 93), .lo (.mv (.t 10)), none⟩,
  ⟨(some 94), .lo (.bsl 1 1 .slice [(.i 1 0, 1, (.t 93))]), none⟩,
  ⟨(some 95), .lo (.app 1 24 (.t 92) (.t 94)), none⟩,
  ⟨(some 8), .lo (.mv (.t 95)), none⟩]))))))))))
 (.reg [⟨(some 96), .lo (.ari .add (.t 35) (.c (.int .i64 1))), none⟩,
  ⟨(some 35), .lo (.mv (.t 96)), none⟩])))))))))))
 ((.seq (.regd [⟨0, 0, ⟨(some 97), .lo (.mv (.t 8)), none⟩⟩,
  ⟨1, 0, ⟨(some 98), .lo (.load true 544 (.t 7)), none⟩⟩,
  ⟨2, 1, ⟨(some 4), .lo (.mv (.t 97)), none⟩⟩,
  ⟨3, 7, ⟨none, .lo (.store 544 (.t 5) (.t 98)), none⟩⟩,
  ⟨4, 15, ⟨(some 6), .lo (.mv (.c .nili)), none⟩⟩])
 (.ret))))))))))))
def f316 : LF := ⟨c316, 2, 0, 99, [.tmp 4, .cell 5 true 544, .tmp 6]⟩

/-- moot/keccak.digest -/
def c317 : LC := (.seq (.reg [⟨(some 1), .lo (.box (.t 0)), none⟩,
  ⟨(some 2), .lo (.alloc (.ar 32 (.int .u8))), none⟩])
 ((.seq (.reg [⟨(some 3), .lo (.alloc (.ar 32 (.int .u8))), none⟩])
 ((.seq ((.seq (.reg [⟨(some 5), .lo (.mv (.c (.int .i64 0))), none⟩])
 (.block 0 (.loop ((.seq (.reg [⟨(some 6), .lo (.ari .lss (.t 5) (.c (.int .i64 32))), none⟩])
 ((.seq (.cond (.t 6) (.skip) (.exit 0))
 ((.seq (.block 1 ((.seq (.reg [⟨(some 7), .lo (.mv (.t 5)), none⟩,
  ⟨(some 4), .lo (.mv (.t 7)), none⟩])
 (.reg [⟨(some 8), .lo (.mv (.t 4)), none⟩,
  ⟨(some 9), .lo (.mv (.t 4)), none⟩,
  ⟨(some 10), .lo (.ari .quo (.t 9) (.c (.int .i64 8))), none⟩,
  ⟨(some 11), .lo (.iarr 25 1 (.t 1) (.t 10)), none⟩,
  ⟨(some 12), .lo (.load false 1 (.t 11)), none⟩,
  ⟨(some 13), .lo (.mv (.t 4)), none⟩,
  ⟨(some 14), .lo (.ari .rem (.t 13) (.c (.int .i64 8))), none⟩,
  ⟨(some 15), .lo (.ari .mul (.c (.int .i64 8)) (.t 14)), none⟩,
  ⟨(some 16), .lo (.ari .shr (.t 12) (.t 15)), none⟩,
  ⟨(some 17), .lo (.conv .u8 (.t 16)), none⟩,
  ⟨(some 18), .lo (.iarr 32 1 (.t 3) (.t 8)), none⟩,
  ⟨none, .lo (.store 1 (.t 18) (.t 17)), none⟩]))))
 (.reg [⟨(some 19), .lo (.ari .add (.t 5) (.c (.int .i64 1))), none⟩,
  ⟨(some 5), .lo (.mv (.t 19)), none⟩])))))))))))
 ((.seq (.reg [⟨(some 20), .lo (.load true 32 (.t 3)), none⟩,
  ⟨none, .lo (.store 32 (.t 2) (.t 20)), none⟩])
 (.ret))))))))
def f317 : LF := ⟨c317, 1, 0, 21, [.cell 2 true 32]⟩

/-- moot/keccak.absorbed -/
def c318 : LC := (.seq (.reg [⟨(some 2), .lo (.box (.t 0)), none⟩,
  ⟨(some 4), .lo (.alloc (.ar 25 (.int .u64))), none⟩])
 ((.seq ((.seq (.reg [⟨(some 8), .lo (.mv (.c (.int .i64 0))), none⟩])
 (.block 0 (.loop ((.seq (.reg [⟨(some 9), .lo (.ari .lss (.t 8) (.c (.int .i64 17))), none⟩])
 ((.seq (.cond (.t 9) (.skip) (.exit 0))
 ((.seq (.block 1 ((.seq (.reg [⟨(some 10), .lo (.mv (.t 8)), none⟩,
  ⟨(some 5), .lo (.mv (.t 10)), none⟩])
 ((.seq (.reg [⟨(some 11), .lo (.mv (.t 1)), none⟩,
  ⟨(some 12), .lo (.mv (.t 5)), none⟩,
  ⟨(some 13), .lo (.ari .mul (.c (.int .i64 8)) (.t 12)), none⟩,
  ⟨(some 14), .lo (.mv (.t 5)), none⟩,
  ⟨(some 15), .lo (.ari .mul (.c (.int .i64 8)) (.t 14)), none⟩,
  ⟨(some 16), .lo (.ari .add (.t 15) (.c (.int .i64 8))), none⟩,
  ⟨(some 17), .lo (.slsl 1 (.t 11) (some (.t 13)) (some (.t 16))), none⟩,
  ⟨(some 18), .lo (.len 0 (.t 17)), none⟩,
  ⟨(some 19), .lo (.mv (.c (.int .i64 0))), none⟩])
 (.block 2 (.loop ((.seq (.reg [⟨(some 20), .lo (.ari .lss (.t 19) (.t 18)), none⟩])
 ((.seq (.cond (.t 20) (.skip) (.exit 2))
 ((.seq (.block 3 ((.seq (.reg [⟨(some 21), .lo (.mv (.t 19)), none⟩,
  ⟨(some 22), .lo (.isl 1 (.t 17) (.t 19)), none⟩,
  ⟨(some 23), .lo (.load false 1 (.t 22)), none⟩,
  ⟨(some 6), .lo (.mv (.t 21)), none⟩,
  ⟨(some 7), .lo (.mv (.t 23)), none⟩])
 (.regd [⟨0, 0, ⟨(some 24), .lo (.mv (.t 5)), none⟩⟩,
  ⟨1, 1, ⟨(some 25), .lo (.iarr 25 1 (.t 2) (.t 24)), none⟩⟩,
  ⟨2, 3, ⟨(some 26), .lo (.load false 1 (.t 25)), none⟩⟩,
  ⟨3, 0, ⟨(some 27), .lo (.mv (.t 7)), none⟩⟩,
  ⟨4, 8, ⟨(some 28), .lo (.conv .u64 (.t 27)), none⟩⟩,
  ⟨5, 0, ⟨(some 29), .lo (.mv (.t 6)), none⟩⟩,
  ⟨6, 32, ⟨(some 30), .lo (.ari .mul (.c (.int .i64 8)) (.t 29)), none⟩⟩,
  ⟨7, 120, ⟨(some 31), .lo (.ari .shl (.t 28) (.t 30)), none⟩⟩,
  ⟨8, 255, ⟨(some 32), .lo (.ari .xor (.t 26) (.t 31)), none⟩⟩,
  ⟨9, 511, ⟨(some 33), .lo (.iarr 25 1 (.t 2) (.t 24)), none⟩⟩,
  ⟨10, 1023, ⟨none, .lo (.store 1 (.t 33) (.t 32)), none⟩⟩]))))
 (.reg [⟨(some 34), .lo (.ari .add (.t 19) (.c (.int .i64 1))), none⟩,
  ⟨(some 19), .lo (.mv (.t 34)), none⟩]))))))))))))))
 (.reg [⟨(some 35), .lo (.ari .add (.t 8) (.c (.int .i64 1))), none⟩,
  ⟨(some 8), .lo (.mv (.t 35)), none⟩])))))))))))
 ((.seq (.reg [⟨(some 36), .lo (.load true 25 (.t 2)), none⟩,
  ⟨(some 37), .call 417 [(.t 36)], none⟩,
  ⟨none, .lo (.store 25 (.t 4) (.t 37)), none⟩])
 (.ret))))))
def f318 : LF := ⟨c318, 2, 0, 38, [.cell 4 true 25]⟩

/-- moot/octets.Put -/
def c312 : LC := (.seq (.reg [⟨(some 5), .lo (.mv (.c (.int .i64 0))), none⟩])
 (.block 0 (.loop ((.seq (.reg [⟨(some 6), .lo (.ari .lss (.t 5) (.c (.int .i64 8))), none⟩])
 ((.seq (.cond (.t 6) (.skip) (.exit 0))
 ((.seq (.block 1 ((.seq (.reg [⟨(some 7), .lo (.mv (.t 5)), none⟩,
  ⟨(some 4), .lo (.mv (.t 7)), none⟩])
 (.reg [⟨(some 8), .lo (.mv (.t 0)), none⟩,
  ⟨(some 9), .lo (.mv (.t 4)), none⟩,
  ⟨(some 10), .lo (.mv (.t 1)), none⟩,
  ⟨(some 11), .lo (.mv (.t 4)), none⟩,
  ⟨(some 12), .lo (.ari .mul (.c (.int .i64 8)) (.t 11)), none⟩,
  ⟨(some 13), .lo (.ari .sub (.c (.int .i64 56)) (.t 12)), none⟩,
  ⟨(some 14), .lo (.ari .shr (.t 10) (.t 13)), none⟩,
  ⟨(some 15), .lo (.conv .u8 (.t 14)), none⟩,
  ⟨(some 16), .lo (.isl 1 (.t 8) (.t 9)), none⟩,
  ⟨none, .lo (.store 1 (.t 16) (.t 15)), none⟩]))))
 (.reg [⟨(some 17), .lo (.ari .add (.t 5) (.c (.int .i64 1))), none⟩,
  ⟨(some 5), .lo (.mv (.t 17)), none⟩]))))))))))
def f312 : LF := ⟨c312, 2, 0, 18, []⟩

/-- moot/keccak.Permute -/
def c417 : LC := (.seq (.reg [⟨(some 1), .lo (.box (.t 0)), none⟩,
  ⟨(some 2), .lo (.alloc (.ar 25 (.int .u64))), none⟩])
 ((.seq ((.seq (.reg [⟨(some 27), .lo (.load true 24 (.g 1)), none⟩,
  ⟨(some 28), .lo (.mv (.c (.int .i64 0))), none⟩])
 (.block 0 (.loop ((.seq (.reg [⟨(some 29), .lo (.ari .lss (.t 28) (.c (.int .i64 24))), none⟩])
 ((.seq (.cond (.t 29) (.skip) (.exit 0))
 ((.seq (.block 1 ((.seq (.reg [⟨(some 30), .lo (.idx 24 1 false (.t 27) (.t 28)), none⟩,
  ⟨(some 4), .lo (.mv (.t 30)), none⟩])
 ((.seq (.regd [⟨0, 0, ⟨(some 31), .lo (.iarr 25 1 (.t 1) (.c (.int .i64 0))), none⟩⟩,
  ⟨1, 1, ⟨(some 32), .lo (.load false 1 (.t 31)), none⟩⟩,
  ⟨2, 0, ⟨(some 33), .lo (.iarr 25 1 (.t 1) (.c (.int .i64 5))), none⟩⟩,
  ⟨3, 4, ⟨(some 34), .lo (.load false 1 (.t 33)), none⟩⟩,
  ⟨4, 15, ⟨(some 35), .lo (.ari .xor (.t 32) (.t 34)), none⟩⟩,
  ⟨5, 0, ⟨(some 36), .lo (.iarr 25 1 (.t 1) (.c (.int .i64 10))), none⟩⟩,
  ⟨6, 32, ⟨(some 37), .lo (.load false 1 (.t 36)), none⟩⟩,
  ⟨7, 127, ⟨(some 38), .lo (.ari .xor (.t 35) (.t 37)), none⟩⟩,
  ⟨8, 0, ⟨(some 39), .lo (.iarr 25 1 (.t 1) (.c (.int .i64 15))), none⟩⟩,
  ⟨9, 256, ⟨(some 40), .lo (.load false 1 (.t 39)), none⟩⟩,
  ⟨10, 1023, ⟨(some 41), .lo (.ari .xor (.t 38) (.t 40)), none⟩⟩,
  ⟨11, 0, ⟨(some 42), .lo (.iarr 25 1 (.t 1) (.c (.int .i64 20))), none⟩⟩,
  ⟨12, 2048, ⟨(some 43), .lo (.load false 1 (.t 42)), none⟩⟩,
  ⟨13, 8191, ⟨(some 44), .lo (.ari .xor (.t 41) (.t 43)), none⟩⟩,
  ⟨14, 0, ⟨(some 45), .lo (.iarr 25 1 (.t 1) (.c (.int .i64 1))), none⟩⟩,
  ⟨15, 16384, ⟨(some 46), .lo (.load false 1 (.t 45)), none⟩⟩,
  ⟨16, 0, ⟨(some 47), .lo (.iarr 25 1 (.t 1) (.c (.int .i64 6))), none⟩⟩,
  ⟨17, 65536, ⟨(some 48), .lo (.load false 1 (.t 47)), none⟩⟩,
  ⟨18, 245760, ⟨(some 49), .lo (.ari .xor (.t 46) (.t 48)), none⟩⟩,
  ⟨19, 0, ⟨(some 50), .lo (.iarr 25 1 (.t 1) (.c (.int .i64 11))), none⟩⟩,
  ⟨20, 524288, ⟨(some 51), .lo (.load false 1 (.t 50)), none⟩⟩,
  ⟨21, 2080768, ⟨(some 52), .lo (.ari .xor (.t 49) (.t 51)), none⟩⟩,
  ⟨22, 0, ⟨(some 53), .lo (.iarr 25 1 (.t 1) (.c (.int .i64 16))), none⟩⟩,
  ⟨23, 4194304, ⟨(some 54), .lo (.load false 1 (.t 53)), none⟩⟩,
  ⟨24, 16760832, ⟨(some 55), .lo (.ari .xor (.t 52) (.t 54)), none⟩⟩,
  ⟨25, 0, ⟨(some 56), .lo (.iarr 25 1 (.t 1) (.c (.int .i64 21))), none⟩⟩,
  ⟨26, 33554432, ⟨(some 57), .lo (.load false 1 (.t 56)), none⟩⟩,
  ⟨27, 134201344, ⟨(some 58), .lo (.ari .xor (.t 55) (.t 57)), none⟩⟩,
  ⟨28, 0, ⟨(some 59), .lo (.iarr 25 1 (.t 1) (.c (.int .i64 2))), none⟩⟩,
  ⟨29, 268435456, ⟨(some 60), .lo (.load false 1 (.t 59)), none⟩⟩,
  ⟨30, 0, ⟨(some 61), .lo (.iarr 25 1 (.t 1) (.c (.int .i64 7))), none⟩⟩,
  ⟨31, 1073741824, ⟨(some 62), .lo (.load false 1 (.t 61)), none⟩⟩,
  ⟨32, 4026531840, ⟨(some 63), .lo (.ari .xor (.t 60) (.t 62)), none⟩⟩,
  ⟨33, 0, ⟨(some 64), .lo (.iarr 25 1 (.t 1) (.c (.int .i64 12))), none⟩⟩,
  ⟨34, 8589934592, ⟨(some 65), .lo (.load false 1 (.t 64)), none⟩⟩,
  ⟨35, 34091302912, ⟨(some 66), .lo (.ari .xor (.t 63) (.t 65)), none⟩⟩,
  ⟨36, 0, ⟨(some 67), .lo (.iarr 25 1 (.t 1) (.c (.int .i64 17))), none⟩⟩,
  ⟨37, 68719476736, ⟨(some 68), .lo (.load false 1 (.t 67)), none⟩⟩,
  ⟨38, 274609471488, ⟨(some 69), .lo (.ari .xor (.t 66) (.t 68)), none⟩⟩,
  ⟨39, 0, ⟨(some 70), .lo (.iarr 25 1 (.t 1) (.c (.int .i64 22))), none⟩⟩,
  ⟨40, 549755813888, ⟨(some 71), .lo (.load false 1 (.t 70)), none⟩⟩,
  ⟨41, 2198754820096, ⟨(some 72), .lo (.ari .xor (.t 69) (.t 71)), none⟩⟩,
  ⟨42, 0, ⟨(some 73), .lo (.iarr 25 1 (.t 1) (.c (.int .i64 3))), none⟩⟩,
  ⟨43, 4398046511104, ⟨(some 74), .lo (.load false 1 (.t 73)), none⟩⟩,
  ⟨44, 0, ⟨(some 75), .lo (.iarr 25 1 (.t 1) (.c (.int .i64 8))), none⟩⟩,
  ⟨45, 17592186044416, ⟨(some 76), .lo (.load false 1 (.t 75)), none⟩⟩,
  ⟨46, 65970697666560, ⟨(some 77), .lo (.ari .xor (.t 74) (.t 76)), none⟩⟩,
  ⟨47, 0, ⟨(some 78), .lo (.iarr 25 1 (.t 1) (.c (.int .i64 13))), none⟩⟩,
  ⟨48, 140737488355328, ⟨(some 79), .lo (.load false 1 (.t 78)), none⟩⟩,
  ⟨49, 558551906910208, ⟨(some 80), .lo (.ari .xor (.t 77) (.t 79)), none⟩⟩,
  ⟨50, 0, ⟨(some 81), .lo (.iarr 25 1 (.t 1) (.c (.int .i64 18))), none⟩⟩,
  ⟨51, 1125899906842624, ⟨(some 82), .lo (.load false 1 (.t 81)), none⟩⟩,
  ⟨52, 4499201580859392, ⟨(some 83), .lo (.ari .xor (.t 80) (.t 82)), none⟩⟩,
  ⟨53, 0, ⟨(some 84), .lo (.iarr 25 1 (.t 1) (.c (.int .i64 23))), none⟩⟩,
  ⟨54, 9007199254740992, ⟨(some 85), .lo (.load false 1 (.t 84)), none⟩⟩,
  ⟨55, 36024398972452864, ⟨(some 86), .lo (.ari .xor (.t 83) (.t 85)), none⟩⟩,
  ⟨56, 0, ⟨(some 87), .lo (.iarr 25 1 (.t 1) (.c (.int .i64 4))), none⟩⟩,
  ⟨57, 72057594037927936, ⟨(some 88), .lo (.load false 1 (.t 87)), none⟩⟩,
  ⟨58, 0, ⟨(some 89), .lo (.iarr 25 1 (.t 1) (.c (.int .i64 9))), none⟩⟩,
  ⟨59, 288230376151711744, ⟨(some 90), .lo (.load false 1 (.t 89)), none⟩⟩,
  ⟨60, 1080863910568919040, ⟨(some 91), .lo (.ari .xor (.t 88) (.t 90)), none⟩⟩,
  ⟨61, 0, ⟨(some 92), .lo (.iarr 25 1 (.t 1) (.c (.int .i64 14))), none⟩⟩,
  ⟨62, 2305843009213693952, ⟨(some 93), .lo (.load false 1 (.t 92)), none⟩⟩,
  ⟨63, 9151314442816847872, ⟨(some 94), .lo (.ari .xor (.t 91) (.t 93)), none⟩⟩,
  ⟨64, 0, ⟨(some 95), .lo (.iarr 25 1 (.t 1) (.c (.int .i64 19))), none⟩⟩,
  ⟨65, 18446744073709551616, ⟨(some 96), .lo (.load false 1 (.t 95)), none⟩⟩,
  ⟨66, 73714918700800278528, ⟨(some 97), .lo (.ari .xor (.t 94) (.t 96)), none⟩⟩,
  ⟨67, 0, ⟨(some 98), .lo (.iarr 25 1 (.t 1) (.c (.int .i64 24))), none⟩⟩,
  ⟨68, 147573952589676412928, ⟨(some 99), .lo (.load false 1 (.t 98)), none⟩⟩,
  ⟨69, 590223752764667723776, ⟨(some 100), .lo (.ari .xor (.t 97) (.t 99)), none⟩⟩,
  ⟨70, 16383, ⟨(some 5), .lo (.mv (.t 44)), none⟩⟩,
  ⟨71, 1180591620717679738879, ⟨(some 6), .lo (.mv (.t 58)), none⟩⟩,
  ⟨72, 3541774866550280421375, ⟨(some 7), .lo (.mv (.t 72)), none⟩⟩,
  ⟨73, 8264213402615917051903, ⟨(some 8), .lo (.mv (.t 86)), none⟩⟩,
  ⟨74, 18889465931478580854783, ⟨(some 9), .lo (.mv (.t 100)), none⟩⟩])
 ((.seq (.reg [⟨(some 101), .lo (.mv (.t 9)), none⟩,
  ⟨(some 102), .lo (.mv (.t 6)), none⟩,
  ⟨(some 103), .call 462 [(.t 102), (.c (.int .i64 1))], none⟩,
  ⟨(some 104), .lo (.ari .xor (.t 101) (.t 103)), none⟩,
  ⟨(some 105), .lo (.mv (.t 5)), none⟩,
  ⟨(some 106), .lo (.mv (.t 7)), none⟩,
  ⟨(some 107), .call 462 [(.t 106), (.c (.int .i64 1))], none⟩,
  ⟨(some 108), .lo (.ari .xor (.t 105) (.t 107)), none⟩,
  ⟨(some 109), .lo (.mv (.t 6)), none⟩,
  ⟨(some 110), .lo (.mv (.t 8)), none⟩,
  ⟨(some 111), .call 462 [(.t 110), (.c (.int .i64 1))], none⟩,
  ⟨(some 112), .lo (.ari .xor (.t 109) (.t 111)), none⟩,
  ⟨(some 113), .lo (.mv (.t 7)), none⟩,
  ⟨(some 114), .lo (.mv (.t 9)), none⟩,
  ⟨(some 115), .call 462 [(.t 114), (.c (.int .i64 1))], none⟩,
  ⟨(some 116), .lo (.ari .xor (.t 113) (.t 115)), none⟩,
  ⟨(some 117), .lo (.mv (.t 8)), none⟩,
  ⟨(some 118), .lo (.mv (.t 5)), none⟩,
  ⟨(some 119), .call 462 [(.t 118), (.c (.int .i64 1))], none⟩,
  ⟨(some 120), .lo (.ari .xor (.t 117) (.t 119)), none⟩,
  ⟨(some 10), .lo (.mv (.t 104)), none⟩,
  ⟨(some 11), .lo (.mv (.t 108)), none⟩,
  ⟨(some 12), .lo (.mv (.t 112)), none⟩,
  ⟨(some 13), .lo (.mv (.t 116)), none⟩,
  ⟨(some 14), .lo (.mv (.t 120)), none⟩])
 ((.seq ((.seq (.reg [⟨(some 15), .lo (.mv (.c (.int .i64 0))), none⟩])
 (.block 2 (.loop ((.seq ((.seq (.reg [⟨(some 121), .lo (.mv (.t 15)), none⟩,
  ⟨(some 122), .lo (.ari .lss (.t 121) (.c (.int .i64 25))), none⟩])
 (.cond (.t 122) (.skip) (.exit 2))))
 ((.seq (.block 3 ((.seq (.reg [⟨(some 125), .lo (.mv (.t 15)), none⟩,
  ⟨(some 126), .lo (.slarr 25 1 (.t 1) (some (.t 125)) none), none⟩,
  ⟨(some 127), .lo (.s2a 5 1 (.t 126)), none⟩,
  ⟨(some 16), .lo (.mv (.t 127)), none⟩])
 (.regd [⟨0, 0, ⟨(some 128), .lo (.mv (.t 16)), none⟩⟩,
  ⟨5, 0, ⟨(some 133), .lo (.mv (.t 16)), none⟩⟩,
  ⟨6, 2, ⟨(some 134), .lo (.nilc (.t 133)), none⟩⟩,
  ⟨7, 6, ⟨(some 135), .lo (.iarr 5 1 (.t 134) (.c (.int .i64 0))), none⟩⟩,
  ⟨8, 14, ⟨(some 136), .lo (.load false 1 (.t 135)), none⟩⟩,
  ⟨9, 0, ⟨(some 137), .lo (.mv (.t 10)), none⟩⟩,
  ⟨10, 62, ⟨(some 138), .lo (.ari .xor (.t 136) (.t 137)), none⟩⟩,
  ⟨11, 0, ⟨(some 139), .lo (.mv (.t 16)), none⟩⟩,
  ⟨12, 128, ⟨(some 140), .lo (.nilc (.t 139)), none⟩⟩,
  ⟨13, 384, ⟨(some 141), .lo (.iarr 5 1 (.t 140) (.c (.int .i64 1))), none⟩⟩,
  ⟨14, 896, ⟨(some 142), .lo (.load false 1 (.t 141)), none⟩⟩,
  ⟨17, 0, ⟨(some 145), .lo (.mv (.t 16)), none⟩⟩,
  ⟨18, 2048, ⟨(some 146), .lo (.nilc (.t 145)), none⟩⟩,
  ⟨19, 6144, ⟨(some 147), .lo (.iarr 5 1 (.t 146) (.c (.int .i64 2))), none⟩⟩,
  ⟨20, 14336, ⟨(some 148), .lo (.load false 1 (.t 147)), none⟩⟩,
  ⟨23, 0, ⟨(some 151), .lo (.mv (.t 16)), none⟩⟩,
  ⟨24, 32768, ⟨(some 152), .lo (.nilc (.t 151)), none⟩⟩,
  ⟨25, 98304, ⟨(some 153), .lo (.iarr 5 1 (.t 152) (.c (.int .i64 3))), none⟩⟩,
  ⟨26, 229376, ⟨(some 154), .lo (.load false 1 (.t 153)), none⟩⟩,
  ⟨29, 0, ⟨(some 157), .lo (.mv (.t 16)), none⟩⟩,
  ⟨30, 524288, ⟨(some 158), .lo (.nilc (.t 157)), none⟩⟩,
  ⟨31, 1572864, ⟨(some 159), .lo (.iarr 5 1 (.t 158) (.c (.int .i64 4))), none⟩⟩,
  ⟨32, 3670016, ⟨(some 160), .lo (.load false 1 (.t 159)), none⟩⟩,
  ⟨35, 1, ⟨(some 163), .lo (.nilc (.t 128)), none⟩⟩,
  ⟨36, 16777215, ⟨(some 164), .lo (.iarr 5 1 (.t 163) (.c (.int .i64 0))), none⟩⟩,
  ⟨37, 33554431, ⟨none, .lo (.store 1 (.t 164) (.t 138)), none⟩⟩,
  ⟨1, 0, ⟨(some 129), .lo (.mv (.t 16)), none⟩⟩,
  ⟨15, 0, ⟨(some 143), .lo (.mv (.t 11)), none⟩⟩,
  ⟨16, 134219648, ⟨(some 144), .lo (.ari .xor (.t 142) (.t 143)), none⟩⟩,
  ⟨38, 67108864, ⟨(some 165), .lo (.nilc (.t 129)), none⟩⟩,
  ⟨39, 1073741823, ⟨(some 166), .lo (.iarr 5 1 (.t 165) (.c (.int .i64 1))), none⟩⟩,
  ⟨40, 2147483647, ⟨none, .lo (.store 1 (.t 166) (.t 144)), none⟩⟩,
  ⟨2, 0, ⟨(some 130), .lo (.mv (.t 16)), none⟩⟩,
  ⟨21, 0, ⟨(some 149), .lo (.mv (.t 12)), none⟩⟩,
  ⟨22, 8589965312, ⟨(some 150), .lo (.ari .xor (.t 148) (.t 149)), none⟩⟩,
  ⟨41, 4294967296, ⟨(some 167), .lo (.nilc (.t 130)), none⟩⟩,
  ⟨42, 68719476735, ⟨(some 168), .lo (.iarr 5 1 (.t 167) (.c (.int .i64 2))), none⟩⟩,
  ⟨43, 137438953471, ⟨none, .lo (.store 1 (.t 168) (.t 150)), none⟩⟩,
  ⟨3, 0, ⟨(some 131), .lo (.mv (.t 16)), none⟩⟩,
  ⟨27, 0, ⟨(some 155), .lo (.mv (.t 13)), none⟩⟩,
  ⟨28, 549756305408, ⟨(some 156), .lo (.ari .xor (.t 154) (.t 155)), none⟩⟩,
  ⟨44, 274877906944, ⟨(some 169), .lo (.nilc (.t 131)), none⟩⟩,
  ⟨45, 4398046511103, ⟨(some 170), .lo (.iarr 5 1 (.t 169) (.c (.int .i64 3))), none⟩⟩,
  ⟨46, 8796093022207, ⟨none, .lo (.store 1 (.t 170) (.t 156)), none⟩⟩,
  ⟨4, 0, ⟨(some 132), .lo (.mv (.t 16)), none⟩⟩,
  ⟨33, 0, ⟨(some 161), .lo (.mv (.t 14)), none⟩⟩,
  ⟨34, 35184379953152, ⟨(some 162), .lo (.ari .xor (.t 160) (.t 161)), none⟩⟩,
  ⟨47, 17592186044416, ⟨(some 171), .lo (.nilc (.t 132)), none⟩⟩,
  ⟨48, 281474976710655, ⟨(some 172), .lo (.iarr 5 1 (.t 171) (.c (.int .i64 4))), none⟩⟩,
  ⟨49, 562949953421311, ⟨none, .lo (.store 1 (.t 172) (.t 162)), none⟩⟩]))))
 (.reg [⟨(some 123), .lo (.mv (.t 15)), none⟩,
  ⟨(some 124), .lo (.ari .add (.t 123) (.c (.int .i64 5))), none⟩,
  ⟨(some 15), .lo (.mv (.t 124)), none⟩])))))))))
 ((.seq (.reg [⟨(some 173), .lo (.iarr 25 1 (.t 1) (.c (.int .i64 1))), none⟩,
  ⟨(some 174), .lo (.load false 1 (.t 173)), none⟩,
  ⟨(some 17), .lo (.mv (.t 174)), none⟩])
 ((.seq ((.seq (.reg [⟨(some 175), .lo (.load true 24 (.g 2)), none⟩,
  ⟨(some 176), .lo (.mv (.c (.int .i64 0))), none⟩])
 (.block 4 (.loop ((.seq (.reg [⟨(some 177), .lo (.ari .lss (.t 176) (.c (.int .i64 24))), none⟩])
 ((.seq (.cond (.t 177) (.skip) (.exit 4))
 ((.seq (.block 5 ((.seq (.reg [⟨(some 178), .lo (.mv (.t 176)), none⟩,
  ⟨(some 179), .lo (.idx 24 1 false (.t 175) (.t 176)), none⟩,
  ⟨(some 18), .lo (.mv (.t 178)), none⟩,
  ⟨(some 19), .lo (.mv (.t 179)), none⟩])
 (.regd [⟨4, 0, ⟨(some 184), .lo (.mv (.t 17)), none⟩⟩,
  ⟨5, 0, ⟨(some 185), .lo (.mv (.t 18)), none⟩⟩,
  ⟨6, 2, ⟨(some 186), .lo (.iarr 24 1 (.g 3) (.t 185)), none⟩⟩,
  ⟨7, 6, ⟨(some 187), .lo (.load false 1 (.t 186)), none⟩⟩,
  ⟨8, 15, ⟨(some 188), .call 462 [(.t 184), (.t 187)], none⟩⟩,
  ⟨0, 0, ⟨(some 180), .lo (.mv (.t 19)), none⟩⟩,
  ⟨1, 0, ⟨(some 181), .lo (.mv (.t 19)), none⟩⟩,
  ⟨2, 64, ⟨(some 182), .lo (.iarr 25 1 (.t 1) (.t 181)), none⟩⟩,
  ⟨3, 192, ⟨(some 183), .lo (.load false 1 (.t 182)), none⟩⟩,
  ⟨9, 479, ⟨(some 17), .lo (.mv (.t 183)), none⟩⟩,
  ⟨10, 1023, ⟨(some 189), .lo (.iarr 25 1 (.t 1) (.t 180)), none⟩⟩,
  ⟨11, 2047, ⟨none, .lo (.store 1 (.t 189) (.t 188)), none⟩⟩]))))
 (.reg [⟨(some 190), .lo (.ari .add (.t 176) (.c (.int .i64 1))), none⟩,
  ⟨(some 176), .lo (.mv (.t 190)), none⟩])))))))))))
 ((.seq ((.seq (.reg [⟨(some 20), .lo (.mv (.c (.int .i64 0))), none⟩])
 (.block 6 (.loop ((.seq ((.seq (.reg [⟨(some 191), .lo (.mv (.t 20)), none⟩,
  ⟨(some 192), .lo (.ari .lss (.t 191) (.c (.int .i64 25))), none⟩])
 (.cond (.t 192) (.skip) (.exit 6))))
 ((.seq (.block 7 ((.seq (.reg [⟨(some 195), .lo (.mv (.t 20)), none⟩,
  ⟨(some 196), .lo (.slarr 25 1 (.t 1) (some (.t 195)) none), none⟩,
  ⟨(some 197), .lo (.s2a 5 1 (.t 196)), none⟩,
  ⟨(some 21), .lo (.mv (.t 197)), none⟩])
 ((.seq (.regd [⟨0, 0, ⟨(some 198), .lo (.mv (.t 21)), none⟩⟩,
  ⟨1, 1, ⟨(some 199), .lo (.nilc (.t 198)), none⟩⟩,
  ⟨2, 3, ⟨(some 200), .lo (.iarr 5 1 (.t 199) (.c (.int .i64 0))), none⟩⟩,
  ⟨3, 7, ⟨(some 201), .lo (.load false 1 (.t 200)), none⟩⟩,
  ⟨4, 0, ⟨(some 202), .lo (.mv (.t 21)), none⟩⟩,
  ⟨5, 16, ⟨(some 203), .lo (.nilc (.t 202)), none⟩⟩,
  ⟨6, 48, ⟨(some 204), .lo (.iarr 5 1 (.t 203) (.c (.int .i64 1))), none⟩⟩,
  ⟨7, 112, ⟨(some 205), .lo (.load false 1 (.t 204)), none⟩⟩,
  ⟨8, 0, ⟨(some 206), .lo (.mv (.t 21)), none⟩⟩,
  ⟨9, 256, ⟨(some 207), .lo (.nilc (.t 206)), none⟩⟩,
  ⟨10, 768, ⟨(some 208), .lo (.iarr 5 1 (.t 207) (.c (.int .i64 2))), none⟩⟩,
  ⟨11, 1792, ⟨(some 209), .lo (.load false 1 (.t 208)), none⟩⟩,
  ⟨12, 0, ⟨(some 210), .lo (.mv (.t 21)), none⟩⟩,
  ⟨13, 4096, ⟨(some 211), .lo (.nilc (.t 210)), none⟩⟩,
  ⟨14, 12288, ⟨(some 212), .lo (.iarr 5 1 (.t 211) (.c (.int .i64 3))), none⟩⟩,
  ⟨15, 28672, ⟨(some 213), .lo (.load false 1 (.t 212)), none⟩⟩,
  ⟨16, 0, ⟨(some 214), .lo (.mv (.t 21)), none⟩⟩,
  ⟨17, 65536, ⟨(some 215), .lo (.nilc (.t 214)), none⟩⟩,
  ⟨18, 196608, ⟨(some 216), .lo (.iarr 5 1 (.t 215) (.c (.int .i64 4))), none⟩⟩,
  ⟨19, 458752, ⟨(some 217), .lo (.load false 1 (.t 216)), none⟩⟩,
  ⟨20, 15, ⟨(some 22), .lo (.mv (.t 201)), none⟩⟩,
  ⟨21, 1048831, ⟨(some 23), .lo (.mv (.t 205)), none⟩⟩,
  ⟨22, 3149823, ⟨(some 24), .lo (.mv (.t 209)), none⟩⟩,
  ⟨23, 7405567, ⟨(some 25), .lo (.mv (.t 213)), none⟩⟩,
  ⟨24, 16777215, ⟨(some 26), .lo (.mv (.t 217)), none⟩⟩])
 (.regd [⟨0, 0, ⟨(some 218), .lo (.mv (.t 21)), none⟩⟩,
  ⟨5, 0, ⟨(some 223), .lo (.mv (.t 22)), none⟩⟩,
  ⟨6, 0, ⟨(some 224), .lo (.mv (.t 23)), none⟩⟩,
  ⟨7, 4, ⟨(some 225), .lo (.un .xor (.t 224)), none⟩⟩,
  ⟨8, 0, ⟨(some 226), .lo (.mv (.t 24)), none⟩⟩,
  ⟨9, 28, ⟨(some 227), .lo (.ari .and (.t 225) (.t 226)), none⟩⟩,
  ⟨10, 62, ⟨(some 228), .lo (.ari .xor (.t 223) (.t 227)), none⟩⟩,
  ⟨35, 1, ⟨(some 253), .lo (.nilc (.t 218)), none⟩⟩,
  ⟨36, 255, ⟨(some 254), .lo (.iarr 5 1 (.t 253) (.c (.int .i64 0))), none⟩⟩,
  ⟨37, 511, ⟨none, .lo (.store 1 (.t 254) (.t 228)), none⟩⟩,
  ⟨1, 0, ⟨(some 219), .lo (.mv (.t 21)), none⟩⟩,
  ⟨11, 0, ⟨(some 229), .lo (.mv (.t 23)), none⟩⟩,
  ⟨12, 0, ⟨(some 230), .lo (.mv (.t 24)), none⟩⟩,
  ⟨13, 4096, ⟨(some 231), .lo (.un .xor (.t 230)), none⟩⟩,
  ⟨14, 0, ⟨(some 232), .lo (.mv (.t 25)), none⟩⟩,
  ⟨15, 28672, ⟨(some 233), .lo (.ari .and (.t 231) (.t 232)), none⟩⟩,
  ⟨16, 63488, ⟨(some 234), .lo (.ari .xor (.t 229) (.t 233)), none⟩⟩,
  ⟨38, 1024, ⟨(some 255), .lo (.nilc (.t 219)), none⟩⟩,
  ⟨39, 262143, ⟨(some 256), .lo (.iarr 5 1 (.t 255) (.c (.int .i64 1))), none⟩⟩,
  ⟨40, 524287, ⟨none, .lo (.store 1 (.t 256) (.t 234)), none⟩⟩,
  ⟨2, 0, ⟨(some 220), .lo (.mv (.t 21)), none⟩⟩,
  ⟨17, 0, ⟨(some 235), .lo (.mv (.t 24)), none⟩⟩,
  ⟨18, 0, ⟨(some 236), .lo (.mv (.t 25)), none⟩⟩,
  ⟨19, 4194304, ⟨(some 237), .lo (.un .xor (.t 236)), none⟩⟩,
  ⟨20, 0, ⟨(some 238), .lo (.mv (.t 26)), none⟩⟩,
  ⟨21, 29360128, ⟨(some 239), .lo (.ari .and (.t 237) (.t 238)), none⟩⟩,
  ⟨22, 65011712, ⟨(some 240), .lo (.ari .xor (.t 235) (.t 239)), none⟩⟩,
  ⟨41, 1048576, ⟨(some 257), .lo (.nilc (.t 220)), none⟩⟩,
  ⟨42, 268435455, ⟨(some 258), .lo (.iarr 5 1 (.t 257) (.c (.int .i64 2))), none⟩⟩,
  ⟨43, 536870911, ⟨none, .lo (.store 1 (.t 258) (.t 240)), none⟩⟩,
  ⟨3, 0, ⟨(some 221), .lo (.mv (.t 21)), none⟩⟩,
  ⟨23, 0, ⟨(some 241), .lo (.mv (.t 25)), none⟩⟩,
  ⟨24, 0, ⟨(some 242), .lo (.mv (.t 26)), none⟩⟩,
  ⟨25, 4294967296, ⟨(some 243), .lo (.un .xor (.t 242)), none⟩⟩,
  ⟨26, 0, ⟨(some 244), .lo (.mv (.t 22)), none⟩⟩,
  ⟨27, 30064771072, ⟨(some 245), .lo (.ari .and (.t 243) (.t 244)), none⟩⟩,
  ⟨28, 66571993088, ⟨(some 246), .lo (.ari .xor (.t 241) (.t 245)), none⟩⟩,
  ⟨44, 1073741824, ⟨(some 259), .lo (.nilc (.t 221)), none⟩⟩,
  ⟨45, 274877906943, ⟨(some 260), .lo (.iarr 5 1 (.t 259) (.c (.int .i64 3))), none⟩⟩,
  ⟨46, 549755813887, ⟨none, .lo (.store 1 (.t 260) (.t 246)), none⟩⟩,
  ⟨4, 0, ⟨(some 222), .lo (.mv (.t 21)), none⟩⟩,
  ⟨29, 0, ⟨(some 247), .lo (.mv (.t 26)), none⟩⟩,
  ⟨30, 0, ⟨(some 248), .lo (.mv (.t 22)), none⟩⟩,
  ⟨31, 4398046511104, ⟨(some 249), .lo (.un .xor (.t 248)), none⟩⟩,
  ⟨32, 0, ⟨(some 250), .lo (.mv (.t 23)), none⟩⟩,
  ⟨33, 30786325577728, ⟨(some 251), .lo (.ari .and (.t 249) (.t 250)), none⟩⟩,
  ⟨34, 68169720922112, ⟨(some 252), .lo (.ari .xor (.t 247) (.t 251)), none⟩⟩,
  ⟨47, 1099511627776, ⟨(some 261), .lo (.nilc (.t 222)), none⟩⟩,
  ⟨48, 281474976710655, ⟨(some 262), .lo (.iarr 5 1 (.t 261) (.c (.int .i64 4))), none⟩⟩,
  ⟨49, 562949953421311, ⟨none, .lo (.store 1 (.t 262) (.t 252)), none⟩⟩]))))))
 (.reg [⟨(some 193), .lo (.mv (.t 20)), none⟩,
  ⟨(some 194), .lo (.ari .add (.t 193) (.c (.int .i64 5))), none⟩,
  ⟨(some 20), .lo (.mv (.t 194)), none⟩])))))))))
 (.reg [⟨(some 263), .lo (.iarr 25 1 (.t 1) (.c (.int .i64 0))), none⟩,
  ⟨(some 264), .lo (.load false 1 (.t 263)), none⟩,
  ⟨(some 265), .lo (.mv (.t 4)), none⟩,
  ⟨(some 266), .lo (.ari .xor (.t 264) (.t 265)), none⟩,
  ⟨(some 267), .lo (.iarr 25 1 (.t 1) (.c (.int .i64 0))), none⟩,
  ⟨none, .lo (.store 1 (.t 267) (.t 266)), none⟩]))))))))))))))))
 (.reg [⟨(some 268), .lo (.ari .add (.t 28) (.c (.int .i64 1))), none⟩,
  ⟨(some 28), .lo (.mv (.t 268)), none⟩])))))))))))
 ((.seq (.reg [⟨(some 269), .lo (.load true 25 (.t 1)), none⟩,
  ⟨none, .lo (.store 25 (.t 2) (.t 269)), none⟩])
 (.ret))))))
def f417 : LF := ⟨c417, 1, 0, 270, [.cell 2 true 25]⟩

/-- math/bits.RotateLeft64 -/
def c462 : LC := (.seq (.reg [⟨(some 4), .lo (.mv (.c (.int .u64 0))), none⟩])
 ((.seq (.reg [⟨(some 6), .lo (.mv (.t 1)), none⟩,
  ⟨(some 7), .lo (.conv .u64 (.t 6)), none⟩,
  ⟨(some 8), .lo (.ari .and (.t 7) (.c (.int .u64 63))), none⟩,
  ⟨(some 5), .lo (.mv (.t 8)), none⟩])
 ((.seq (.reg [⟨(some 9), .lo (.mv (.t 0)), none⟩,
  ⟨(some 10), .lo (.mv (.t 5)), none⟩,
  ⟨(some 11), .lo (.ari .shl (.t 9) (.t 10)), none⟩,
  ⟨(some 12), .lo (.mv (.t 0)), none⟩,
  ⟨(some 13), .lo (.mv (.t 5)), none⟩,
  ⟨(some 14), .lo (.ari .sub (.c (.int .u64 64)) (.t 13)), none⟩,
  ⟨(some 15), .lo (.ari .shr (.t 12) (.t 14)), none⟩,
  ⟨(some 16), .lo (.ari .or (.t 11) (.t 15)), none⟩,
  ⟨(some 4), .lo (.mv (.t 16)), none⟩])
 (.ret))))))
def f462 : LF := ⟨c462, 2, 0, 17, [.tmp 4]⟩

end Mv
namespace Mv
open Go
/-- The seat has these functions. -/
structure OkA (M : Seat) : Prop where
  k3 : chkF M 3 f3 = true
  k46 : chkF M 46 f46 = true
  k47 : chkF M 47 f47 = true
  k48 : chkF M 48 f48 = true
  k49 : chkF M 49 f49 = true
  k50 : chkF M 50 f50 = true
  k51 : chkF M 51 f51 = true
  k52 : chkF M 52 f52 = true
  k53 : chkF M 53 f53 = true
  k74 : chkF M 74 f74 = true
  k196 : chkF M 196 f196 = true
  k197 : chkF M 197 f197 = true
  k198 : chkF M 198 f198 = true
  k200 : chkF M 200 f200 = true
  k201 : chkF M 201 f201 = true
  k207 : chkF M 207 f207 = true
  k315 : chkF M 315 f315 = true
  k316 : chkF M 316 f316 = true
  k317 : chkF M 317 f317 = true
  k318 : chkF M 318 f318 = true
  k312 : chkF M 312 f312 = true
  k417 : chkF M 417 f417 = true
  k462 : chkF M 462 f462 = true
  k199 : chkF M 199 f199 = true
  k202 : chkF M 202 f202 = true
end Mv
