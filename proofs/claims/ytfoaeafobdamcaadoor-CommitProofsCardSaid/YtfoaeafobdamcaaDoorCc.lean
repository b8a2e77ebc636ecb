/- Functions' codes. -/
import Derived.Test.YtfoaeafobdamcaaDoorT
import Derived.Test.YtfoaeafobdamcaaDoorM
set_option linter.unusedSimpArgs false
set_option linter.unusedVariables false
namespace Mv
open Go
/-- moot/mootlaw11.CommitRoots -/
def c4 : LC := (.seq (.reg [⟨(some 10), .lo (.mv (.c (.bool false))), none⟩])
 ((.seq (.reg [⟨(some 22), .lo (.mv (.t 0)), none⟩,
  ⟨(some 23), .lo (.mv (.t 1)), none⟩,
  ⟨(some 24), .lo (.mv (.t 2)), none⟩,
  ⟨(some 25), .lo (.mv (.t 3)), none⟩,
  ⟨(some 26), .lo (.mv (.t 4)), none⟩,
  ⟨(some 27), .call 46 [(.t 22), (.t 23), (.t 24), (.t 25), (.t 26)], none⟩,
  ⟨(some 21), .lo (.mv (.t 27)), none⟩,
  ⟨(some 28), .lo (.ext (.t 21) 0), none⟩,
  ⟨(some 29), .lo (.ext (.t 21) 1), none⟩,
  ⟨(some 11), .lo (.mv (.t 28)), none⟩,
  ⟨(some 12), .lo (.mv (.t 29)), none⟩])
 ((.seq ((.seq (.reg [⟨(some 30), .lo (.mv (.t 11)), none⟩,
  ⟨(some 31), .lo (.eq false true .ptr (.t 30) (.c .nilp)), none⟩,
  ⟨(some 32), .lo (.mv (.t 31)), none⟩,
  ⟨(some 33), .call 47 [], (some (32, false))⟩,
  ⟨(some 34), .lo (.un .not (.t 33)), (some (32, false))⟩,
  ⟨(some 35), .lo (.pick (.t 32) (.c (.bool true)) (.t 34)), none⟩])
 (.cond (.t 35) ((.seq (.reg [⟨(some 10), .lo (.mv (.c (.bool false))), none⟩])
 (.ret))) (.skip))))
 ((.seq (.reg [⟨(some 37), .lo (.mv (.t 11)), none⟩,
  ⟨(some 38), .call 54 [(.t 37)], none⟩,
  ⟨(some 36), .lo (.mv (.t 38)), none⟩,
  ⟨(some 39), .lo (.ext (.t 36) 0), none⟩,
  ⟨(some 40), .lo (.ext (.t 36) 1), none⟩,
  ⟨(some 13), .lo (.alloc (.ar 32 (.int .u8))), none⟩,
  ⟨none, .lo (.store 32 (.t 13) (.t 39)), none⟩,
  ⟨(some 14), .lo (.mv (.t 40)), none⟩])
 ((.seq (.reg [⟨(some 42), .lo (.mv (.t 11)), none⟩,
  ⟨(some 43), .call 51 [(.t 42)], none⟩,
  ⟨(some 41), .lo (.mv (.t 43)), none⟩,
  ⟨(some 44), .lo (.ext (.t 41) 0), none⟩,
  ⟨(some 45), .lo (.ext (.t 41) 1), none⟩,
  ⟨(some 15), .lo (.alloc (.ar 32 (.int .u8))), none⟩,
  ⟨none, .lo (.store 32 (.t 15) (.t 44)), none⟩,
  ⟨(some 16), .lo (.mv (.t 45)), none⟩])
 ((.seq (.reg [⟨(some 47), .lo (.mv (.t 11)), none⟩,
  ⟨(some 48), .call 55 [(.t 47)], none⟩,
  ⟨(some 46), .lo (.mv (.t 48)), none⟩,
  ⟨(some 49), .lo (.ext (.t 46) 0), none⟩,
  ⟨(some 50), .lo (.ext (.t 46) 1), none⟩,
  ⟨(some 17), .lo (.alloc (.st (.cons (.ar 16 (.int .u64)) (.cons (.int .u64) (.cons .bool (.cons (.int .u64) .nil)))))), none⟩,
  ⟨none, .lo (.store 19 (.t 17) (.t 49)), none⟩,
  ⟨(some 18), .lo (.mv (.t 50)), none⟩])
 ((.seq (.reg [⟨(some 52), .lo (.mv (.t 12)), none⟩,
  ⟨(some 53), .lo (.nilc (.t 52)), none⟩,
  ⟨(some 54), .lo (.fadr 0 (.t 53)), none⟩,
  ⟨(some 55), .lo (.load false 1 (.t 54)), none⟩,
  ⟨(some 56), .call 57 [(.t 55)], none⟩,
  ⟨(some 57), .call 56 [(.c (.int .i64 13)), (.t 56)], none⟩,
  ⟨(some 51), .lo (.mv (.t 57)), none⟩,
  ⟨(some 58), .lo (.ext (.t 51) 0), none⟩,
  ⟨(some 59), .lo (.ext (.t 51) 1), none⟩,
  ⟨(some 19), .lo (.alloc (.ar 32 (.int .u8))), none⟩,
  ⟨none, .lo (.store 32 (.t 19) (.t 58)), none⟩,
  ⟨(some 20), .lo (.mv (.t 59)), none⟩])
 ((.seq (.regd [⟨0, 0, ⟨(some 60), .lo (.mv (.t 14)), none⟩⟩,
  ⟨1, 1, ⟨(some 61), .lo (.eq false true (.iface [74]) (.t 60) (.c .nili)), none⟩⟩,
  ⟨2, 3, ⟨(some 62), .lo (.mv (.t 61)), none⟩⟩,
  ⟨3, 7, ⟨(some 63), .lo (.mv (.t 16)), (some (62, true))⟩⟩,
  ⟨4, 15, ⟨(some 64), .lo (.eq false true (.iface [74]) (.t 63) (.c .nili)), (some (62, true))⟩⟩,
  ⟨5, 31, ⟨(some 65), .lo (.pick (.t 62) (.t 64) (.c (.bool false))), none⟩⟩,
  ⟨6, 63, ⟨(some 66), .lo (.mv (.t 65)), none⟩⟩,
  ⟨7, 127, ⟨(some 67), .lo (.mv (.t 18)), (some (66, true))⟩⟩,
  ⟨8, 255, ⟨(some 68), .lo (.eq false true (.iface [74]) (.t 67) (.c .nili)), (some (66, true))⟩⟩,
  ⟨9, 511, ⟨(some 69), .lo (.pick (.t 66) (.t 68) (.c (.bool false))), none⟩⟩,
  ⟨10, 1023, ⟨(some 70), .lo (.mv (.t 69)), none⟩⟩,
  ⟨12, 2047, ⟨(some 72), .lo (.mv (.t 12)), (some (70, true))⟩⟩,
  ⟨13, 4095, ⟨(some 73), .call 58 [(.t 72)], (some (70, true))⟩⟩,
  ⟨11, 2047, ⟨(some 71), .lo (.load true 32 (.t 13)), (some (70, true))⟩⟩,
  ⟨14, 16383, ⟨(some 74), .lo (.eq false false (.ar 32 1 false .int) (.t 71) (.t 73)), (some (70, true))⟩⟩,
  ⟨15, 32767, ⟨(some 75), .lo (.pick (.t 70) (.t 74) (.c (.bool false))), none⟩⟩,
  ⟨16, 65535, ⟨(some 76), .lo (.mv (.t 75)), none⟩⟩,
  ⟨17, 131071, ⟨(some 77), .lo (.load true 32 (.t 15)), (some (76, true))⟩⟩,
  ⟨18, 131071, ⟨(some 78), .lo (.load true 32 (.t 19)), (some (76, true))⟩⟩,
  ⟨19, 524287, ⟨(some 79), .lo (.eq false false (.ar 32 1 false .int) (.t 77) (.t 78)), (some (76, true))⟩⟩,
  ⟨20, 1048575, ⟨(some 80), .lo (.pick (.t 76) (.t 79) (.c (.bool false))), none⟩⟩,
  ⟨21, 2097151, ⟨(some 81), .lo (.mv (.t 80)), none⟩⟩,
  ⟨22, 4194303, ⟨(some 82), .lo (.load true 19 (.t 17)), (some (81, true))⟩⟩,
  ⟨23, 8388607, ⟨(some 83), .call 59 [(.t 82)], (some (81, true))⟩⟩,
  ⟨24, 4194303, ⟨(some 84), .lo (.mv (.t 12)), (some (81, true))⟩⟩,
  ⟨25, 33554431, ⟨(some 85), .call 61 [(.t 84)], (some (81, true))⟩⟩,
  ⟨26, 67108863, ⟨(some 86), .call 60 [(.t 85)], (some (81, true))⟩⟩,
  ⟨27, 134217727, ⟨(some 87), .lo (.eq false false (.ar 32 1 false .int) (.t 83) (.t 86)), (some (81, true))⟩⟩,
  ⟨28, 268435455, ⟨(some 88), .lo (.pick (.t 81) (.t 87) (.c (.bool false))), none⟩⟩,
  ⟨29, 536870911, ⟨(some 89), .lo (.mv (.t 88)), none⟩⟩,
  ⟨30, 1073741823, ⟨(some 90), .lo (.load true 32 (.t 15)), (some (89, true))⟩⟩,
  ⟨31, 1073741823, ⟨(some 91), .lo (.load true 19 (.t 17)), (some (89, true))⟩⟩,
  ⟨32, 4294967295, ⟨(some 92), .call 62 [(.t 90), (.t 91)], (some (89, true))⟩⟩,
  ⟨33, 1073741823, ⟨(some 93), .lo (.load true 32 (.t 13)), (some (89, true))⟩⟩,
  ⟨34, 17179869183, ⟨(some 94), .lo (.eq false false (.ar 32 1 false .int) (.t 92) (.t 93)), (some (89, true))⟩⟩,
  ⟨35, 34359738367, ⟨(some 95), .lo (.pick (.t 89) (.t 94) (.c (.bool false))), none⟩⟩,
  ⟨36, 68719476735, ⟨(some 96), .lo (.mv (.t 95)), none⟩⟩,
  ⟨37, 137438953471, ⟨(some 97), .lo (.fadr 16 (.t 17)), (some (96, true))⟩⟩,
  ⟨38, 274877906943, ⟨(some 98), .lo (.load false 1 (.t 97)), (some (96, true))⟩⟩,
  ⟨39, 137438953471, ⟨(some 99), .lo (.mv (.t 2)), (some (96, true))⟩⟩,
  ⟨40, 1099511627775, ⟨(some 100), .lo (.ari .eql (.t 98) (.t 99)), (some (96, true))⟩⟩,
  ⟨41, 2199023255551, ⟨(some 101), .lo (.pick (.t 96) (.t 100) (.c (.bool false))), none⟩⟩,
  ⟨42, 4398046511103, ⟨(some 102), .lo (.mv (.t 101)), none⟩⟩,
  ⟨43, 8796093022207, ⟨(some 103), .lo (.fadr 18 (.t 17)), (some (102, true))⟩⟩,
  ⟨44, 17592186044415, ⟨(some 104), .lo (.load false 1 (.t 103)), (some (102, true))⟩⟩,
  ⟨45, 8796093022207, ⟨(some 105), .lo (.mv (.t 3)), (some (102, true))⟩⟩,
  ⟨46, 70368744177663, ⟨(some 106), .lo (.ari .eql (.t 104) (.t 105)), (some (102, true))⟩⟩,
  ⟨47, 140737488355327, ⟨(some 107), .lo (.pick (.t 102) (.t 106) (.c (.bool false))), none⟩⟩,
  ⟨48, 281474976710655, ⟨(some 108), .lo (.mv (.t 107)), none⟩⟩,
  ⟨49, 562949953421311, ⟨(some 109), .lo (.fadr 17 (.t 17)), (some (108, true))⟩⟩,
  ⟨50, 1125899906842623, ⟨(some 110), .lo (.load false 1 (.t 109)), (some (108, true))⟩⟩,
  ⟨51, 562949953421311, ⟨(some 111), .lo (.mv (.t 4)), (some (108, true))⟩⟩,
  ⟨52, 4503599627370495, ⟨(some 112), .lo (.eq false false .bool (.t 110) (.t 111)), (some (108, true))⟩⟩,
  ⟨53, 9007199254740991, ⟨(some 113), .lo (.pick (.t 108) (.t 112) (.c (.bool false))), none⟩⟩,
  ⟨54, 18014398509481983, ⟨(some 114), .lo (.mv (.t 113)), none⟩⟩,
  ⟨55, 36028797018963967, ⟨(some 115), .lo (.fadr 0 (.t 17)), (some (114, true))⟩⟩,
  ⟨56, 72057594037927935, ⟨(some 116), .lo (.load true 16 (.t 115)), (some (114, true))⟩⟩,
  ⟨57, 36028797018963967, ⟨(some 117), .lo (.mv (.t 11)), (some (114, true))⟩⟩,
  ⟨58, 180143985094819839, ⟨(some 118), .lo (.nilc (.t 117)), (some (114, true))⟩⟩,
  ⟨59, 468374361246531583, ⟨(some 119), .lo (.fadr 8192 (.t 118)), (some (114, true))⟩⟩,
  ⟨60, 1044835113549955071, ⟨(some 120), .lo (.load true 16 (.t 119)), (some (114, true))⟩⟩,
  ⟨61, 2305843009213693951, ⟨(some 121), .lo (.eq false false (.ar 16 1 false .int) (.t 116) (.t 120)), (some (114, true))⟩⟩,
  ⟨62, 4611686018427387903, ⟨(some 122), .lo (.pick (.t 114) (.t 121) (.c (.bool false))), none⟩⟩,
  ⟨63, 9223372036854775807, ⟨(some 10), .lo (.mv (.t 122)), none⟩⟩])
 (.ret))))))))))))))))
def f4 : LF := ⟨c4, 5, 0, 123, [.tmp 10]⟩

/-- moot/commit.Of -/
def c54 : LC := (.seq (.reg [⟨(some 2), .lo (.alloc (.ar 32 (.int .u8))), none⟩,
  ⟨(some 3), .lo (.mv (.c .nili)), none⟩])
 ((.seq (.reg [⟨(some 8), .lo (.mv (.t 0)), none⟩,
  ⟨(some 9), .call 55 [(.t 8)], none⟩,
  ⟨(some 7), .lo (.mv (.t 9)), none⟩,
  ⟨(some 10), .lo (.ext (.t 7) 0), none⟩,
  ⟨(some 11), .lo (.ext (.t 7) 1), none⟩,
  ⟨(some 4), .lo (.alloc (.st (.cons (.ar 16 (.int .u64)) (.cons (.int .u64) (.cons .bool (.cons (.int .u64) .nil)))))), none⟩,
  ⟨none, .lo (.store 19 (.t 4) (.t 10)), none⟩,
  ⟨(some 5), .lo (.mv (.t 11)), none⟩])
 ((.seq ((.seq (.reg [⟨(some 12), .lo (.mv (.t 5)), none⟩,
  ⟨(some 13), .lo (.eq true true (.iface [74]) (.t 12) (.c .nili)), none⟩])
 (.cond (.t 13) ((.seq (.reg [⟨(some 14), .lo (.build (.ar 32 (.int .u8)) []), none⟩,
  ⟨(some 15), .lo (.mv (.t 5)), none⟩,
  ⟨none, .lo (.store 32 (.t 2) (.t 14)), none⟩,
  ⟨(some 3), .lo (.mv (.t 15)), none⟩])
 (.ret))) (.skip))))
 ((.seq (.reg [⟨(some 17), .lo (.mv (.t 0)), none⟩,
  ⟨(some 18), .call 51 [(.t 17)], none⟩,
  ⟨(some 16), .lo (.mv (.t 18)), none⟩,
  ⟨(some 19), .lo (.ext (.t 16) 0), none⟩,
  ⟨(some 20), .lo (.ext (.t 16) 1), none⟩,
  ⟨(some 6), .lo (.alloc (.ar 32 (.int .u8))), none⟩,
  ⟨none, .lo (.store 32 (.t 6) (.t 19)), none⟩,
  ⟨(some 5), .lo (.mv (.t 20)), none⟩])
 ((.seq (.reg [⟨(some 21), .lo (.load true 32 (.t 6)), none⟩,
  ⟨(some 22), .lo (.load true 19 (.t 4)), none⟩,
  ⟨(some 23), .call 62 [(.t 21), (.t 22)], none⟩,
  ⟨(some 24), .lo (.mv (.t 5)), none⟩,
  ⟨none, .lo (.store 32 (.t 2) (.t 23)), none⟩,
  ⟨(some 3), .lo (.mv (.t 24)), none⟩])
 (.ret))))))))))
def f54 : LF := ⟨c54, 1, 0, 25, [.cell 2 true 32, .tmp 3]⟩

/-- moot/commit.HeadOf -/
def c55 : LC := (.seq (.reg [⟨(some 2), .lo (.alloc (.st (.cons (.ar 16 (.int .u64)) (.cons (.int .u64) (.cons .bool (.cons (.int .u64) .nil)))))), none⟩,
  ⟨(some 3), .lo (.mv (.c .nili)), none⟩])
 ((.seq ((.seq (.reg [⟨(some 4), .lo (.mv (.t 0)), none⟩,
  ⟨(some 5), .lo (.eq false true .ptr (.t 4) (.c .nilp)), none⟩])
 (.cond (.t 5) ((.seq (.reg [⟨(some 6), .lo (.build (.st (.cons (.ar 16 (.int .u64)) (.cons (.int .u64) (.cons .bool (.cons (.int .u64) .nil))))) []), none⟩,
  ⟨(some 7), .lo (.mkif 74 (.c (.int .i64 1))), none⟩,
  ⟨none, .lo (.store 19 (.t 2) (.t 6)), none⟩,
  ⟨(some 3), .lo (.mv (.t 7)), none⟩])
 (.ret))) (.skip))))
 ((.seq (.regd [⟨0, 0, ⟨(some 8), .lo (.mv (.t 0)), none⟩⟩,
  ⟨1, 1, ⟨(some 9), .lo (.nilc (.t 8)), none⟩⟩,
  ⟨2, 3, ⟨(some 10), .lo (.fadr 8192 (.t 9)), none⟩⟩,
  ⟨3, 7, ⟨(some 11), .lo (.load true 16 (.t 10)), none⟩⟩,
  ⟨4, 0, ⟨(some 12), .lo (.mv (.t 0)), none⟩⟩,
  ⟨5, 16, ⟨(some 13), .lo (.nilc (.t 12)), none⟩⟩,
  ⟨6, 48, ⟨(some 14), .lo (.fadr 8208 (.t 13)), none⟩⟩,
  ⟨7, 112, ⟨(some 15), .lo (.load false 1 (.t 14)), none⟩⟩,
  ⟨8, 0, ⟨(some 16), .lo (.mv (.t 0)), none⟩⟩,
  ⟨9, 256, ⟨(some 17), .lo (.nilc (.t 16)), none⟩⟩,
  ⟨10, 768, ⟨(some 18), .lo (.fadr 8209 (.t 17)), none⟩⟩,
  ⟨11, 1792, ⟨(some 19), .lo (.load false 1 (.t 18)), none⟩⟩,
  ⟨12, 0, ⟨(some 20), .lo (.mv (.t 0)), none⟩⟩,
  ⟨13, 4096, ⟨(some 21), .lo (.nilc (.t 20)), none⟩⟩,
  ⟨14, 12288, ⟨(some 22), .lo (.fadr 8210 (.t 21)), none⟩⟩,
  ⟨15, 28672, ⟨(some 23), .lo (.load false 1 (.t 22)), none⟩⟩,
  ⟨16, 65535, ⟨(some 24), .lo (.build (.st (.cons (.ar 16 (.int .u64)) (.cons (.int .u64) (.cons .bool (.cons (.int .u64) .nil))))) [(.f 0, 16, (.t 11)), (.f 16, 1, (.t 15)), (.f 17, 1, (.t 19)), (.f 18, 1, (.t 23))]), none⟩⟩,
  ⟨17, 131071, ⟨none, .lo (.store 19 (.t 2) (.t 24)), none⟩⟩,
  ⟨18, 262143, ⟨(some 3), .lo (.mv (.c .nili)), none⟩⟩])
 (.ret))))))
def f55 : LF := ⟨c55, 1, 0, 25, [.cell 2 true 19, .tmp 3]⟩

/-- moot/commit.Digest -/
def c59 : LC := (.seq (.reg [⟨(some 1), .lo (.box (.t 0)), none⟩,
  ⟨(some 2), .lo (.alloc (.ar 32 (.int .u8))), none⟩])
 ((.seq (.reg [⟨(some 7), .lo (.fadr 0 (.t 1)), none⟩,
  ⟨(some 8), .lo (.slarr 16 1 (.t 7) none none), none⟩,
  ⟨(some 3), .lo (.mv (.t 8)), none⟩])
 ((.seq (.reg [⟨(some 4), .lo (.mv (.c (.int .u64 0))), none⟩])
 ((.seq ((.seq (.reg [⟨(some 9), .lo (.fadr 17 (.t 1)), none⟩,
  ⟨(some 10), .lo (.load false 1 (.t 9)), none⟩])
 (.cond (.t 10) (.reg [⟨(some 4), .lo (.mv (.c (.int .u64 1))), none⟩]) (.skip))))
 ((.seq (.regd [⟨0, 0, ⟨(some 11), .lo (.mv (.t 3)), none⟩⟩,
  ⟨1, 1, ⟨(some 12), .call 208 [(.t 11)], none⟩⟩,
  ⟨2, 0, ⟨(some 13), .lo (.mv (.t 3)), none⟩⟩,
  ⟨3, 4, ⟨(some 14), .lo (.slsl 1 (.t 13) (some (.c (.int .i64 4))) none), none⟩⟩,
  ⟨4, 15, ⟨(some 15), .call 208 [(.t 14)], none⟩⟩,
  ⟨5, 31, ⟨(some 16), .call 207 [(.t 12), (.t 15)], none⟩⟩,
  ⟨6, 0, ⟨(some 17), .lo (.mv (.t 3)), none⟩⟩,
  ⟨7, 64, ⟨(some 18), .lo (.slsl 1 (.t 17) (some (.c (.int .i64 8))) none), none⟩⟩,
  ⟨8, 255, ⟨(some 19), .call 208 [(.t 18)], none⟩⟩,
  ⟨9, 0, ⟨(some 20), .lo (.mv (.t 3)), none⟩⟩,
  ⟨10, 512, ⟨(some 21), .lo (.slsl 1 (.t 20) (some (.c (.int .i64 12))) none), none⟩⟩,
  ⟨11, 2047, ⟨(some 22), .call 208 [(.t 21)], none⟩⟩,
  ⟨12, 4095, ⟨(some 23), .call 207 [(.t 19), (.t 22)], none⟩⟩,
  ⟨13, 0, ⟨(some 5), .lo (.alloc (.ar 32 (.int .u8))), none⟩⟩,
  ⟨14, 0, ⟨(some 6), .lo (.alloc (.ar 32 (.int .u8))), none⟩⟩,
  ⟨15, 32767, ⟨none, .lo (.store 32 (.t 5) (.t 16)), none⟩⟩,
  ⟨16, 65535, ⟨none, .lo (.store 32 (.t 6) (.t 23)), none⟩⟩])
 ((.seq (.regd [⟨0, 0, ⟨(some 24), .lo (.load true 32 (.t 5)), none⟩⟩,
  ⟨1, 0, ⟨(some 25), .lo (.load true 32 (.t 6)), none⟩⟩,
  ⟨2, 3, ⟨(some 26), .call 207 [(.t 24), (.t 25)], none⟩⟩,
  ⟨3, 0, ⟨(some 27), .lo (.fadr 16 (.t 1)), none⟩⟩,
  ⟨4, 8, ⟨(some 28), .lo (.load false 1 (.t 27)), none⟩⟩,
  ⟨5, 0, ⟨(some 29), .lo (.mv (.t 4)), none⟩⟩,
  ⟨6, 0, ⟨(some 30), .lo (.fadr 18 (.t 1)), none⟩⟩,
  ⟨7, 64, ⟨(some 31), .lo (.load false 1 (.t 30)), none⟩⟩,
  ⟨8, 248, ⟨(some 32), .lo (.bsl 1 4 (.int .u64) [(.i 1 0, 1, (.t 28)), (.i 1 1, 1, (.t 29)), (.i 1 2, 1, (.t 31)), (.i 1 3, 1, (.c (.int .u64 0)))]), none⟩⟩,
  ⟨9, 511, ⟨(some 33), .call 208 [(.t 32)], none⟩⟩,
  ⟨10, 1023, ⟨(some 34), .call 207 [(.t 26), (.t 33)], none⟩⟩,
  ⟨11, 2047, ⟨none, .lo (.store 32 (.t 2) (.t 34)), none⟩⟩])
 (.ret))))))))))))
def f59 : LF := ⟨c59, 1, 0, 35, [.cell 2 true 32]⟩

/-- moot/commit.Join -/
def c62 : LC := (.seq (.reg [⟨(some 2), .lo (.box (.t 0)), none⟩,
  ⟨(some 3), .lo (.box (.t 1)), none⟩,
  ⟨(some 4), .lo (.alloc (.ar 32 (.int .u8))), none⟩])
 ((.seq (.regd [⟨1, 0, ⟨(some 6), .lo (.load true 19 (.t 3)), none⟩⟩,
  ⟨2, 1, ⟨(some 7), .call 59 [(.t 6)], none⟩⟩,
  ⟨0, 0, ⟨(some 5), .lo (.load true 32 (.t 2)), none⟩⟩,
  ⟨3, 7, ⟨(some 8), .call 207 [(.t 5), (.t 7)], none⟩⟩,
  ⟨4, 15, ⟨none, .lo (.store 32 (.t 4) (.t 8)), none⟩⟩])
 (.ret))))
def f62 : LF := ⟨c62, 2, 0, 9, [.cell 4 true 32]⟩

/-- moot/commit.four -/
def c208 : LC := (.seq (.reg [⟨(some 2), .lo (.alloc (.ar 32 (.int .u8))), none⟩])
 ((.seq (.reg [⟨(some 3), .lo (.alloc (.ar 32 (.int .u8))), none⟩])
 ((.seq ((.seq (.reg [⟨(some 5), .lo (.mv (.c (.int .i64 0))), none⟩])
 (.block 0 (.loop ((.seq (.reg [⟨(some 6), .lo (.ari .lss (.t 5) (.c (.int .i64 4))), none⟩])
 ((.seq (.cond (.t 6) (.skip) (.exit 0))
 ((.seq (.block 1 ((.seq (.reg [⟨(some 7), .lo (.mv (.t 5)), none⟩,
  ⟨(some 4), .lo (.mv (.t 7)), none⟩])
 (.regd [⟨0, 0, ⟨(some 8), .lo (.mv (.t 4)), none⟩⟩,
  ⟨1, 1, ⟨(some 9), .lo (.ari .mul (.c (.int .i64 8)) (.t 8)), none⟩⟩,
  ⟨2, 3, ⟨(some 10), .lo (.slarr 32 1 (.t 3) (some (.t 9)) none), none⟩⟩,
  ⟨3, 0, ⟨(some 11), .lo (.mv (.t 0)), none⟩⟩,
  ⟨4, 0, ⟨(some 12), .lo (.mv (.t 4)), none⟩⟩,
  ⟨5, 24, ⟨(some 13), .lo (.isl 1 (.t 11) (.t 12)), none⟩⟩,
  ⟨6, 56, ⟨(some 14), .lo (.load false 1 (.t 13)), none⟩⟩,
  ⟨7, 127, ⟨(some 15), .call 312 [(.t 10), (.t 14)], none⟩⟩]))))
 (.reg [⟨(some 16), .lo (.ari .add (.t 5) (.c (.int .i64 1))), none⟩,
  ⟨(some 5), .lo (.mv (.t 16)), none⟩])))))))))))
 ((.seq (.reg [⟨(some 17), .lo (.load true 32 (.t 3)), none⟩,
  ⟨none, .lo (.store 32 (.t 2) (.t 17)), none⟩])
 (.ret))))))))
def f208 : LF := ⟨c208, 1, 0, 18, [.cell 2 true 32]⟩

/-- moot/mootref05.Root -/
def c56 : LC := (.seq (.reg [⟨(some 4), .lo (.alloc (.ar 32 (.int .u8))), none⟩,
  ⟨(some 5), .lo (.mv (.c (.int .i64 0))), none⟩])
 ((.seq (.reg [⟨(some 7), .lo (.mv (.t 0)), none⟩,
  ⟨(some 8), .lo (.mv (.t 1)), none⟩,
  ⟨(some 9), .lo (.len 0 (.t 8)), none⟩,
  ⟨(some 10), .call 203 [(.t 7), (.t 9)], none⟩,
  ⟨(some 6), .lo (.mv (.t 10)), none⟩])
 ((.seq ((.seq (.reg [⟨(some 11), .lo (.mv (.t 6)), none⟩,
  ⟨(some 12), .lo (.ari .neq (.t 11) (.c (.int .i64 0))), none⟩])
 (.cond (.t 12) ((.seq (.reg [⟨(some 13), .lo (.build (.ar 32 (.int .u8)) []), none⟩,
  ⟨(some 14), .lo (.mv (.t 6)), none⟩,
  ⟨none, .lo (.store 32 (.t 4) (.t 13)), none⟩,
  ⟨(some 5), .lo (.mv (.t 14)), none⟩])
 (.ret))) (.skip))))
 ((.seq (.reg [⟨(some 15), .lo (.mv (.t 1)), none⟩,
  ⟨(some 16), .lo (.mv (.t 0)), none⟩,
  ⟨(some 17), .call 205 [], none⟩,
  ⟨(some 18), .call 204 [(.t 15), (.c (.int .i64 0)), (.t 16), (.t 17)], none⟩,
  ⟨none, .lo (.store 32 (.t 4) (.t 18)), none⟩,
  ⟨(some 5), .lo (.mv (.c (.int .i64 0))), none⟩])
 (.ret))))))))
def f56 : LF := ⟨c56, 2, 0, 19, [.cell 4 true 32, .tmp 5]⟩

/-- moot/mootref11.Leaves -/
def c57 : LC := (.seq (.reg [⟨(some 2), .lo (.mv (.c .nils)), none⟩])
 ((.seq (.reg [⟨(some 3), .lo (.mv (.c (.int .i64 0))), none⟩])
 ((.seq ((.seq (.reg [⟨(some 4), .lo (.mv (.c (.int .i64 0))), none⟩])
 (.block 0 (.loop ((.seq ((.seq (.reg [⟨(some 7), .lo (.mv (.t 4)), none⟩,
  ⟨(some 8), .lo (.mv (.t 0)), none⟩,
  ⟨(some 9), .lo (.len 0 (.t 8)), none⟩,
  ⟨(some 10), .lo (.ari .lss (.t 7) (.t 9)), none⟩])
 (.cond (.t 10) (.skip) (.exit 0))))
 ((.seq (.block 1 ((.seq (.reg [⟨(some 13), .lo (.mv (.t 0)), none⟩,
  ⟨(some 14), .lo (.mv (.t 4)), none⟩,
  ⟨(some 15), .lo (.isl 1 (.t 13) (.t 14)), none⟩,
  ⟨(some 16), .lo (.load false 1 (.t 15)), none⟩,
  ⟨(some 17), .lo (.ari .neq (.t 16) (.c (.int .u64 0))), none⟩])
 (.cond (.t 17) (.reg [⟨(some 18), .lo (.mv (.t 4)), none⟩,
  ⟨(some 19), .lo (.ari .add (.t 18) (.c (.int .i64 1))), none⟩,
  ⟨(some 3), .lo (.mv (.t 19)), none⟩]) (.skip)))))
 (.reg [⟨(some 11), .lo (.mv (.t 4)), none⟩,
  ⟨(some 12), .lo (.ari .add (.t 11) (.c (.int .i64 1))), none⟩,
  ⟨(some 4), .lo (.mv (.t 12)), none⟩])))))))))
 ((.seq (.reg [⟨(some 5), .lo (.mv (.c .nils)), none⟩])
 ((.seq ((.seq (.reg [⟨(some 6), .lo (.mv (.c (.int .i64 0))), none⟩])
 (.block 2 (.loop ((.seq ((.seq (.reg [⟨(some 20), .lo (.mv (.t 6)), none⟩,
  ⟨(some 21), .lo (.mv (.t 3)), none⟩,
  ⟨(some 22), .lo (.ari .lss (.t 20) (.t 21)), none⟩])
 (.cond (.t 22) (.skip) (.exit 2))))
 ((.seq (.block 3 (.reg [⟨(some 25), .lo (.mv (.t 5)), none⟩,
  ⟨(some 26), .lo (.mv (.t 0)), none⟩,
  ⟨(some 27), .lo (.mv (.t 6)), none⟩,
  ⟨(some 28), .lo (.isl 1 (.t 26) (.t 27)), none⟩,
  ⟨(some 29), .lo (.load false 1 (.t 28)), none⟩,
  ⟨(some 30), .call 66 [(.t 29)], none⟩,
  ⟨(some 31), .lo (.bsl 32 1 (.ar 32 (.int .u8)) [(.i 32 0, 32, (.t 30))]), none⟩,
  ⟨(some 32), .lo (.app 32 32 (.t 25) (.t 31)), none⟩,
  ⟨(some 5), .lo (.mv (.t 32)), none⟩]))
 (.reg [⟨(some 23), .lo (.mv (.t 6)), none⟩,
  ⟨(some 24), .lo (.ari .add (.t 23) (.c (.int .i64 1))), none⟩,
  ⟨(some 6), .lo (.mv (.t 24)), none⟩])))))))))
 ((.seq (.reg [⟨(some 33), .lo (.mv (.t 5)), none⟩,
  ⟨(some 2), .lo (.mv (.t 33)), none⟩])
 (.ret))))))))))))
def f57 : LF := ⟨c57, 1, 0, 34, [.tmp 2]⟩

/-- moot/mootref11.Of -/
def c58 : LC := (.seq (.reg [⟨(some 2), .lo (.alloc (.ar 32 (.int .u8))), none⟩])
 ((.seq (.reg [⟨(some 6), .lo (.mv (.t 0)), none⟩,
  ⟨(some 7), .lo (.nilc (.t 6)), none⟩,
  ⟨(some 8), .lo (.fadr 0 (.t 7)), none⟩,
  ⟨(some 9), .lo (.load false 1 (.t 8)), none⟩,
  ⟨(some 10), .call 57 [(.t 9)], none⟩,
  ⟨(some 11), .call 56 [(.c (.int .i64 13)), (.t 10)], none⟩,
  ⟨(some 5), .lo (.mv (.t 11)), none⟩,
  ⟨(some 12), .lo (.ext (.t 5) 0), none⟩,
  ⟨(some 13), .lo (.ext (.t 5) 1), none⟩,
  ⟨(some 3), .lo (.alloc (.ar 32 (.int .u8))), none⟩,
  ⟨none, .lo (.store 32 (.t 3) (.t 12)), none⟩,
  ⟨(some 4), .lo (.mv (.t 13)), none⟩])
 ((.seq (.regd [⟨1, 0, ⟨(some 15), .lo (.mv (.t 0)), none⟩⟩,
  ⟨2, 1, ⟨(some 16), .call 61 [(.t 15)], none⟩⟩,
  ⟨3, 3, ⟨(some 17), .call 60 [(.t 16)], none⟩⟩,
  ⟨0, 0, ⟨(some 14), .lo (.load true 32 (.t 3)), none⟩⟩,
  ⟨4, 15, ⟨(some 18), .call 206 [(.t 14), (.t 17)], none⟩⟩,
  ⟨5, 31, ⟨none, .lo (.store 32 (.t 2) (.t 18)), none⟩⟩])
 (.ret))))))
def f58 : LF := ⟨c58, 1, 0, 19, [.cell 2 true 32]⟩

/-- moot/mootref11.Digest -/
def c60 : LC := (.seq (.reg [⟨(some 1), .lo (.box (.t 0)), none⟩,
  ⟨(some 2), .lo (.alloc (.ar 32 (.int .u8))), none⟩])
 ((.seq (.reg [⟨(some 9), .lo (.fadr 0 (.t 1)), none⟩,
  ⟨(some 10), .lo (.load false 1 (.t 9)), none⟩,
  ⟨(some 3), .lo (.mv (.t 10)), none⟩])
 ((.seq (.reg [⟨(some 4), .lo (.mv (.c .nils)), none⟩])
 ((.seq ((.seq (.reg [⟨(some 5), .lo (.mv (.c (.int .i64 0))), none⟩])
 (.block 0 (.loop ((.seq ((.seq (.reg [⟨(some 11), .lo (.mv (.t 5)), none⟩,
  ⟨(some 12), .lo (.ari .lss (.t 11) (.c (.int .i64 16))), none⟩])
 (.cond (.t 12) (.skip) (.exit 0))))
 ((.seq (.block 1 (.regd [⟨1, 0, ⟨(some 16), .lo (.mv (.t 3)), none⟩⟩,
  ⟨2, 0, ⟨(some 17), .lo (.mv (.t 5)), none⟩⟩,
  ⟨3, 3, ⟨(some 18), .lo (.isl 1 (.t 16) (.t 17)), none⟩⟩,
  ⟨4, 7, ⟨(some 19), .lo (.load false 1 (.t 18)), none⟩⟩,
  ⟨5, 0, ⟨(some 20), .lo (.mv (.t 3)), none⟩⟩,
  ⟨6, 0, ⟨(some 21), .lo (.mv (.t 5)), none⟩⟩,
  ⟨7, 32, ⟨(some 22), .lo (.ari .add (.t 21) (.c (.int .i64 1))), none⟩⟩,
  ⟨8, 112, ⟨(some 23), .lo (.isl 1 (.t 20) (.t 22)), none⟩⟩,
  ⟨9, 240, ⟨(some 24), .lo (.load false 1 (.t 23)), none⟩⟩,
  ⟨10, 0, ⟨(some 25), .lo (.mv (.t 3)), none⟩⟩,
  ⟨11, 0, ⟨(some 26), .lo (.mv (.t 5)), none⟩⟩,
  ⟨12, 1024, ⟨(some 27), .lo (.ari .add (.t 26) (.c (.int .i64 2))), none⟩⟩,
  ⟨13, 3584, ⟨(some 28), .lo (.isl 1 (.t 25) (.t 27)), none⟩⟩,
  ⟨14, 7680, ⟨(some 29), .lo (.load false 1 (.t 28)), none⟩⟩,
  ⟨15, 0, ⟨(some 30), .lo (.mv (.t 3)), none⟩⟩,
  ⟨16, 0, ⟨(some 31), .lo (.mv (.t 5)), none⟩⟩,
  ⟨17, 32768, ⟨(some 32), .lo (.ari .add (.t 31) (.c (.int .i64 3))), none⟩⟩,
  ⟨18, 114688, ⟨(some 33), .lo (.isl 1 (.t 30) (.t 32)), none⟩⟩,
  ⟨19, 245760, ⟨(some 34), .lo (.load false 1 (.t 33)), none⟩⟩,
  ⟨20, 524287, ⟨(some 35), .call 209 [(.t 19), (.t 24), (.t 29), (.t 34)], none⟩⟩,
  ⟨0, 0, ⟨(some 15), .lo (.mv (.t 4)), none⟩⟩,
  ⟨21, 1048575, ⟨(some 36), .lo (.bsl 32 1 (.ar 32 (.int .u8)) [(.i 32 0, 32, (.t 35))]), none⟩⟩,
  ⟨22, 4194303, ⟨(some 37), .lo (.app 32 32 (.t 15) (.t 36)), none⟩⟩,
  ⟨23, 8388607, ⟨(some 4), .lo (.mv (.t 37)), none⟩⟩]))
 (.reg [⟨(some 13), .lo (.mv (.t 5)), none⟩,
  ⟨(some 14), .lo (.ari .add (.t 13) (.c (.int .i64 4))), none⟩,
  ⟨(some 5), .lo (.mv (.t 14)), none⟩])))))))))
 ((.seq (.reg [⟨(some 39), .lo (.mv (.t 4)), none⟩,
  ⟨(some 40), .call 56 [(.c (.int .i64 2)), (.t 39)], none⟩,
  ⟨(some 38), .lo (.mv (.t 40)), none⟩,
  ⟨(some 41), .lo (.ext (.t 38) 0), none⟩,
  ⟨(some 42), .lo (.ext (.t 38) 1), none⟩,
  ⟨(some 6), .lo (.alloc (.ar 32 (.int .u8))), none⟩,
  ⟨none, .lo (.store 32 (.t 6) (.t 41)), none⟩,
  ⟨(some 7), .lo (.mv (.t 42)), none⟩])
 ((.seq (.reg [⟨(some 8), .lo (.mv (.c (.int .u64 0))), none⟩])
 ((.seq ((.seq (.reg [⟨(some 43), .lo (.fadr 2 (.t 1)), none⟩,
  ⟨(some 44), .lo (.load false 1 (.t 43)), none⟩])
 (.cond (.t 44) (.reg [⟨(some 8), .lo (.mv (.c (.int .u64 1))), none⟩]) (.skip))))
 ((.seq (.regd [⟨1, 0, ⟨(some 46), .lo (.fadr 1 (.t 1)), none⟩⟩,
  ⟨2, 1, ⟨(some 47), .lo (.load false 1 (.t 46)), none⟩⟩,
  ⟨3, 0, ⟨(some 48), .lo (.mv (.t 8)), none⟩⟩,
  ⟨4, 0, ⟨(some 49), .lo (.fadr 3 (.t 1)), none⟩⟩,
  ⟨5, 8, ⟨(some 50), .lo (.load false 1 (.t 49)), none⟩⟩,
  ⟨6, 31, ⟨(some 51), .call 209 [(.t 47), (.t 48), (.t 50), (.c (.int .u64 0))], none⟩⟩,
  ⟨0, 0, ⟨(some 45), .lo (.load true 32 (.t 6)), none⟩⟩,
  ⟨7, 127, ⟨(some 52), .call 206 [(.t 45), (.t 51)], none⟩⟩,
  ⟨8, 255, ⟨none, .lo (.store 32 (.t 2) (.t 52)), none⟩⟩])
 (.ret))))))))))))))))
def f60 : LF := ⟨c60, 1, 0, 53, [.cell 2 true 32]⟩

/-- moot/mootref11.HeadOf -/
def c61 : LC := (.seq (.reg [⟨(some 2), .lo (.alloc (.st (.cons .slice (.cons (.int .u64) (.cons .bool (.cons (.int .u64) .nil)))))), none⟩])
 ((.seq (.regd [⟨0, 0, ⟨(some 3), .lo (.bsl 1 0 (.int .u64) []), none⟩⟩,
  ⟨1, 0, ⟨(some 4), .lo (.mv (.t 0)), none⟩⟩,
  ⟨2, 2, ⟨(some 5), .lo (.nilc (.t 4)), none⟩⟩,
  ⟨3, 6, ⟨(some 6), .lo (.fadr 1 (.t 5)), none⟩⟩,
  ⟨4, 14, ⟨(some 7), .lo (.load false 1 (.t 6)), none⟩⟩,
  ⟨5, 31, ⟨(some 8), .lo (.app 1 8 (.t 3) (.t 7)), none⟩⟩,
  ⟨6, 0, ⟨(some 9), .lo (.mv (.t 0)), none⟩⟩,
  ⟨7, 64, ⟨(some 10), .lo (.nilc (.t 9)), none⟩⟩,
  ⟨8, 192, ⟨(some 11), .lo (.fadr 2 (.t 10)), none⟩⟩,
  ⟨9, 448, ⟨(some 12), .lo (.load false 1 (.t 11)), none⟩⟩,
  ⟨10, 0, ⟨(some 13), .lo (.mv (.t 0)), none⟩⟩,
  ⟨11, 1024, ⟨(some 14), .lo (.nilc (.t 13)), none⟩⟩,
  ⟨12, 3072, ⟨(some 15), .lo (.fadr 3 (.t 14)), none⟩⟩,
  ⟨13, 7168, ⟨(some 16), .lo (.load false 1 (.t 15)), none⟩⟩,
  ⟨14, 0, ⟨(some 17), .lo (.mv (.t 0)), none⟩⟩,
  ⟨15, 16384, ⟨(some 18), .lo (.nilc (.t 17)), none⟩⟩,
  ⟨16, 49152, ⟨(some 19), .lo (.fadr 4 (.t 18)), none⟩⟩,
  ⟨17, 114688, ⟨(some 20), .lo (.load false 1 (.t 19)), none⟩⟩,
  ⟨18, 262143, ⟨(some 21), .lo (.build (.st (.cons .slice (.cons (.int .u64) (.cons .bool (.cons (.int .u64) .nil))))) [(.f 0, 1, (.t 8)), (.f 1, 1, (.t 12)), (.f 2, 1, (.t 16)), (.f 3, 1, (.t 20))]), none⟩⟩,
  ⟨19, 524287, ⟨none, .lo (.store 4 (.t 2) (.t 21)), none⟩⟩])
 (.ret))))
def f61 : LF := ⟨c61, 1, 0, 22, [.cell 2 true 4]⟩

/-- moot/mootref05.Wrong -/
def c203 : LC := (.seq (.reg [⟨(some 4), .lo (.mv (.c (.int .i64 0))), none⟩])
 ((.seq ((.seq (.reg [⟨(some 5), .lo (.mv (.t 0)), none⟩,
  ⟨(some 6), .lo (.ari .lss (.t 5) (.c (.int .i64 0))), none⟩,
  ⟨(some 7), .lo (.mv (.t 6)), none⟩,
  ⟨(some 8), .lo (.mv (.t 0)), (some (7, false))⟩,
  ⟨(some 9), .lo (.ari .gtr (.t 8) (.c (.int .i64 16))), (some (7, false))⟩,
  ⟨(some 10), .lo (.pick (.t 7) (.c (.bool true)) (.t 9)), none⟩])
 (.cond (.t 10) ((.seq (.reg [⟨(some 4), .lo (.mv (.c (.int .i64 2))), none⟩])
 (.ret))) (.skip))))
 ((.seq ((.seq (.reg [⟨(some 11), .lo (.mv (.t 1)), none⟩,
  ⟨(some 12), .lo (.mv (.t 0)), none⟩,
  ⟨(some 13), .lo (.conv .u64 (.t 12)), none⟩,
  ⟨(some 14), .lo (.ari .shl (.c (.int .i64 1)) (.t 13)), none⟩,
  ⟨(some 15), .lo (.ari .gtr (.t 11) (.t 14)), none⟩])
 (.cond (.t 15) ((.seq (.reg [⟨(some 4), .lo (.mv (.c (.int .i64 5))), none⟩])
 (.ret))) (.skip))))
 ((.seq (.reg [⟨(some 4), .lo (.mv (.c (.int .i64 0))), none⟩])
 (.ret))))))))
def f203 : LF := ⟨c203, 2, 0, 16, [.tmp 4]⟩

/-- moot/mootref05.Under -/
def c204 : LC := (.seq (.reg [⟨(some 8), .lo (.alloc (.ar 32 (.int .u8))), none⟩])
 ((.seq ((.seq (.reg [⟨(some 9), .lo (.mv (.t 1)), none⟩,
  ⟨(some 10), .lo (.mv (.t 0)), none⟩,
  ⟨(some 11), .lo (.len 0 (.t 10)), none⟩,
  ⟨(some 12), .lo (.ari .geq (.t 9) (.t 11)), none⟩])
 (.cond (.t 12) ((.seq (.reg [⟨(some 13), .lo (.mv (.t 3)), none⟩,
  ⟨(some 14), .lo (.mv (.t 2)), none⟩,
  ⟨(some 15), .lo (.isl 32 (.t 13) (.t 14)), none⟩,
  ⟨(some 16), .lo (.load true 32 (.t 15)), none⟩,
  ⟨none, .lo (.store 32 (.t 8) (.t 16)), none⟩])
 (.ret))) (.skip))))
 ((.seq ((.seq (.reg [⟨(some 17), .lo (.mv (.t 2)), none⟩,
  ⟨(some 18), .lo (.ari .eql (.t 17) (.c (.int .i64 0))), none⟩])
 (.cond (.t 18) ((.seq (.reg [⟨(some 19), .lo (.mv (.t 0)), none⟩,
  ⟨(some 20), .lo (.mv (.t 1)), none⟩,
  ⟨(some 21), .lo (.isl 32 (.t 19) (.t 20)), none⟩,
  ⟨(some 22), .lo (.load true 32 (.t 21)), none⟩,
  ⟨none, .lo (.store 32 (.t 8) (.t 22)), none⟩])
 (.ret))) (.skip))))
 ((.seq (.reg [⟨(some 23), .lo (.mv (.t 0)), none⟩,
  ⟨(some 24), .lo (.mv (.t 1)), none⟩,
  ⟨(some 25), .lo (.mv (.t 2)), none⟩,
  ⟨(some 26), .lo (.ari .sub (.t 25) (.c (.int .i64 1))), none⟩,
  ⟨(some 27), .lo (.mv (.t 3)), none⟩,
  ⟨(some 28), .call 204 [(.t 23), (.t 24), (.t 26), (.t 27)], none⟩,
  ⟨(some 29), .lo (.mv (.t 0)), none⟩,
  ⟨(some 30), .lo (.mv (.t 1)), none⟩,
  ⟨(some 31), .lo (.mv (.t 2)), none⟩,
  ⟨(some 32), .lo (.ari .sub (.t 31) (.c (.int .i64 1))), none⟩,
  ⟨(some 33), .lo (.conv .u64 (.t 32)), none⟩,
  ⟨(some 34), .lo (.ari .shl (.c (.int .i64 1)) (.t 33)), none⟩,
  ⟨(some 35), .lo (.ari .add (.t 30) (.t 34)), none⟩,
  ⟨(some 36), .lo (.mv (.t 2)), none⟩,
  ⟨(some 37), .lo (.ari .sub (.t 36) (.c (.int .i64 1))), none⟩,
  ⟨(some 38), .lo (.mv (.t 3)), none⟩,
  ⟨(some 39), .call 204 [(.t 29), (.t 35), (.t 37), (.t 38)], none⟩,
  ⟨(some 40), .call 206 [(.t 28), (.t 39)], none⟩,
  ⟨none, .lo (.store 32 (.t 8) (.t 40)), none⟩])
 (.ret))))))))
def f204 : LF := ⟨c204, 4, 0, 41, [.cell 8 true 32]⟩

/-- moot/mootref05.Zeros -/
def c205 : LC := (.seq (.reg [⟨(some 0), .lo (.mv (.c .nils)), none⟩])
 ((.seq (.reg [⟨(some 3), .lo (.mksl 32 32 (.ar 32 (.int .u8)) (.c (.int .i64 1)) (.c (.int .i64 1))), none⟩,
  ⟨(some 1), .lo (.mv (.t 3)), none⟩])
 ((.seq ((.seq (.reg [⟨(some 2), .lo (.mv (.c (.int .i64 0))), none⟩])
 (.block 0 (.loop ((.seq ((.seq (.reg [⟨(some 4), .lo (.mv (.t 2)), none⟩,
  ⟨(some 5), .lo (.ari .lss (.t 4) (.c (.int .i64 16))), none⟩])
 (.cond (.t 5) (.skip) (.exit 0))))
 ((.seq (.block 1 (.regd [⟨1, 0, ⟨(some 9), .lo (.mv (.t 1)), none⟩⟩,
  ⟨2, 0, ⟨(some 10), .lo (.mv (.t 2)), none⟩⟩,
  ⟨3, 3, ⟨(some 11), .lo (.isl 32 (.t 9) (.t 10)), none⟩⟩,
  ⟨4, 7, ⟨(some 12), .lo (.load true 32 (.t 11)), none⟩⟩,
  ⟨5, 0, ⟨(some 13), .lo (.mv (.t 1)), none⟩⟩,
  ⟨6, 0, ⟨(some 14), .lo (.mv (.t 2)), none⟩⟩,
  ⟨7, 48, ⟨(some 15), .lo (.isl 32 (.t 13) (.t 14)), none⟩⟩,
  ⟨8, 112, ⟨(some 16), .lo (.load true 32 (.t 15)), none⟩⟩,
  ⟨9, 255, ⟨(some 17), .call 206 [(.t 12), (.t 16)], none⟩⟩,
  ⟨0, 0, ⟨(some 8), .lo (.mv (.t 1)), none⟩⟩,
  ⟨10, 511, ⟨(some 18), .lo (.bsl 32 1 (.ar 32 (.int .u8)) [(.i 32 0, 32, (.t 17))]), none⟩⟩,
  ⟨11, 2047, ⟨(some 19), .lo (.app 32 32 (.t 8) (.t 18)), none⟩⟩,
  ⟨12, 4095, ⟨(some 1), .lo (.mv (.t 19)), none⟩⟩]))
 (.reg [⟨(some 6), .lo (.mv (.t 2)), none⟩,
  ⟨(some 7), .lo (.ari .add (.t 6) (.c (.int .i64 1))), none⟩,
  ⟨(some 2), .lo (.mv (.t 7)), none⟩])))))))))
 ((.seq (.reg [⟨(some 20), .lo (.mv (.t 1)), none⟩,
  ⟨(some 0), .lo (.mv (.t 20)), none⟩])
 (.ret))))))))
def f205 : LF := ⟨c205, 0, 0, 21, [.tmp 0]⟩

/-- moot/mootref02.Pair -/
def c206 : LC := (.seq (.reg [⟨(some 2), .lo (.box (.t 0)), none⟩,
  ⟨(some 3), .lo (.box (.t 1)), none⟩,
  ⟨(some 4), .lo (.alloc (.ar 32 (.int .u8))), none⟩])
 ((.seq (.reg [⟨(some 6), .lo (.bsl 1 0 (.int .u8) []), none⟩,
  ⟨(some 7), .lo (.slarr 32 1 (.t 2) none none), none⟩,
  ⟨(some 8), .lo (.app 1 1 (.t 6) (.t 7)), none⟩,
  ⟨(some 5), .lo (.mv (.t 8)), none⟩])
 ((.seq (.reg [⟨(some 9), .lo (.mv (.t 5)), none⟩,
  ⟨(some 10), .lo (.slarr 32 1 (.t 3) none none), none⟩,
  ⟨(some 11), .lo (.app 1 1 (.t 9) (.t 10)), none⟩,
  ⟨(some 12), .call 311 [(.t 11)], none⟩,
  ⟨none, .lo (.store 32 (.t 4) (.t 12)), none⟩])
 (.ret))))))
def f206 : LF := ⟨c206, 2, 0, 13, [.cell 4 true 32]⟩

/-- moot/mootref11.four -/
def c209 : LC := (.seq (.reg [⟨(some 8), .lo (.alloc (.ar 32 (.int .u8))), none⟩])
 ((.seq (.reg [⟨(some 12), .lo (.mv (.t 0)), none⟩,
  ⟨(some 13), .lo (.mv (.t 1)), none⟩,
  ⟨(some 14), .lo (.mv (.t 2)), none⟩,
  ⟨(some 15), .lo (.mv (.t 3)), none⟩,
  ⟨(some 16), .lo (.bsl 1 4 (.int .u64) [(.i 1 0, 1, (.t 12)), (.i 1 1, 1, (.t 13)), (.i 1 2, 1, (.t 14)), (.i 1 3, 1, (.t 15))]), none⟩,
  ⟨(some 9), .lo (.mv (.t 16)), none⟩])
 ((.seq (.reg [⟨(some 10), .lo (.alloc (.ar 32 (.int .u8))), none⟩])
 ((.seq ((.seq (.reg [⟨(some 11), .lo (.mv (.c (.int .i64 0))), none⟩])
 (.block 0 (.loop ((.seq ((.seq (.reg [⟨(some 17), .lo (.mv (.t 11)), none⟩,
  ⟨(some 18), .lo (.ari .lss (.t 17) (.c (.int .i64 32))), none⟩])
 (.cond (.t 18) (.skip) (.exit 0))))
 ((.seq (.block 1 (.reg [⟨(some 21), .lo (.mv (.t 11)), none⟩,
  ⟨(some 22), .lo (.mv (.t 9)), none⟩,
  ⟨(some 23), .lo (.mv (.t 11)), none⟩,
  ⟨(some 24), .lo (.ari .quo (.t 23) (.c (.int .i64 8))), none⟩,
  ⟨(some 25), .lo (.isl 1 (.t 22) (.t 24)), none⟩,
  ⟨(some 26), .lo (.load false 1 (.t 25)), none⟩,
  ⟨(some 27), .lo (.mv (.t 11)), none⟩,
  ⟨(some 28), .lo (.ari .rem (.t 27) (.c (.int .i64 8))), none⟩,
  ⟨(some 29), .lo (.ari .mul (.c (.int .i64 8)) (.t 28)), none⟩,
  ⟨(some 30), .lo (.ari .sub (.c (.int .i64 56)) (.t 29)), none⟩,
  ⟨(some 31), .lo (.conv .u64 (.t 30)), none⟩,
  ⟨(some 32), .lo (.ari .shr (.t 26) (.t 31)), none⟩,
  ⟨(some 33), .lo (.conv .u8 (.t 32)), none⟩,
  ⟨(some 34), .lo (.iarr 32 1 (.t 10) (.t 21)), none⟩,
  ⟨none, .lo (.store 1 (.t 34) (.t 33)), none⟩]))
 (.reg [⟨(some 19), .lo (.mv (.t 11)), none⟩,
  ⟨(some 20), .lo (.ari .add (.t 19) (.c (.int .i64 1))), none⟩,
  ⟨(some 11), .lo (.mv (.t 20)), none⟩])))))))))
 ((.seq (.reg [⟨(some 35), .lo (.load true 32 (.t 10)), none⟩,
  ⟨none, .lo (.store 32 (.t 8) (.t 35)), none⟩])
 (.ret))))))))))
def f209 : LF := ⟨c209, 4, 0, 36, [.cell 8 true 32]⟩

/-- moot/mootref02.Sum -/
def c311 : LC := (.seq (.reg [⟨(some 2), .lo (.alloc (.ar 32 (.int .u8))), none⟩])
 ((.seq (.reg [⟨(some 11), .call 413 [], none⟩,
  ⟨(some 12), .call 414 [], none⟩,
  ⟨(some 3), .lo (.mv (.t 11)), none⟩,
  ⟨(some 4), .lo (.mv (.t 12)), none⟩])
 ((.seq (.reg [⟨(some 13), .lo (.bsl 1 0 (.int .u8) []), none⟩,
  ⟨(some 14), .lo (.mv (.t 0)), none⟩,
  ⟨(some 15), .lo (.app 1 1 (.t 13) (.t 14)), none⟩,
  ⟨(some 5), .lo (.mv (.t 15)), none⟩])
 ((.seq (.reg [⟨(some 16), .lo (.mv (.t 5)), none⟩,
  ⟨(some 17), .lo (.bsl 1 1 (.int .u8) [(.i 1 0, 1, (.c (.int .u8 1)))]), none⟩,
  ⟨(some 18), .lo (.app 1 1 (.t 16) (.t 17)), none⟩,
  ⟨(some 5), .lo (.mv (.t 18)), none⟩])
 ((.seq (.block 0 (.loop ((.seq ((.seq (.reg [⟨(some 19), .lo (.mv (.t 5)), none⟩,
  ⟨(some 20), .lo (.len 0 (.t 19)), none⟩,
  ⟨(some 21), .lo (.ari .rem (.t 20) (.c (.int .i64 136))), none⟩,
  ⟨(some 22), .lo (.ari .neq (.t 21) (.c (.int .i64 0))), none⟩])
 (.cond (.t 22) (.skip) (.exit 0))))
 (.block 1 (.reg [⟨(some 23), .lo (.mv (.t 5)), none⟩,
  ⟨(some 24), .lo (.bsl 1 1 (.int .u8) [(.i 1 0, 1, (.c (.int .u8 0)))]), none⟩,
  ⟨(some 25), .lo (.app 1 1 (.t 23) (.t 24)), none⟩,
  ⟨(some 5), .lo (.mv (.t 25)), none⟩]))))))
 ((.seq (.reg [⟨(some 26), .lo (.mv (.t 5)), none⟩,
  ⟨(some 27), .lo (.mv (.t 5)), none⟩,
  ⟨(some 28), .lo (.len 0 (.t 27)), none⟩,
  ⟨(some 29), .lo (.ari .sub (.t 28) (.c (.int .i64 1))), none⟩,
  ⟨(some 30), .lo (.isl 1 (.t 26) (.t 29)), none⟩,
  ⟨(some 31), .lo (.load false 1 (.t 30)), none⟩,
  ⟨(some 32), .lo (.ari .xor (.t 31) (.c (.int .u8 128))), none⟩,
  ⟨(some 33), .lo (.isl 1 (.t 26) (.t 29)), none⟩,
  ⟨none, .lo (.store 1 (.t 33) (.t 32)), none⟩])
 ((.seq (.reg [⟨(some 6), .lo (.alloc (.ar 25 (.int .u64))), none⟩])
 ((.seq ((.seq (.reg [⟨(some 7), .lo (.mv (.c (.int .i64 0))), none⟩])
 (.block 2 (.loop ((.seq ((.seq (.reg [⟨(some 34), .lo (.mv (.t 7)), none⟩,
  ⟨(some 35), .lo (.mv (.t 5)), none⟩,
  ⟨(some 36), .lo (.len 0 (.t 35)), none⟩,
  ⟨(some 37), .lo (.ari .lss (.t 34) (.t 36)), none⟩])
 (.cond (.t 37) (.skip) (.exit 2))))
 ((.seq (.block 3 ((.seq ((.seq (.reg [⟨(some 8), .lo (.mv (.c (.int .i64 0))), none⟩])
 (.block 4 (.loop ((.seq ((.seq (.reg [⟨(some 40), .lo (.mv (.t 8)), none⟩,
  ⟨(some 41), .lo (.ari .lss (.t 40) (.c (.int .i64 136))), none⟩])
 (.cond (.t 41) (.skip) (.exit 4))))
 ((.seq (.block 5 (.regd [⟨0, 0, ⟨(some 44), .lo (.mv (.t 8)), none⟩⟩,
  ⟨1, 1, ⟨(some 45), .lo (.ari .quo (.t 44) (.c (.int .i64 8))), none⟩⟩,
  ⟨2, 3, ⟨(some 46), .lo (.iarr 25 1 (.t 6) (.t 45)), none⟩⟩,
  ⟨3, 7, ⟨(some 47), .lo (.load false 1 (.t 46)), none⟩⟩,
  ⟨4, 0, ⟨(some 48), .lo (.mv (.t 5)), none⟩⟩,
  ⟨5, 0, ⟨(some 49), .lo (.mv (.t 7)), none⟩⟩,
  ⟨6, 0, ⟨(some 50), .lo (.mv (.t 8)), none⟩⟩,
  ⟨7, 96, ⟨(some 51), .lo (.ari .add (.t 49) (.t 50)), none⟩⟩,
  ⟨8, 240, ⟨(some 52), .lo (.isl 1 (.t 48) (.t 51)), none⟩⟩,
  ⟨9, 496, ⟨(some 53), .lo (.load false 1 (.t 52)), none⟩⟩,
  ⟨10, 1008, ⟨(some 54), .lo (.conv .u64 (.t 53)), none⟩⟩,
  ⟨11, 0, ⟨(some 55), .lo (.mv (.t 8)), none⟩⟩,
  ⟨12, 2048, ⟨(some 56), .lo (.ari .rem (.t 55) (.c (.int .i64 8))), none⟩⟩,
  ⟨13, 6144, ⟨(some 57), .lo (.ari .mul (.c (.int .i64 8)) (.t 56)), none⟩⟩,
  ⟨14, 14336, ⟨(some 58), .lo (.conv .u64 (.t 57)), none⟩⟩,
  ⟨15, 32752, ⟨(some 59), .lo (.ari .shl (.t 54) (.t 58)), none⟩⟩,
  ⟨16, 65535, ⟨(some 60), .lo (.ari .xor (.t 47) (.t 59)), none⟩⟩,
  ⟨17, 131071, ⟨(some 61), .lo (.iarr 25 1 (.t 6) (.t 45)), none⟩⟩,
  ⟨18, 262143, ⟨none, .lo (.store 1 (.t 61) (.t 60)), none⟩⟩]))
 (.reg [⟨(some 42), .lo (.mv (.t 8)), none⟩,
  ⟨(some 43), .lo (.ari .add (.t 42) (.c (.int .i64 1))), none⟩,
  ⟨(some 8), .lo (.mv (.t 43)), none⟩])))))))))
 (.reg [⟨(some 62), .lo (.load true 25 (.t 6)), none⟩,
  ⟨(some 63), .lo (.mv (.t 3)), none⟩,
  ⟨(some 64), .lo (.mv (.t 4)), none⟩,
  ⟨(some 65), .call 415 [(.t 62), (.t 63), (.t 64)], none⟩,
  ⟨none, .lo (.store 25 (.t 6) (.t 65)), none⟩]))))
 (.reg [⟨(some 38), .lo (.mv (.t 7)), none⟩,
  ⟨(some 39), .lo (.ari .add (.t 38) (.c (.int .i64 136))), none⟩,
  ⟨(some 7), .lo (.mv (.t 39)), none⟩])))))))))
 ((.seq (.reg [⟨(some 9), .lo (.alloc (.ar 32 (.int .u8))), none⟩])
 ((.seq ((.seq (.reg [⟨(some 10), .lo (.mv (.c (.int .i64 0))), none⟩])
 (.block 6 (.loop ((.seq ((.seq (.reg [⟨(some 66), .lo (.mv (.t 10)), none⟩,
  ⟨(some 67), .lo (.ari .lss (.t 66) (.c (.int .i64 32))), none⟩])
 (.cond (.t 67) (.skip) (.exit 6))))
 ((.seq (.block 7 (.reg [⟨(some 70), .lo (.mv (.t 10)), none⟩,
  ⟨(some 71), .lo (.mv (.t 10)), none⟩,
  ⟨(some 72), .lo (.ari .quo (.t 71) (.c (.int .i64 8))), none⟩,
  ⟨(some 73), .lo (.iarr 25 1 (.t 6) (.t 72)), none⟩,
  ⟨(some 74), .lo (.load false 1 (.t 73)), none⟩,
  ⟨(some 75), .lo (.mv (.t 10)), none⟩,
  ⟨(some 76), .lo (.ari .rem (.t 75) (.c (.int .i64 8))), none⟩,
  ⟨(some 77), .lo (.ari .mul (.c (.int .i64 8)) (.t 76)), none⟩,
  ⟨(some 78), .lo (.conv .u64 (.t 77)), none⟩,
  ⟨(some 79), .lo (.ari .shr (.t 74) (.t 78)), none⟩,
  ⟨(some 80), .lo (.conv .u8 (.t 79)), none⟩,
  ⟨(some 81), .lo (.iarr 32 1 (.t 9) (.t 70)), none⟩,
  ⟨none, .lo (.store 1 (.t 81) (.t 80)), none⟩]))
 (.reg [⟨(some 68), .lo (.mv (.t 10)), none⟩,
  ⟨(some 69), .lo (.ari .add (.t 68) (.c (.int .i64 1))), none⟩,
  ⟨(some 10), .lo (.mv (.t 69)), none⟩])))))))))
 ((.seq (.reg [⟨(some 82), .lo (.load true 32 (.t 9)), none⟩,
  ⟨none, .lo (.store 32 (.t 2) (.t 82)), none⟩])
 (.ret))))))))))))))))))))))
def f311 : LF := ⟨c311, 1, 0, 83, [.cell 2 true 32]⟩

/-- moot/mootref02.Constants -/
def c413 : LC := (.seq (.reg [⟨(some 0), .lo (.mv (.c .nils)), none⟩])
 ((.seq (.reg [⟨(some 1), .lo (.mv (.c .nils)), none⟩])
 ((.seq (.reg [⟨(some 2), .lo (.mv (.c (.int .i64 1))), none⟩])
 ((.seq ((.seq (.reg [⟨(some 3), .lo (.mv (.c (.int .i64 0))), none⟩])
 (.block 0 (.loop ((.seq ((.seq (.reg [⟨(some 6), .lo (.mv (.t 3)), none⟩,
  ⟨(some 7), .lo (.ari .lss (.t 6) (.c (.int .i64 24))), none⟩])
 (.cond (.t 7) (.skip) (.exit 0))))
 ((.seq (.block 1 ((.seq (.reg [⟨(some 4), .lo (.mv (.c (.int .u64 0))), none⟩])
 ((.seq ((.seq (.reg [⟨(some 5), .lo (.mv (.c (.int .i64 0))), none⟩])
 (.block 2 (.loop ((.seq ((.seq (.reg [⟨(some 10), .lo (.mv (.t 5)), none⟩,
  ⟨(some 11), .lo (.ari .lss (.t 10) (.c (.int .i64 7))), none⟩])
 (.cond (.t 11) (.skip) (.exit 2))))
 ((.seq (.block 3 ((.seq ((.seq (.reg [⟨(some 14), .lo (.mv (.t 2)), none⟩,
  ⟨(some 15), .lo (.ari .rem (.t 14) (.c (.int .i64 2))), none⟩,
  ⟨(some 16), .lo (.ari .eql (.t 15) (.c (.int .i64 1))), none⟩])
 (.cond (.t 16) (.reg [⟨(some 17), .lo (.mv (.t 4)), none⟩,
  ⟨(some 18), .lo (.mv (.t 5)), none⟩,
  ⟨(some 19), .lo (.conv .u64 (.t 18)), none⟩,
  ⟨(some 20), .lo (.ari .shl (.c (.int .u64 1)) (.t 19)), none⟩,
  ⟨(some 21), .lo (.ari .sub (.t 20) (.c (.int .u64 1))), none⟩,
  ⟨(some 22), .lo (.ari .shl (.c (.int .u64 1)) (.t 21)), none⟩,
  ⟨(some 23), .lo (.ari .or (.t 17) (.t 22)), none⟩,
  ⟨(some 4), .lo (.mv (.t 23)), none⟩]) (.skip))))
 ((.seq (.reg [⟨(some 24), .lo (.mv (.t 2)), none⟩,
  ⟨(some 25), .lo (.ari .mul (.t 24) (.c (.int .i64 2))), none⟩,
  ⟨(some 2), .lo (.mv (.t 25)), none⟩])
 ((.seq (.reg [⟨(some 26), .lo (.mv (.t 2)), none⟩,
  ⟨(some 27), .lo (.ari .gtr (.t 26) (.c (.int .i64 255))), none⟩])
 (.cond (.t 27) (.reg [⟨(some 28), .lo (.mv (.t 2)), none⟩,
  ⟨(some 29), .lo (.ari .xor (.t 28) (.c (.int .i64 369))), none⟩,
  ⟨(some 2), .lo (.mv (.t 29)), none⟩]) (.skip)))))))))
 (.reg [⟨(some 12), .lo (.mv (.t 5)), none⟩,
  ⟨(some 13), .lo (.ari .add (.t 12) (.c (.int .i64 1))), none⟩,
  ⟨(some 5), .lo (.mv (.t 13)), none⟩])))))))))
 (.reg [⟨(some 30), .lo (.mv (.t 1)), none⟩,
  ⟨(some 31), .lo (.mv (.t 4)), none⟩,
  ⟨(some 32), .lo (.bsl 1 1 (.int .u64) [(.i 1 0, 1, (.t 31))]), none⟩,
  ⟨(some 33), .lo (.app 1 8 (.t 30) (.t 32)), none⟩,
  ⟨(some 1), .lo (.mv (.t 33)), none⟩]))))))
 (.reg [⟨(some 8), .lo (.mv (.t 3)), none⟩,
  ⟨(some 9), .lo (.ari .add (.t 8) (.c (.int .i64 1))), none⟩,
  ⟨(some 3), .lo (.mv (.t 9)), none⟩])))))))))
 ((.seq (.reg [⟨(some 34), .lo (.mv (.t 1)), none⟩,
  ⟨(some 0), .lo (.mv (.t 34)), none⟩])
 (.ret))))))))))
def f413 : LF := ⟨c413, 0, 0, 35, [.tmp 0]⟩

/-- moot/mootref02.Turns -/
def c414 : LC := (.seq (.reg [⟨(some 0), .lo (.mv (.c .nils)), none⟩])
 ((.seq (.reg [⟨(some 6), .lo (.mksl 1 8 (.int .i64) (.c (.int .i64 25)) (.c (.int .i64 25))), none⟩,
  ⟨(some 1), .lo (.mv (.t 6)), none⟩])
 ((.seq (.reg [⟨(some 2), .lo (.mv (.c (.int .i64 1))), none⟩,
  ⟨(some 3), .lo (.mv (.c (.int .i64 0))), none⟩])
 ((.seq ((.seq (.reg [⟨(some 4), .lo (.mv (.c (.int .i64 0))), none⟩])
 (.block 0 (.loop ((.seq ((.seq (.reg [⟨(some 7), .lo (.mv (.t 4)), none⟩,
  ⟨(some 8), .lo (.ari .lss (.t 7) (.c (.int .i64 24))), none⟩])
 (.cond (.t 8) (.skip) (.exit 0))))
 ((.seq (.block 1 ((.seq (.reg [⟨(some 11), .lo (.mv (.t 1)), none⟩,
  ⟨(some 12), .lo (.mv (.t 2)), none⟩,
  ⟨(some 13), .lo (.mv (.t 3)), none⟩,
  ⟨(some 14), .lo (.ari .mul (.c (.int .i64 5)) (.t 13)), none⟩,
  ⟨(some 15), .lo (.ari .add (.t 12) (.t 14)), none⟩,
  ⟨(some 16), .lo (.mv (.t 4)), none⟩,
  ⟨(some 17), .lo (.ari .add (.t 16) (.c (.int .i64 1))), none⟩,
  ⟨(some 18), .lo (.mv (.t 4)), none⟩,
  ⟨(some 19), .lo (.ari .add (.t 18) (.c (.int .i64 2))), none⟩,
  ⟨(some 20), .lo (.ari .mul (.t 17) (.t 19)), none⟩,
  ⟨(some 21), .lo (.ari .quo (.t 20) (.c (.int .i64 2))), none⟩,
  ⟨(some 22), .lo (.ari .rem (.t 21) (.c (.int .i64 64))), none⟩,
  ⟨(some 23), .lo (.isl 1 (.t 11) (.t 15)), none⟩,
  ⟨none, .lo (.store 1 (.t 23) (.t 22)), none⟩])
 ((.seq (.reg [⟨(some 24), .lo (.mv (.t 2)), none⟩,
  ⟨(some 25), .lo (.ari .mul (.c (.int .i64 2)) (.t 24)), none⟩,
  ⟨(some 26), .lo (.mv (.t 3)), none⟩,
  ⟨(some 27), .lo (.ari .mul (.c (.int .i64 3)) (.t 26)), none⟩,
  ⟨(some 28), .lo (.ari .add (.t 25) (.t 27)), none⟩,
  ⟨(some 29), .lo (.ari .rem (.t 28) (.c (.int .i64 5))), none⟩,
  ⟨(some 5), .lo (.mv (.t 29)), none⟩])
 ((.seq (.reg [⟨(some 30), .lo (.mv (.t 3)), none⟩,
  ⟨(some 2), .lo (.mv (.t 30)), none⟩])
 (.reg [⟨(some 31), .lo (.mv (.t 5)), none⟩,
  ⟨(some 3), .lo (.mv (.t 31)), none⟩]))))))))
 (.reg [⟨(some 9), .lo (.mv (.t 4)), none⟩,
  ⟨(some 10), .lo (.ari .add (.t 9) (.c (.int .i64 1))), none⟩,
  ⟨(some 4), .lo (.mv (.t 10)), none⟩])))))))))
 ((.seq (.reg [⟨(some 32), .lo (.mv (.t 1)), none⟩,
  ⟨(some 0), .lo (.mv (.t 32)), none⟩])
 (.ret))))))))))
def f414 : LF := ⟨c414, 0, 0, 33, [.tmp 0]⟩

/-- moot/mootref02.permute -/
def c415 : LC := (.seq (.reg [⟨(some 3), .lo (.box (.t 0)), none⟩,
  ⟨(some 6), .lo (.alloc (.ar 25 (.int .u64))), none⟩])
 ((.seq ((.seq (.reg [⟨(some 7), .lo (.mv (.c (.int .i64 0))), none⟩])
 (.block 0 (.loop ((.seq ((.seq (.reg [⟨(some 19), .lo (.mv (.t 7)), none⟩,
  ⟨(some 20), .lo (.ari .lss (.t 19) (.c (.int .i64 24))), none⟩])
 (.cond (.t 20) (.skip) (.exit 0))))
 ((.seq (.block 1 ((.seq (.reg [⟨(some 8), .lo (.alloc (.ar 25 (.int .u64))), none⟩,
  ⟨(some 9), .lo (.alloc (.ar 25 (.int .u64))), none⟩])
 ((.seq ((.seq (.reg [⟨(some 10), .lo (.mv (.c (.int .i64 0))), none⟩])
 (.block 2 (.loop ((.seq ((.seq (.reg [⟨(some 23), .lo (.mv (.t 10)), none⟩,
  ⟨(some 24), .lo (.ari .lss (.t 23) (.c (.int .i64 5))), none⟩])
 (.cond (.t 24) (.skip) (.exit 2))))
 ((.seq (.block 3 ((.seq (.reg [⟨(some 11), .lo (.mv (.c (.int .u64 0))), none⟩,
  ⟨(some 12), .lo (.mv (.c (.int .u64 0))), none⟩])
 ((.seq ((.seq (.reg [⟨(some 13), .lo (.mv (.c (.int .i64 0))), none⟩])
 (.block 4 (.loop ((.seq ((.seq (.reg [⟨(some 27), .lo (.mv (.t 13)), none⟩,
  ⟨(some 28), .lo (.ari .lss (.t 27) (.c (.int .i64 25))), none⟩])
 (.cond (.t 28) (.skip) (.exit 4))))
 ((.seq (.block 5 ((.seq (.reg [⟨(some 31), .lo (.mv (.t 11)), none⟩,
  ⟨(some 32), .lo (.mv (.t 10)), none⟩,
  ⟨(some 33), .lo (.ari .add (.t 32) (.c (.int .i64 4))), none⟩,
  ⟨(some 34), .lo (.ari .rem (.t 33) (.c (.int .i64 5))), none⟩,
  ⟨(some 35), .lo (.mv (.t 13)), none⟩,
  ⟨(some 36), .lo (.ari .add (.t 34) (.t 35)), none⟩,
  ⟨(some 37), .lo (.iarr 25 1 (.t 3) (.t 36)), none⟩,
  ⟨(some 38), .lo (.load false 1 (.t 37)), none⟩,
  ⟨(some 39), .lo (.ari .xor (.t 31) (.t 38)), none⟩,
  ⟨(some 11), .lo (.mv (.t 39)), none⟩])
 (.reg [⟨(some 40), .lo (.mv (.t 12)), none⟩,
  ⟨(some 41), .lo (.mv (.t 10)), none⟩,
  ⟨(some 42), .lo (.ari .add (.t 41) (.c (.int .i64 1))), none⟩,
  ⟨(some 43), .lo (.ari .rem (.t 42) (.c (.int .i64 5))), none⟩,
  ⟨(some 44), .lo (.mv (.t 13)), none⟩,
  ⟨(some 45), .lo (.ari .add (.t 43) (.t 44)), none⟩,
  ⟨(some 46), .lo (.iarr 25 1 (.t 3) (.t 45)), none⟩,
  ⟨(some 47), .lo (.load false 1 (.t 46)), none⟩,
  ⟨(some 48), .lo (.ari .xor (.t 40) (.t 47)), none⟩,
  ⟨(some 12), .lo (.mv (.t 48)), none⟩]))))
 (.reg [⟨(some 29), .lo (.mv (.t 13)), none⟩,
  ⟨(some 30), .lo (.ari .add (.t 29) (.c (.int .i64 5))), none⟩,
  ⟨(some 13), .lo (.mv (.t 30)), none⟩])))))))))
 ((.seq (.reg [⟨(some 14), .lo (.mv (.c (.int .i64 0))), none⟩])
 (.block 6 (.loop ((.seq ((.seq (.reg [⟨(some 49), .lo (.mv (.t 14)), none⟩,
  ⟨(some 50), .lo (.ari .lss (.t 49) (.c (.int .i64 25))), none⟩])
 (.cond (.t 50) (.skip) (.exit 6))))
 ((.seq (.block 7 (.regd [⟨10, 0, ⟨(some 63), .lo (.mv (.t 12)), none⟩⟩,
  ⟨11, 1, ⟨(some 64), .call 461 [(.t 63), (.c (.int .i64 1))], none⟩⟩,
  ⟨0, 0, ⟨(some 53), .lo (.mv (.t 10)), none⟩⟩,
  ⟨1, 0, ⟨(some 54), .lo (.mv (.t 14)), none⟩⟩,
  ⟨2, 12, ⟨(some 55), .lo (.ari .add (.t 53) (.t 54)), none⟩⟩,
  ⟨3, 0, ⟨(some 56), .lo (.mv (.t 10)), none⟩⟩,
  ⟨4, 0, ⟨(some 57), .lo (.mv (.t 14)), none⟩⟩,
  ⟨5, 96, ⟨(some 58), .lo (.ari .add (.t 56) (.t 57)), none⟩⟩,
  ⟨6, 224, ⟨(some 59), .lo (.iarr 25 1 (.t 3) (.t 58)), none⟩⟩,
  ⟨7, 480, ⟨(some 60), .lo (.load false 1 (.t 59)), none⟩⟩,
  ⟨8, 0, ⟨(some 61), .lo (.mv (.t 11)), none⟩⟩,
  ⟨9, 2016, ⟨(some 62), .lo (.ari .xor (.t 60) (.t 61)), none⟩⟩,
  ⟨12, 4067, ⟨(some 65), .lo (.ari .xor (.t 62) (.t 64)), none⟩⟩,
  ⟨13, 8191, ⟨(some 66), .lo (.iarr 25 1 (.t 8) (.t 55)), none⟩⟩,
  ⟨14, 16383, ⟨none, .lo (.store 1 (.t 66) (.t 65)), none⟩⟩]))
 (.reg [⟨(some 51), .lo (.mv (.t 14)), none⟩,
  ⟨(some 52), .lo (.ari .add (.t 51) (.c (.int .i64 5))), none⟩,
  ⟨(some 14), .lo (.mv (.t 52)), none⟩]))))))))))))))
 (.reg [⟨(some 25), .lo (.mv (.t 10)), none⟩,
  ⟨(some 26), .lo (.ari .add (.t 25) (.c (.int .i64 1))), none⟩,
  ⟨(some 10), .lo (.mv (.t 26)), none⟩])))))))))
 ((.seq ((.seq (.reg [⟨(some 15), .lo (.mv (.c (.int .i64 0))), none⟩])
 (.block 8 (.loop ((.seq ((.seq (.reg [⟨(some 67), .lo (.mv (.t 15)), none⟩,
  ⟨(some 68), .lo (.ari .lss (.t 67) (.c (.int .i64 5))), none⟩])
 (.cond (.t 68) (.skip) (.exit 8))))
 ((.seq (.block 9 ((.seq (.reg [⟨(some 16), .lo (.mv (.c (.int .i64 0))), none⟩])
 (.block 10 (.loop ((.seq ((.seq (.reg [⟨(some 71), .lo (.mv (.t 16)), none⟩,
  ⟨(some 72), .lo (.ari .lss (.t 71) (.c (.int .i64 5))), none⟩])
 (.cond (.t 72) (.skip) (.exit 10))))
 ((.seq (.block 11 (.regd [⟨9, 0, ⟨(some 84), .lo (.mv (.t 15)), none⟩⟩,
  ⟨10, 0, ⟨(some 85), .lo (.mv (.t 16)), none⟩⟩,
  ⟨11, 2, ⟨(some 86), .lo (.ari .mul (.c (.int .i64 5)) (.t 85)), none⟩⟩,
  ⟨12, 7, ⟨(some 87), .lo (.ari .add (.t 84) (.t 86)), none⟩⟩,
  ⟨13, 15, ⟨(some 88), .lo (.iarr 25 1 (.t 8) (.t 87)), none⟩⟩,
  ⟨14, 31, ⟨(some 89), .lo (.load false 1 (.t 88)), none⟩⟩,
  ⟨15, 0, ⟨(some 90), .lo (.mv (.t 2)), none⟩⟩,
  ⟨16, 0, ⟨(some 91), .lo (.mv (.t 15)), none⟩⟩,
  ⟨17, 0, ⟨(some 92), .lo (.mv (.t 16)), none⟩⟩,
  ⟨18, 256, ⟨(some 93), .lo (.ari .mul (.c (.int .i64 5)) (.t 92)), none⟩⟩,
  ⟨19, 896, ⟨(some 94), .lo (.ari .add (.t 91) (.t 93)), none⟩⟩,
  ⟨20, 1984, ⟨(some 95), .lo (.isl 1 (.t 90) (.t 94)), none⟩⟩,
  ⟨21, 4032, ⟨(some 96), .lo (.load false 1 (.t 95)), none⟩⟩,
  ⟨22, 8191, ⟨(some 97), .call 461 [(.t 89), (.t 96)], none⟩⟩,
  ⟨0, 0, ⟨(some 75), .lo (.mv (.t 16)), none⟩⟩,
  ⟨1, 0, ⟨(some 76), .lo (.mv (.t 15)), none⟩⟩,
  ⟨2, 32768, ⟨(some 77), .lo (.ari .mul (.c (.int .i64 2)) (.t 76)), none⟩⟩,
  ⟨3, 0, ⟨(some 78), .lo (.mv (.t 16)), none⟩⟩,
  ⟨4, 131072, ⟨(some 79), .lo (.ari .mul (.c (.int .i64 3)) (.t 78)), none⟩⟩,
  ⟨5, 491520, ⟨(some 80), .lo (.ari .add (.t 77) (.t 79)), none⟩⟩,
  ⟨6, 1015808, ⟨(some 81), .lo (.ari .rem (.t 80) (.c (.int .i64 5))), none⟩⟩,
  ⟨7, 2064384, ⟨(some 82), .lo (.ari .mul (.c (.int .i64 5)) (.t 81)), none⟩⟩,
  ⟨8, 4177920, ⟨(some 83), .lo (.ari .add (.t 75) (.t 82)), none⟩⟩,
  ⟨23, 8388607, ⟨(some 98), .lo (.iarr 25 1 (.t 9) (.t 83)), none⟩⟩,
  ⟨24, 16777215, ⟨none, .lo (.store 1 (.t 98) (.t 97)), none⟩⟩]))
 (.reg [⟨(some 73), .lo (.mv (.t 16)), none⟩,
  ⟨(some 74), .lo (.ari .add (.t 73) (.c (.int .i64 1))), none⟩,
  ⟨(some 16), .lo (.mv (.t 74)), none⟩]))))))))))
 (.reg [⟨(some 69), .lo (.mv (.t 15)), none⟩,
  ⟨(some 70), .lo (.ari .add (.t 69) (.c (.int .i64 1))), none⟩,
  ⟨(some 15), .lo (.mv (.t 70)), none⟩])))))))))
 ((.seq ((.seq (.reg [⟨(some 17), .lo (.mv (.c (.int .i64 0))), none⟩])
 (.block 12 (.loop ((.seq ((.seq (.reg [⟨(some 99), .lo (.mv (.t 17)), none⟩,
  ⟨(some 100), .lo (.ari .lss (.t 99) (.c (.int .i64 5))), none⟩])
 (.cond (.t 100) (.skip) (.exit 12))))
 ((.seq (.block 13 ((.seq (.reg [⟨(some 18), .lo (.mv (.c (.int .i64 0))), none⟩])
 (.block 14 (.loop ((.seq ((.seq (.reg [⟨(some 103), .lo (.mv (.t 18)), none⟩,
  ⟨(some 104), .lo (.ari .lss (.t 103) (.c (.int .i64 5))), none⟩])
 (.cond (.t 104) (.skip) (.exit 14))))
 ((.seq (.block 15 (.regd [⟨0, 0, ⟨(some 107), .lo (.mv (.t 18)), none⟩⟩,
  ⟨1, 0, ⟨(some 108), .lo (.mv (.t 17)), none⟩⟩,
  ⟨2, 2, ⟨(some 109), .lo (.ari .mul (.c (.int .i64 5)) (.t 108)), none⟩⟩,
  ⟨3, 7, ⟨(some 110), .lo (.ari .add (.t 107) (.t 109)), none⟩⟩,
  ⟨4, 0, ⟨(some 111), .lo (.mv (.t 18)), none⟩⟩,
  ⟨5, 0, ⟨(some 112), .lo (.mv (.t 17)), none⟩⟩,
  ⟨6, 32, ⟨(some 113), .lo (.ari .mul (.c (.int .i64 5)) (.t 112)), none⟩⟩,
  ⟨7, 112, ⟨(some 114), .lo (.ari .add (.t 111) (.t 113)), none⟩⟩,
  ⟨8, 240, ⟨(some 115), .lo (.iarr 25 1 (.t 9) (.t 114)), none⟩⟩,
  ⟨9, 496, ⟨(some 116), .lo (.load false 1 (.t 115)), none⟩⟩,
  ⟨10, 0, ⟨(some 117), .lo (.mv (.t 18)), none⟩⟩,
  ⟨11, 1024, ⟨(some 118), .lo (.ari .add (.t 117) (.c (.int .i64 1))), none⟩⟩,
  ⟨12, 3072, ⟨(some 119), .lo (.ari .rem (.t 118) (.c (.int .i64 5))), none⟩⟩,
  ⟨13, 0, ⟨(some 120), .lo (.mv (.t 17)), none⟩⟩,
  ⟨14, 8192, ⟨(some 121), .lo (.ari .mul (.c (.int .i64 5)) (.t 120)), none⟩⟩,
  ⟨15, 31744, ⟨(some 122), .lo (.ari .add (.t 119) (.t 121)), none⟩⟩,
  ⟨16, 64512, ⟨(some 123), .lo (.iarr 25 1 (.t 9) (.t 122)), none⟩⟩,
  ⟨17, 130048, ⟨(some 124), .lo (.load false 1 (.t 123)), none⟩⟩,
  ⟨18, 261120, ⟨(some 125), .lo (.ari .xor (.t 124) (.c (.int .u64 18446744073709551615))), none⟩⟩,
  ⟨19, 0, ⟨(some 126), .lo (.mv (.t 18)), none⟩⟩,
  ⟨20, 524288, ⟨(some 127), .lo (.ari .add (.t 126) (.c (.int .i64 2))), none⟩⟩,
  ⟨21, 1572864, ⟨(some 128), .lo (.ari .rem (.t 127) (.c (.int .i64 5))), none⟩⟩,
  ⟨22, 0, ⟨(some 129), .lo (.mv (.t 17)), none⟩⟩,
  ⟨23, 4194304, ⟨(some 130), .lo (.ari .mul (.c (.int .i64 5)) (.t 129)), none⟩⟩,
  ⟨24, 16252928, ⟨(some 131), .lo (.ari .add (.t 128) (.t 130)), none⟩⟩,
  ⟨25, 33030144, ⟨(some 132), .lo (.iarr 25 1 (.t 9) (.t 131)), none⟩⟩,
  ⟨26, 66584576, ⟨(some 133), .lo (.load false 1 (.t 132)), none⟩⟩,
  ⟨27, 134216704, ⟨(some 134), .lo (.ari .and (.t 125) (.t 133)), none⟩⟩,
  ⟨28, 268435440, ⟨(some 135), .lo (.ari .xor (.t 116) (.t 134)), none⟩⟩,
  ⟨29, 536870911, ⟨(some 136), .lo (.iarr 25 1 (.t 3) (.t 110)), none⟩⟩,
  ⟨30, 1073741823, ⟨none, .lo (.store 1 (.t 136) (.t 135)), none⟩⟩]))
 (.reg [⟨(some 105), .lo (.mv (.t 18)), none⟩,
  ⟨(some 106), .lo (.ari .add (.t 105) (.c (.int .i64 1))), none⟩,
  ⟨(some 18), .lo (.mv (.t 106)), none⟩]))))))))))
 (.reg [⟨(some 101), .lo (.mv (.t 17)), none⟩,
  ⟨(some 102), .lo (.ari .add (.t 101) (.c (.int .i64 1))), none⟩,
  ⟨(some 17), .lo (.mv (.t 102)), none⟩])))))))))
 (.regd [⟨0, 0, ⟨(some 137), .lo (.iarr 25 1 (.t 3) (.c (.int .i64 0))), none⟩⟩,
  ⟨1, 1, ⟨(some 138), .lo (.load false 1 (.t 137)), none⟩⟩,
  ⟨2, 0, ⟨(some 139), .lo (.mv (.t 1)), none⟩⟩,
  ⟨3, 0, ⟨(some 140), .lo (.mv (.t 7)), none⟩⟩,
  ⟨4, 12, ⟨(some 141), .lo (.isl 1 (.t 139) (.t 140)), none⟩⟩,
  ⟨5, 28, ⟨(some 142), .lo (.load false 1 (.t 141)), none⟩⟩,
  ⟨6, 63, ⟨(some 143), .lo (.ari .xor (.t 138) (.t 142)), none⟩⟩,
  ⟨7, 127, ⟨(some 144), .lo (.iarr 25 1 (.t 3) (.c (.int .i64 0))), none⟩⟩,
  ⟨8, 255, ⟨none, .lo (.store 1 (.t 144) (.t 143)), none⟩⟩]))))))))))
 (.reg [⟨(some 21), .lo (.mv (.t 7)), none⟩,
  ⟨(some 22), .lo (.ari .add (.t 21) (.c (.int .i64 1))), none⟩,
  ⟨(some 7), .lo (.mv (.t 22)), none⟩])))))))))
 ((.seq (.reg [⟨(some 145), .lo (.load true 25 (.t 3)), none⟩,
  ⟨none, .lo (.store 25 (.t 6) (.t 145)), none⟩])
 (.ret))))))
def f415 : LF := ⟨c415, 3, 0, 146, [.cell 6 true 25]⟩

/-- moot/mootref02.left -/
def c461 : LC := (.seq (.reg [⟨(some 4), .lo (.mv (.c (.int .u64 0))), none⟩])
 ((.seq (.reg [⟨(some 5), .lo (.mv (.t 1)), none⟩,
  ⟨(some 6), .lo (.ari .rem (.t 5) (.c (.int .i64 64))), none⟩,
  ⟨(some 1), .lo (.mv (.t 6)), none⟩])
 ((.seq ((.seq (.reg [⟨(some 7), .lo (.mv (.t 1)), none⟩,
  ⟨(some 8), .lo (.ari .eql (.t 7) (.c (.int .i64 0))), none⟩])
 (.cond (.t 8) ((.seq (.reg [⟨(some 9), .lo (.mv (.t 0)), none⟩,
  ⟨(some 4), .lo (.mv (.t 9)), none⟩])
 (.ret))) (.skip))))
 ((.seq (.reg [⟨(some 10), .lo (.mv (.t 0)), none⟩,
  ⟨(some 11), .lo (.mv (.t 1)), none⟩,
  ⟨(some 12), .lo (.conv .u64 (.t 11)), none⟩,
  ⟨(some 13), .lo (.ari .shl (.t 10) (.t 12)), none⟩,
  ⟨(some 14), .lo (.mv (.t 0)), none⟩,
  ⟨(some 15), .lo (.mv (.t 1)), none⟩,
  ⟨(some 16), .lo (.ari .sub (.c (.int .i64 64)) (.t 15)), none⟩,
  ⟨(some 17), .lo (.conv .u64 (.t 16)), none⟩,
  ⟨(some 18), .lo (.ari .shr (.t 14) (.t 17)), none⟩,
  ⟨(some 19), .lo (.ari .or (.t 13) (.t 18)), none⟩,
  ⟨(some 4), .lo (.mv (.t 19)), none⟩])
 (.ret))))))))
def f461 : LF := ⟨c461, 2, 0, 20, [.tmp 4]⟩

/-- moot/mootref05.Path -/
def c64 : LC := (.seq (.reg [⟨(some 6), .lo (.mv (.c .nils)), none⟩,
  ⟨(some 7), .lo (.mv (.c (.int .i64 0))), none⟩])
 ((.seq (.reg [⟨(some 13), .lo (.mv (.t 0)), none⟩,
  ⟨(some 14), .lo (.mv (.t 1)), none⟩,
  ⟨(some 15), .lo (.len 0 (.t 14)), none⟩,
  ⟨(some 16), .call 203 [(.t 13), (.t 15)], none⟩,
  ⟨(some 8), .lo (.mv (.t 16)), none⟩])
 ((.seq ((.seq (.reg [⟨(some 17), .lo (.mv (.t 8)), none⟩,
  ⟨(some 18), .lo (.ari .neq (.t 17) (.c (.int .i64 0))), none⟩])
 (.cond (.t 18) ((.seq (.reg [⟨(some 19), .lo (.mv (.t 8)), none⟩,
  ⟨(some 6), .lo (.mv (.c .nils)), none⟩,
  ⟨(some 7), .lo (.mv (.t 19)), none⟩])
 (.ret))) (.skip))))
 ((.seq ((.seq (.reg [⟨(some 20), .lo (.mv (.t 2)), none⟩,
  ⟨(some 21), .lo (.ari .lss (.t 20) (.c (.int .i64 0))), none⟩,
  ⟨(some 22), .lo (.mv (.t 21)), none⟩,
  ⟨(some 23), .lo (.mv (.t 2)), (some (22, false))⟩,
  ⟨(some 24), .lo (.mv (.t 0)), (some (22, false))⟩,
  ⟨(some 25), .lo (.conv .u64 (.t 24)), (some (22, false))⟩,
  ⟨(some 26), .lo (.ari .shl (.c (.int .i64 1)) (.t 25)), (some (22, false))⟩,
  ⟨(some 27), .lo (.ari .geq (.t 23) (.t 26)), (some (22, false))⟩,
  ⟨(some 28), .lo (.pick (.t 22) (.c (.bool true)) (.t 27)), none⟩])
 (.cond (.t 28) ((.seq (.reg [⟨(some 6), .lo (.mv (.c .nils)), none⟩,
  ⟨(some 7), .lo (.mv (.c (.int .i64 2))), none⟩])
 (.ret))) (.skip))))
 ((.seq (.reg [⟨(some 29), .call 205 [], none⟩,
  ⟨(some 9), .lo (.mv (.t 29)), none⟩])
 ((.seq (.reg [⟨(some 10), .lo (.mv (.c .nils)), none⟩])
 ((.seq ((.seq (.reg [⟨(some 11), .lo (.mv (.c (.int .i64 0))), none⟩])
 (.block 0 (.loop ((.seq ((.seq (.reg [⟨(some 30), .lo (.mv (.t 11)), none⟩,
  ⟨(some 31), .lo (.mv (.t 0)), none⟩,
  ⟨(some 32), .lo (.ari .lss (.t 30) (.t 31)), none⟩])
 (.cond (.t 32) (.skip) (.exit 0))))
 ((.seq (.block 1 ((.seq (.reg [⟨(some 35), .lo (.mv (.t 2)), none⟩,
  ⟨(some 36), .lo (.mv (.t 11)), none⟩,
  ⟨(some 37), .lo (.conv .u64 (.t 36)), none⟩,
  ⟨(some 38), .lo (.ari .shr (.t 35) (.t 37)), none⟩,
  ⟨(some 39), .lo (.ari .xor (.t 38) (.c (.int .i64 1))), none⟩,
  ⟨(some 12), .lo (.mv (.t 39)), none⟩])
 (.reg [⟨(some 40), .lo (.mv (.t 10)), none⟩,
  ⟨(some 41), .lo (.mv (.t 1)), none⟩,
  ⟨(some 42), .lo (.mv (.t 12)), none⟩,
  ⟨(some 43), .lo (.mv (.t 11)), none⟩,
  ⟨(some 44), .lo (.conv .u64 (.t 43)), none⟩,
  ⟨(some 45), .lo (.ari .shl (.t 42) (.t 44)), none⟩,
  ⟨(some 46), .lo (.mv (.t 11)), none⟩,
  ⟨(some 47), .lo (.mv (.t 9)), none⟩,
  ⟨(some 48), .call 204 [(.t 41), (.t 45), (.t 46), (.t 47)], none⟩,
  ⟨(some 49), .lo (.bsl 32 1 (.ar 32 (.int .u8)) [(.i 32 0, 32, (.t 48))]), none⟩,
  ⟨(some 50), .lo (.app 32 32 (.t 40) (.t 49)), none⟩,
  ⟨(some 10), .lo (.mv (.t 50)), none⟩]))))
 (.reg [⟨(some 33), .lo (.mv (.t 11)), none⟩,
  ⟨(some 34), .lo (.ari .add (.t 33) (.c (.int .i64 1))), none⟩,
  ⟨(some 11), .lo (.mv (.t 34)), none⟩])))))))))
 ((.seq (.reg [⟨(some 51), .lo (.mv (.t 10)), none⟩,
  ⟨(some 6), .lo (.mv (.t 51)), none⟩,
  ⟨(some 7), .lo (.mv (.c (.int .i64 0))), none⟩])
 (.ret))))))))))))))))
def f64 : LF := ⟨c64, 3, 0, 52, [.tmp 6, .tmp 7]⟩

/-- moot/mootref05.Fold -/
def c65 : LC := (.seq (.reg [⟨(some 4), .lo (.box (.t 1)), none⟩,
  ⟨(some 6), .lo (.alloc (.ar 32 (.int .u8))), none⟩,
  ⟨(some 7), .lo (.mv (.c (.int .i64 0))), none⟩])
 ((.seq ((.seq (.reg [⟨(some 9), .lo (.mv (.t 2)), none⟩,
  ⟨(some 10), .lo (.len 0 (.t 9)), none⟩,
  ⟨(some 11), .lo (.ari .gtr (.t 10) (.c (.int .i64 16))), none⟩,
  ⟨(some 12), .lo (.mv (.t 11)), none⟩,
  ⟨(some 13), .lo (.mv (.t 0)), (some (12, false))⟩,
  ⟨(some 14), .lo (.ari .lss (.t 13) (.c (.int .i64 0))), (some (12, false))⟩,
  ⟨(some 15), .lo (.pick (.t 12) (.c (.bool true)) (.t 14)), none⟩,
  ⟨(some 16), .lo (.mv (.t 15)), none⟩,
  ⟨(some 17), .lo (.mv (.t 0)), (some (16, false))⟩,
  ⟨(some 18), .lo (.mv (.t 2)), (some (16, false))⟩,
  ⟨(some 19), .lo (.len 0 (.t 18)), (some (16, false))⟩,
  ⟨(some 20), .lo (.conv .u64 (.t 19)), (some (16, false))⟩,
  ⟨(some 21), .lo (.ari .shl (.c (.int .i64 1)) (.t 20)), (some (16, false))⟩,
  ⟨(some 22), .lo (.ari .geq (.t 17) (.t 21)), (some (16, false))⟩,
  ⟨(some 23), .lo (.pick (.t 16) (.c (.bool true)) (.t 22)), none⟩])
 (.cond (.t 23) ((.seq (.reg [⟨(some 24), .lo (.build (.ar 32 (.int .u8)) []), none⟩,
  ⟨none, .lo (.store 32 (.t 6) (.t 24)), none⟩,
  ⟨(some 7), .lo (.mv (.c (.int .i64 2))), none⟩])
 (.ret))) (.skip))))
 ((.seq ((.seq (.reg [⟨(some 8), .lo (.mv (.c (.int .i64 0))), none⟩])
 (.block 0 (.loop ((.seq ((.seq (.reg [⟨(some 25), .lo (.mv (.t 8)), none⟩,
  ⟨(some 26), .lo (.mv (.t 2)), none⟩,
  ⟨(some 27), .lo (.len 0 (.t 26)), none⟩,
  ⟨(some 28), .lo (.ari .lss (.t 25) (.t 27)), none⟩])
 (.cond (.t 28) (.skip) (.exit 0))))
 ((.seq (.block 1 ((.seq (.reg [⟨(some 31), .lo (.mv (.t 0)), none⟩,
  ⟨(some 32), .lo (.mv (.t 8)), none⟩,
  ⟨(some 33), .lo (.conv .u64 (.t 32)), none⟩,
  ⟨(some 34), .lo (.ari .shr (.t 31) (.t 33)), none⟩,
  ⟨(some 35), .lo (.ari .rem (.t 34) (.c (.int .i64 2))), none⟩,
  ⟨(some 36), .lo (.ari .eql (.t 35) (.c (.int .i64 0))), none⟩])
 (.cond (.t 36) (.regd [⟨0, 0, ⟨(some 37), .lo (.load true 32 (.t 4)), none⟩⟩,
  ⟨1, 0, ⟨(some 38), .lo (.mv (.t 2)), none⟩⟩,
  ⟨2, 0, ⟨(some 39), .lo (.mv (.t 8)), none⟩⟩,
  ⟨3, 6, ⟨(some 40), .lo (.isl 32 (.t 38) (.t 39)), none⟩⟩,
  ⟨4, 14, ⟨(some 41), .lo (.load true 32 (.t 40)), none⟩⟩,
  ⟨5, 31, ⟨(some 42), .call 206 [(.t 37), (.t 41)], none⟩⟩,
  ⟨6, 63, ⟨none, .lo (.store 32 (.t 4) (.t 42)), none⟩⟩]) (.regd [⟨0, 0, ⟨(some 43), .lo (.mv (.t 2)), none⟩⟩,
  ⟨1, 0, ⟨(some 44), .lo (.mv (.t 8)), none⟩⟩,
  ⟨2, 3, ⟨(some 45), .lo (.isl 32 (.t 43) (.t 44)), none⟩⟩,
  ⟨3, 7, ⟨(some 46), .lo (.load true 32 (.t 45)), none⟩⟩,
  ⟨4, 0, ⟨(some 47), .lo (.load true 32 (.t 4)), none⟩⟩,
  ⟨5, 31, ⟨(some 48), .call 206 [(.t 46), (.t 47)], none⟩⟩,
  ⟨6, 63, ⟨none, .lo (.store 32 (.t 4) (.t 48)), none⟩⟩])))))
 (.reg [⟨(some 29), .lo (.mv (.t 8)), none⟩,
  ⟨(some 30), .lo (.ari .add (.t 29) (.c (.int .i64 1))), none⟩,
  ⟨(some 8), .lo (.mv (.t 30)), none⟩])))))))))
 ((.seq (.reg [⟨(some 49), .lo (.load true 32 (.t 4)), none⟩,
  ⟨none, .lo (.store 32 (.t 6) (.t 49)), none⟩,
  ⟨(some 7), .lo (.mv (.c (.int .i64 0))), none⟩])
 (.ret))))))))
def f65 : LF := ⟨c65, 3, 0, 50, [.cell 6 true 32, .tmp 7]⟩

/-- moot/mootref07.Leaf -/
def c66 : LC := (.seq (.reg [⟨(some 2), .lo (.alloc (.ar 32 (.int .u8))), none⟩])
 ((.seq (.reg [⟨(some 3), .lo (.alloc (.ar 32 (.int .u8))), none⟩])
 ((.seq ((.seq (.reg [⟨(some 4), .lo (.mv (.c (.int .i64 0))), none⟩])
 (.block 0 (.loop ((.seq ((.seq (.reg [⟨(some 5), .lo (.mv (.t 4)), none⟩,
  ⟨(some 6), .lo (.ari .lss (.t 5) (.c (.int .i64 8))), none⟩])
 (.cond (.t 6) (.skip) (.exit 0))))
 ((.seq (.block 1 (.reg [⟨(some 9), .lo (.mv (.t 4)), none⟩,
  ⟨(some 10), .lo (.ari .add (.c (.int .i64 24)) (.t 9)), none⟩,
  ⟨(some 11), .lo (.mv (.t 0)), none⟩,
  ⟨(some 12), .lo (.mv (.t 4)), none⟩,
  ⟨(some 13), .lo (.ari .mul (.c (.int .i64 8)) (.t 12)), none⟩,
  ⟨(some 14), .lo (.ari .sub (.c (.int .i64 56)) (.t 13)), none⟩,
  ⟨(some 15), .lo (.conv .u64 (.t 14)), none⟩,
  ⟨(some 16), .lo (.ari .shr (.t 11) (.t 15)), none⟩,
  ⟨(some 17), .lo (.conv .u8 (.t 16)), none⟩,
  ⟨(some 18), .lo (.iarr 32 1 (.t 3) (.t 10)), none⟩,
  ⟨none, .lo (.store 1 (.t 18) (.t 17)), none⟩]))
 (.reg [⟨(some 7), .lo (.mv (.t 4)), none⟩,
  ⟨(some 8), .lo (.ari .add (.t 7) (.c (.int .i64 1))), none⟩,
  ⟨(some 4), .lo (.mv (.t 8)), none⟩])))))))))
 ((.seq (.reg [⟨(some 19), .lo (.load true 32 (.t 3)), none⟩,
  ⟨none, .lo (.store 32 (.t 2) (.t 19)), none⟩])
 (.ret))))))))
def f66 : LF := ⟨c66, 1, 0, 20, [.cell 2 true 32]⟩

/-- moot/mootlaw11.CommitProofs -/
def c5 : LC := (.seq (.reg [⟨(some 10), .lo (.mv (.c (.bool false))), none⟩])
 ((.seq (.reg [⟨(some 35), .lo (.mv (.t 0)), none⟩,
  ⟨(some 36), .call 46 [(.t 35), (.c .nils), (.c (.int .u64 0)), (.c (.int .u64 0)), (.c (.bool false))], none⟩,
  ⟨(some 34), .lo (.mv (.t 36)), none⟩,
  ⟨(some 37), .lo (.ext (.t 34) 0), none⟩,
  ⟨(some 38), .lo (.ext (.t 34) 1), none⟩,
  ⟨(some 11), .lo (.mv (.t 37)), none⟩,
  ⟨(some 12), .lo (.mv (.t 38)), none⟩])
 ((.seq ((.seq (.reg [⟨(some 39), .lo (.mv (.t 11)), none⟩,
  ⟨(some 40), .lo (.eq false true .ptr (.t 39) (.c .nilp)), none⟩,
  ⟨(some 41), .lo (.mv (.t 40)), none⟩,
  ⟨(some 42), .call 47 [], (some (41, false))⟩,
  ⟨(some 43), .lo (.un .not (.t 42)), (some (41, false))⟩,
  ⟨(some 44), .lo (.pick (.t 41) (.c (.bool true)) (.t 43)), none⟩])
 (.cond (.t 44) ((.seq (.reg [⟨(some 10), .lo (.mv (.c (.bool false))), none⟩])
 (.ret))) (.skip))))
 ((.seq (.reg [⟨(some 46), .lo (.mv (.t 11)), none⟩,
  ⟨(some 47), .lo (.mv (.t 1)), none⟩,
  ⟨(some 48), .call 50 [(.t 46), (.t 47)], none⟩,
  ⟨(some 45), .lo (.mv (.t 48)), none⟩,
  ⟨(some 49), .lo (.ext (.t 45) 0), none⟩,
  ⟨(some 50), .lo (.ext (.t 45) 1), none⟩,
  ⟨(some 13), .lo (.alloc (.st (.cons (.int .u64) (.cons .slice .nil)))), none⟩,
  ⟨none, .lo (.store 2 (.t 13) (.t 49)), none⟩,
  ⟨(some 14), .lo (.mv (.t 50)), none⟩])
 ((.seq (.reg [⟨(some 52), .lo (.mv (.t 11)), none⟩,
  ⟨(some 53), .call 51 [(.t 52)], none⟩,
  ⟨(some 51), .lo (.mv (.t 53)), none⟩,
  ⟨(some 54), .lo (.ext (.t 51) 0), none⟩,
  ⟨(some 55), .lo (.ext (.t 51) 1), none⟩,
  ⟨(some 15), .lo (.alloc (.ar 32 (.int .u8))), none⟩,
  ⟨none, .lo (.store 32 (.t 15) (.t 54)), none⟩,
  ⟨(some 16), .lo (.mv (.t 55)), none⟩])
 ((.seq ((.seq (.reg [⟨(some 56), .lo (.mv (.t 1)), none⟩,
  ⟨(some 57), .lo (.ari .geq (.t 56) (.c (.int .u64 8192))), none⟩])
 (.cond (.t 57) ((.seq (.reg [⟨(some 59), .lo (.load true 32 (.t 15)), none⟩,
  ⟨(some 60), .lo (.mv (.t 1)), none⟩,
  ⟨(some 61), .lo (.build (.st (.cons (.int .u64) (.cons .slice .nil))) []), none⟩,
  ⟨(some 62), .call 53 [(.t 59), (.t 60), (.t 61)], none⟩,
  ⟨(some 58), .lo (.mv (.t 62)), none⟩,
  ⟨(some 63), .lo (.ext (.t 58) 0), none⟩,
  ⟨(some 64), .lo (.ext (.t 58) 1), none⟩,
  ⟨(some 17), .lo (.mv (.t 63)), none⟩,
  ⟨(some 18), .lo (.mv (.t 64)), none⟩])
 ((.seq (.reg [⟨(some 66), .lo (.load true 32 (.t 15)), none⟩,
  ⟨(some 67), .lo (.mv (.t 1)), none⟩,
  ⟨(some 68), .lo (.build (.st (.cons (.int .u64) (.cons .slice .nil))) []), none⟩,
  ⟨(some 69), .lo (.mv (.t 2)), none⟩,
  ⟨(some 70), .call 52 [(.t 66), (.t 67), (.t 68), (.t 69)], none⟩,
  ⟨(some 65), .lo (.mv (.t 70)), none⟩,
  ⟨(some 71), .lo (.ext (.t 65) 0), none⟩,
  ⟨(some 72), .lo (.ext (.t 65) 1), none⟩,
  ⟨(some 19), .lo (.alloc (.ar 32 (.int .u8))), none⟩,
  ⟨none, .lo (.store 32 (.t 19) (.t 71)), none⟩,
  ⟨(some 20), .lo (.mv (.t 72)), none⟩])
 ((.seq (.reg [⟨(some 73), .lo (.mv (.t 14)), none⟩,
  ⟨(some 74), .lo (.mkif 74 (.c (.int .i64 2))), none⟩,
  ⟨(some 75), .call 63 [(.t 73), (.t 74)], none⟩,
  ⟨(some 76), .lo (.mv (.t 75)), none⟩,
  ⟨(some 77), .lo (.mv (.t 18)), (some (76, true))⟩,
  ⟨(some 78), .lo (.mkif 74 (.c (.int .i64 2))), (some (76, true))⟩,
  ⟨(some 79), .call 63 [(.t 77), (.t 78)], (some (76, true))⟩,
  ⟨(some 80), .lo (.pick (.t 76) (.t 79) (.c (.bool false))), none⟩,
  ⟨(some 81), .lo (.mv (.t 80)), none⟩,
  ⟨(some 82), .lo (.mv (.t 20)), (some (81, true))⟩,
  ⟨(some 83), .lo (.mkif 74 (.c (.int .i64 2))), (some (81, true))⟩,
  ⟨(some 84), .call 63 [(.t 82), (.t 83)], (some (81, true))⟩,
  ⟨(some 85), .lo (.pick (.t 81) (.t 84) (.c (.bool false))), none⟩,
  ⟨(some 86), .lo (.mv (.t 85)), none⟩,
  ⟨(some 87), .lo (.mv (.t 16)), (some (86, true))⟩,
  ⟨(some 88), .lo (.eq false true (.iface [74]) (.t 87) (.c .nili)), (some (86, true))⟩,
  ⟨(some 89), .lo (.pick (.t 86) (.t 88) (.c (.bool false))), none⟩,
  ⟨(some 10), .lo (.mv (.t 89)), none⟩])
 (.ret))))))) (.skip))))
 ((.seq (.reg [⟨(some 91), .lo (.mv (.t 12)), none⟩,
  ⟨(some 92), .lo (.nilc (.t 91)), none⟩,
  ⟨(some 93), .lo (.fadr 0 (.t 92)), none⟩,
  ⟨(some 94), .lo (.load false 1 (.t 93)), none⟩,
  ⟨(some 95), .call 57 [(.t 94)], none⟩,
  ⟨(some 96), .lo (.mv (.t 1)), none⟩,
  ⟨(some 97), .lo (.conv .i64 (.t 96)), none⟩,
  ⟨(some 98), .call 64 [(.c (.int .i64 13)), (.t 95), (.t 97)], none⟩,
  ⟨(some 90), .lo (.mv (.t 98)), none⟩,
  ⟨(some 99), .lo (.ext (.t 90) 0), none⟩,
  ⟨(some 100), .lo (.ext (.t 90) 1), none⟩,
  ⟨(some 21), .lo (.mv (.t 99)), none⟩,
  ⟨(some 22), .lo (.mv (.t 100)), none⟩])
 ((.seq ((.seq (.regd [⟨0, 0, ⟨(some 101), .lo (.mv (.t 14)), none⟩⟩,
  ⟨1, 1, ⟨(some 102), .lo (.eq true true (.iface [74]) (.t 101) (.c .nili)), none⟩⟩,
  ⟨2, 3, ⟨(some 103), .lo (.mv (.t 102)), none⟩⟩,
  ⟨3, 7, ⟨(some 104), .lo (.mv (.t 16)), (some (103, false))⟩⟩,
  ⟨4, 15, ⟨(some 105), .lo (.eq true true (.iface [74]) (.t 104) (.c .nili)), (some (103, false))⟩⟩,
  ⟨5, 31, ⟨(some 106), .lo (.pick (.t 103) (.c (.bool true)) (.t 105)), none⟩⟩,
  ⟨6, 63, ⟨(some 107), .lo (.mv (.t 106)), none⟩⟩,
  ⟨7, 127, ⟨(some 108), .lo (.fadr 0 (.t 13)), (some (107, false))⟩⟩,
  ⟨8, 255, ⟨(some 109), .lo (.load false 1 (.t 108)), (some (107, false))⟩⟩,
  ⟨9, 127, ⟨(some 110), .lo (.mv (.t 12)), (some (107, false))⟩⟩,
  ⟨10, 639, ⟨(some 111), .lo (.nilc (.t 110)), (some (107, false))⟩⟩,
  ⟨11, 1663, ⟨(some 112), .lo (.fadr 0 (.t 111)), (some (107, false))⟩⟩,
  ⟨12, 3711, ⟨(some 113), .lo (.load false 1 (.t 112)), (some (107, false))⟩⟩,
  ⟨13, 127, ⟨(some 114), .lo (.mv (.t 1)), (some (107, false))⟩⟩,
  ⟨14, 15999, ⟨(some 115), .lo (.isl 1 (.t 113) (.t 114)), (some (107, false))⟩⟩,
  ⟨15, 32383, ⟨(some 116), .lo (.load false 1 (.t 115)), (some (107, false))⟩⟩,
  ⟨16, 65535, ⟨(some 117), .lo (.ari .neq (.t 109) (.t 116)), (some (107, false))⟩⟩,
  ⟨17, 131071, ⟨(some 118), .lo (.pick (.t 107) (.c (.bool true)) (.t 117)), none⟩⟩,
  ⟨18, 262143, ⟨(some 119), .lo (.mv (.t 118)), none⟩⟩,
  ⟨19, 524287, ⟨(some 120), .lo (.fadr 1 (.t 13)), (some (119, false))⟩⟩,
  ⟨20, 1048575, ⟨(some 121), .lo (.load false 1 (.t 120)), (some (119, false))⟩⟩,
  ⟨21, 2097151, ⟨(some 122), .lo (.len 0 (.t 121)), (some (119, false))⟩⟩,
  ⟨22, 4194303, ⟨(some 123), .lo (.ari .neq (.t 122) (.c (.int .i64 13))), (some (119, false))⟩⟩,
  ⟨23, 8388607, ⟨(some 124), .lo (.pick (.t 119) (.c (.bool true)) (.t 123)), none⟩⟩])
 (.cond (.t 124) ((.seq (.reg [⟨(some 10), .lo (.mv (.c (.bool false))), none⟩])
 (.ret))) (.skip))))
 ((.seq ((.seq (.reg [⟨(some 125), .lo (.mv (.t 21)), none⟩,
  ⟨(some 126), .lo (.len 0 (.t 125)), none⟩,
  ⟨(some 127), .lo (.mv (.c (.int .i64 0))), none⟩])
 (.block 0 (.loop ((.seq (.reg [⟨(some 128), .lo (.ari .lss (.t 127) (.t 126)), none⟩])
 ((.seq (.cond (.t 128) (.skip) (.exit 0))
 ((.seq (.block 1 ((.seq (.reg [⟨(some 129), .lo (.mv (.t 127)), none⟩,
  ⟨(some 23), .lo (.mv (.t 129)), none⟩])
 ((.seq (.regd [⟨0, 0, ⟨(some 130), .lo (.fadr 1 (.t 13)), none⟩⟩,
  ⟨1, 1, ⟨(some 131), .lo (.load false 1 (.t 130)), none⟩⟩,
  ⟨2, 0, ⟨(some 132), .lo (.mv (.t 23)), none⟩⟩,
  ⟨3, 7, ⟨(some 133), .lo (.isl 32 (.t 131) (.t 132)), none⟩⟩,
  ⟨4, 15, ⟨(some 134), .lo (.load true 32 (.t 133)), none⟩⟩,
  ⟨5, 0, ⟨(some 135), .lo (.mv (.t 21)), none⟩⟩,
  ⟨6, 0, ⟨(some 136), .lo (.mv (.t 23)), none⟩⟩,
  ⟨7, 96, ⟨(some 137), .lo (.isl 32 (.t 135) (.t 136)), none⟩⟩,
  ⟨8, 224, ⟨(some 138), .lo (.load true 32 (.t 137)), none⟩⟩,
  ⟨9, 511, ⟨(some 139), .lo (.eq true false (.ar 32 1 false .int) (.t 134) (.t 138)), none⟩⟩])
 (.cond (.t 139) ((.seq (.reg [⟨(some 10), .lo (.mv (.c (.bool false))), none⟩])
 (.ret))) (.skip)))))))
 (.reg [⟨(some 140), .lo (.ari .add (.t 127) (.c (.int .i64 1))), none⟩,
  ⟨(some 127), .lo (.mv (.t 140)), none⟩])))))))))))
 ((.seq (.reg [⟨(some 142), .lo (.load true 32 (.t 15)), none⟩,
  ⟨(some 143), .lo (.mv (.t 1)), none⟩,
  ⟨(some 144), .lo (.load true 2 (.t 13)), none⟩,
  ⟨(some 145), .call 53 [(.t 142), (.t 143), (.t 144)], none⟩,
  ⟨(some 141), .lo (.mv (.t 145)), none⟩,
  ⟨(some 146), .lo (.ext (.t 141) 0), none⟩,
  ⟨(some 147), .lo (.ext (.t 141) 1), none⟩,
  ⟨(some 24), .lo (.mv (.t 146)), none⟩,
  ⟨(some 25), .lo (.mv (.t 147)), none⟩])
 ((.seq (.reg [⟨(some 149), .lo (.load true 32 (.t 15)), none⟩,
  ⟨(some 150), .lo (.mv (.t 1)), none⟩,
  ⟨(some 151), .lo (.load true 2 (.t 13)), none⟩,
  ⟨(some 152), .lo (.mv (.t 2)), none⟩,
  ⟨(some 153), .call 52 [(.t 149), (.t 150), (.t 151), (.t 152)], none⟩,
  ⟨(some 148), .lo (.mv (.t 153)), none⟩,
  ⟨(some 154), .lo (.ext (.t 148) 0), none⟩,
  ⟨(some 155), .lo (.ext (.t 148) 1), none⟩,
  ⟨(some 26), .lo (.alloc (.ar 32 (.int .u8))), none⟩,
  ⟨none, .lo (.store 32 (.t 26) (.t 154)), none⟩,
  ⟨(some 27), .lo (.mv (.t 155)), none⟩])
 ((.seq (.reg [⟨(some 156), .lo (.mv (.t 11)), none⟩,
  ⟨(some 157), .lo (.mv (.t 1)), none⟩,
  ⟨(some 158), .lo (.mv (.t 2)), none⟩,
  ⟨(some 159), .lo (.nilc (.t 156)), none⟩,
  ⟨(some 160), .lo (.fadr 0 (.t 159)), none⟩,
  ⟨(some 161), .lo (.iarr 8192 1 (.t 160) (.t 157)), none⟩,
  ⟨none, .lo (.store 1 (.t 161) (.t 158)), none⟩])
 ((.seq (.reg [⟨(some 163), .lo (.mv (.t 11)), none⟩,
  ⟨(some 164), .call 51 [(.t 163)], none⟩,
  ⟨(some 162), .lo (.mv (.t 164)), none⟩,
  ⟨(some 165), .lo (.ext (.t 162) 0), none⟩,
  ⟨(some 166), .lo (.ext (.t 162) 1), none⟩,
  ⟨(some 28), .lo (.alloc (.ar 32 (.int .u8))), none⟩,
  ⟨none, .lo (.store 32 (.t 28) (.t 165)), none⟩,
  ⟨(some 29), .lo (.mv (.t 166)), none⟩])
 ((.seq ((.seq (.reg [⟨(some 167), .lo (.mv (.t 25)), none⟩,
  ⟨(some 168), .lo (.eq true true (.iface [74]) (.t 167) (.c .nili)), none⟩,
  ⟨(some 169), .lo (.mv (.t 168)), none⟩,
  ⟨(some 170), .lo (.mv (.t 27)), (some (169, false))⟩,
  ⟨(some 171), .lo (.eq true true (.iface [74]) (.t 170) (.c .nili)), (some (169, false))⟩,
  ⟨(some 172), .lo (.pick (.t 169) (.c (.bool true)) (.t 171)), none⟩,
  ⟨(some 173), .lo (.mv (.t 172)), none⟩,
  ⟨(some 174), .lo (.mv (.t 29)), (some (173, false))⟩,
  ⟨(some 175), .lo (.eq true true (.iface [74]) (.t 174) (.c .nili)), (some (173, false))⟩,
  ⟨(some 176), .lo (.pick (.t 173) (.c (.bool true)) (.t 175)), none⟩,
  ⟨(some 177), .lo (.mv (.t 176)), none⟩,
  ⟨(some 178), .lo (.mv (.t 24)), (some (177, false))⟩,
  ⟨(some 179), .lo (.un .not (.t 178)), (some (177, false))⟩,
  ⟨(some 180), .lo (.pick (.t 177) (.c (.bool true)) (.t 179)), none⟩,
  ⟨(some 181), .lo (.mv (.t 180)), none⟩,
  ⟨(some 182), .lo (.load true 32 (.t 26)), (some (181, false))⟩,
  ⟨(some 183), .lo (.load true 32 (.t 28)), (some (181, false))⟩,
  ⟨(some 184), .lo (.eq true false (.ar 32 1 false .int) (.t 182) (.t 183)), (some (181, false))⟩,
  ⟨(some 185), .lo (.pick (.t 181) (.c (.bool true)) (.t 184)), none⟩])
 (.cond (.t 185) ((.seq (.reg [⟨(some 10), .lo (.mv (.c (.bool false))), none⟩])
 (.ret))) (.skip))))
 ((.seq (.regd [⟨0, 0, ⟨(some 187), .lo (.load true 32 (.t 15)), none⟩⟩,
  ⟨1, 0, ⟨(some 188), .lo (.mv (.t 1)), none⟩⟩,
  ⟨2, 0, ⟨(some 189), .lo (.fadr 0 (.t 13)), none⟩⟩,
  ⟨3, 4, ⟨(some 190), .lo (.load false 1 (.t 189)), none⟩⟩,
  ⟨4, 0, ⟨(some 191), .lo (.fadr 1 (.t 13)), none⟩⟩,
  ⟨5, 16, ⟨(some 192), .lo (.load false 1 (.t 191)), none⟩⟩,
  ⟨6, 48, ⟨(some 193), .lo (.slsl 32 (.t 192) none (some (.c (.int .i64 12)))), none⟩⟩,
  ⟨7, 124, ⟨(some 194), .lo (.build (.st (.cons (.int .u64) (.cons .slice .nil))) [(.f 0, 1, (.t 190)), (.f 1, 1, (.t 193))]), none⟩⟩,
  ⟨8, 255, ⟨(some 195), .call 53 [(.t 187), (.t 188), (.t 194)], none⟩⟩,
  ⟨9, 511, ⟨(some 186), .lo (.mv (.t 195)), none⟩⟩,
  ⟨10, 1023, ⟨(some 196), .lo (.ext (.t 186) 0), none⟩⟩,
  ⟨11, 1023, ⟨(some 197), .lo (.ext (.t 186) 1), none⟩⟩,
  ⟨12, 4095, ⟨(some 25), .lo (.mv (.t 197)), none⟩⟩])
 ((.seq ((.seq (.reg [⟨(some 198), .lo (.mv (.t 25)), none⟩,
  ⟨(some 199), .lo (.mkif 74 (.c (.int .i64 3))), none⟩,
  ⟨(some 200), .call 63 [(.t 198), (.t 199)], none⟩,
  ⟨(some 201), .lo (.un .not (.t 200)), none⟩])
 (.cond (.t 201) ((.seq (.reg [⟨(some 10), .lo (.mv (.c (.bool false))), none⟩])
 (.ret))) (.skip))))
 ((.seq (.reg [⟨(some 202), .lo (.mv (.t 3)), none⟩,
  ⟨(some 203), .lo (.conv .u64 (.t 202)), none⟩,
  ⟨(some 204), .lo (.ari .rem (.t 203) (.c (.int .u64 13))), none⟩,
  ⟨(some 205), .lo (.conv .i64 (.t 204)), none⟩,
  ⟨(some 30), .lo (.mv (.t 205)), none⟩])
 ((.seq (.reg [⟨(some 206), .lo (.bsl 32 0 (.ar 32 (.int .u8)) []), none⟩,
  ⟨(some 207), .lo (.mv (.t 21)), none⟩,
  ⟨(some 208), .lo (.app 32 32 (.t 206) (.t 207)), none⟩,
  ⟨(some 31), .lo (.mv (.t 208)), none⟩])
 ((.seq (.regd [⟨0, 0, ⟨(some 209), .lo (.mv (.t 31)), none⟩⟩,
  ⟨1, 0, ⟨(some 210), .lo (.mv (.t 30)), none⟩⟩,
  ⟨2, 0, ⟨(some 211), .lo (.mv (.t 4)), none⟩⟩,
  ⟨3, 4, ⟨(some 212), .lo (.conv .i64 (.t 211)), none⟩⟩,
  ⟨4, 12, ⟨(some 213), .lo (.ari .rem (.t 212) (.c (.int .i64 32))), none⟩⟩,
  ⟨5, 3, ⟨(some 214), .lo (.isl 32 (.t 209) (.t 210)), none⟩⟩,
  ⟨6, 63, ⟨(some 215), .lo (.iarr 32 1 (.t 214) (.t 213)), none⟩⟩,
  ⟨7, 127, ⟨(some 216), .lo (.load false 1 (.t 215)), none⟩⟩,
  ⟨8, 0, ⟨(some 217), .lo (.mv (.t 4)), none⟩⟩,
  ⟨9, 511, ⟨(some 218), .lo (.ari .xor (.t 216) (.t 217)), none⟩⟩,
  ⟨10, 3, ⟨(some 219), .lo (.isl 32 (.t 209) (.t 210)), none⟩⟩,
  ⟨11, 2047, ⟨(some 220), .lo (.iarr 32 1 (.t 219) (.t 213)), none⟩⟩,
  ⟨12, 4095, ⟨none, .lo (.store 1 (.t 220) (.t 218)), none⟩⟩])
 ((.seq (.regd [⟨0, 0, ⟨(some 221), .lo (.fadr 1 (.t 13)), none⟩⟩,
  ⟨1, 1, ⟨(some 222), .lo (.load false 1 (.t 221)), none⟩⟩,
  ⟨2, 0, ⟨(some 223), .lo (.mv (.t 30)), none⟩⟩,
  ⟨3, 0, ⟨(some 224), .lo (.mv (.t 31)), none⟩⟩,
  ⟨4, 0, ⟨(some 225), .lo (.mv (.t 30)), none⟩⟩,
  ⟨5, 24, ⟨(some 226), .lo (.isl 32 (.t 224) (.t 225)), none⟩⟩,
  ⟨6, 56, ⟨(some 227), .lo (.load true 32 (.t 226)), none⟩⟩,
  ⟨7, 127, ⟨(some 228), .lo (.isl 32 (.t 222) (.t 223)), none⟩⟩,
  ⟨8, 255, ⟨none, .lo (.store 32 (.t 228) (.t 227)), none⟩⟩])
 ((.seq (.reg [⟨(some 230), .lo (.mv (.t 1)), none⟩,
  ⟨(some 231), .lo (.conv .i64 (.t 230)), none⟩,
  ⟨(some 232), .lo (.fadr 0 (.t 13)), none⟩,
  ⟨(some 233), .lo (.load false 1 (.t 232)), none⟩,
  ⟨(some 234), .call 66 [(.t 233)], none⟩,
  ⟨(some 235), .lo (.mv (.t 31)), none⟩,
  ⟨(some 236), .call 65 [(.t 231), (.t 234), (.t 235)], none⟩,
  ⟨(some 229), .lo (.mv (.t 236)), none⟩,
  ⟨(some 237), .lo (.ext (.t 229) 0), none⟩,
  ⟨(some 238), .lo (.ext (.t 229) 1), none⟩,
  ⟨(some 32), .lo (.alloc (.ar 32 (.int .u8))), none⟩,
  ⟨none, .lo (.store 32 (.t 32) (.t 237)), none⟩,
  ⟨(some 33), .lo (.mv (.t 238)), none⟩])
 ((.seq (.reg [⟨(some 240), .lo (.load true 32 (.t 15)), none⟩,
  ⟨(some 241), .lo (.mv (.t 1)), none⟩,
  ⟨(some 242), .lo (.load true 2 (.t 13)), none⟩,
  ⟨(some 243), .call 53 [(.t 240), (.t 241), (.t 242)], none⟩,
  ⟨(some 239), .lo (.mv (.t 243)), none⟩,
  ⟨(some 244), .lo (.ext (.t 239) 0), none⟩,
  ⟨(some 245), .lo (.ext (.t 239) 1), none⟩,
  ⟨(some 24), .lo (.mv (.t 244)), none⟩,
  ⟨(some 25), .lo (.mv (.t 245)), none⟩])
 ((.seq (.reg [⟨(some 247), .lo (.load true 32 (.t 15)), none⟩,
  ⟨(some 248), .lo (.mv (.t 1)), none⟩,
  ⟨(some 249), .lo (.load true 2 (.t 13)), none⟩,
  ⟨(some 250), .lo (.mv (.t 2)), none⟩,
  ⟨(some 251), .call 52 [(.t 247), (.t 248), (.t 249), (.t 250)], none⟩,
  ⟨(some 246), .lo (.mv (.t 251)), none⟩,
  ⟨(some 252), .lo (.ext (.t 246) 0), none⟩,
  ⟨(some 253), .lo (.ext (.t 246) 1), none⟩,
  ⟨(some 27), .lo (.mv (.t 253)), none⟩])
 ((.seq (.reg [⟨(some 254), .lo (.mv (.t 25)), none⟩,
  ⟨(some 255), .lo (.eq false true (.iface [74]) (.t 254) (.c .nili)), none⟩,
  ⟨(some 256), .lo (.mv (.t 255)), none⟩,
  ⟨(some 257), .lo (.mv (.t 24)), (some (256, true))⟩,
  ⟨(some 258), .lo (.load true 32 (.t 32)), (some (256, true))⟩,
  ⟨(some 259), .lo (.load true 32 (.t 15)), (some (256, true))⟩,
  ⟨(some 260), .lo (.eq false false (.ar 32 1 false .int) (.t 258) (.t 259)), (some (256, true))⟩,
  ⟨(some 261), .lo (.eq false false .bool (.t 257) (.t 260)), (some (256, true))⟩,
  ⟨(some 262), .lo (.pick (.t 256) (.t 261) (.c (.bool false))), none⟩,
  ⟨(some 263), .lo (.mv (.t 262)), none⟩,
  ⟨(some 264), .lo (.mv (.t 27)), (some (263, true))⟩,
  ⟨(some 265), .lo (.eq false true (.iface [74]) (.t 264) (.c .nili)), (some (263, true))⟩,
  ⟨(some 266), .lo (.mv (.t 24)), (some (263, true))⟩,
  ⟨(some 267), .lo (.eq false false .bool (.t 265) (.t 266)), (some (263, true))⟩,
  ⟨(some 268), .lo (.pick (.t 263) (.t 267) (.c (.bool false))), none⟩,
  ⟨(some 269), .lo (.mv (.t 268)), none⟩,
  ⟨(some 270), .lo (.mv (.t 27)), (some (269, true))⟩,
  ⟨(some 271), .lo (.eq false true (.iface [74]) (.t 270) (.c .nili)), (some (269, true))⟩,
  ⟨(some 272), .lo (.mv (.t 271)), (some (269, true))⟩,
  ⟨(some 273), .lo (.mv (.t 27)), (some (272, false))⟩,
  ⟨(some 274), .lo (.mkif 74 (.c (.int .i64 31))), (some (272, false))⟩,
  ⟨(some 275), .call 63 [(.t 273), (.t 274)], (some (272, false))⟩,
  ⟨(some 276), .lo (.pick (.t 272) (.c (.bool true)) (.t 275)), (some (269, true))⟩,
  ⟨(some 277), .lo (.pick (.t 269) (.t 276) (.c (.bool false))), none⟩,
  ⟨(some 10), .lo (.mv (.t 277)), none⟩])
 (.ret))))))))))))))))))))))))))))))))))))))))))))))))
def f5 : LF := ⟨c5, 5, 0, 278, [.tmp 10]⟩


end Mv
namespace Mv
open Go
/-- The seat has these functions. -/
structure OkB (M : Seat) : Prop where
  k4 : chkF M 4 f4 = true
  k54 : chkF M 54 f54 = true
  k55 : chkF M 55 f55 = true
  k59 : chkF M 59 f59 = true
  k62 : chkF M 62 f62 = true
  k208 : chkF M 208 f208 = true
  k56 : chkF M 56 f56 = true
  k57 : chkF M 57 f57 = true
  k58 : chkF M 58 f58 = true
  k60 : chkF M 60 f60 = true
  k61 : chkF M 61 f61 = true
  k203 : chkF M 203 f203 = true
  k204 : chkF M 204 f204 = true
  k205 : chkF M 205 f205 = true
  k206 : chkF M 206 f206 = true
  k209 : chkF M 209 f209 = true
  k311 : chkF M 311 f311 = true
  k413 : chkF M 413 f413 = true
  k414 : chkF M 414 f414 = true
  k415 : chkF M 415 f415 = true
  k461 : chkF M 461 f461 = true
  k64 : chkF M 64 f64 = true
  k65 : chkF M 65 f65 = true
  k66 : chkF M 66 f66 = true
  k5 : chkF M 5 f5 = true
end Mv
