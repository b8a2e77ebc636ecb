/- The small language: a right program passes the check. -/
import Derived.Test.YtdenaplelfkecaaDoorT
import Derived.Test.YtdenaplelfkecaaDoorW1
import Derived.Test.YtdenaplelfkecaaDoorIa
import Derived.Test.YtdenaplelfkecaaDoorId
set_option linter.unusedSimpArgs false
set_option linter.unusedVariables false
namespace Mv
open Go
/-- moot/ir.Eval -/
def c94 : LC := (.seq (.reg [A1 8 (.alloc (.st (.cons (.int .u64) (.cons .slice (.cons (.int .i64) .nil))))),
  A1 9 (.mv (.c .nili))])
 ((.seq ((.seq (.reg [A1 13 (.mv (.t 2)),
  A1 14 (.eq false true .ptr (.t 13) (.c .nilp))])
 (.cond (.t 14) ((.seq (.reg [A1 15 (.build (.st (.cons (.int .u64) (.cons .slice (.cons (.int .i64) .nil)))) []),
  A1 16 (.mkif 74 (.c (.int .i64 1))),
  A0 (.store 3 (.t 8) (.t 15)),
  A1 9 (.mv (.t 16))])
 (.ret))) (.skip))))
 ((.seq ((.seq (.reg [A1 17 (.mv (.t 0)),
  ⟨(some 18), .call 179 [(.t 17)], none⟩,
  A1 10 (.mv (.t 18))])
 ((.seq (.reg [A1 19 (.mv (.t 10)),
  A1 20 (.eq true true (.iface [74]) (.t 19) (.c .nili))])
 (.cond (.t 20) ((.seq (.reg [A1 21 (.build (.st (.cons (.int .u64) (.cons .slice (.cons (.int .i64) .nil)))) []),
  A1 22 (.mv (.t 10)),
  A0 (.store 3 (.t 8) (.t 21)),
  A1 9 (.mv (.t 22))])
 (.ret))) (.skip))))))
 ((.seq (.block 0 ((.seq (.reg [A1 24 (.mv (.t 1)),
  A1 25 (.len 0 (.t 24)),
  A1 26 (.ari .gtr (.t 25) (.c (.int .i64 2048))),
  A1 23 (.mv (.t 26))])
 (.cond (.t 23) ((.seq (.reg [A1 27 (.build (.st (.cons (.int .u64) (.cons .slice (.cons (.int .i64) .nil)))) []),
  A1 28 (.mkif 74 (.c (.int .i64 5))),
  A0 (.store 3 (.t 8) (.t 27)),
  A1 9 (.mv (.t 28))])
 (.ret))) ((.seq (.reg [A1 30 (.mv (.t 3)),
  A1 31 (.ari .lss (.t 30) (.c (.int .i64 0))),
  A1 29 (.mv (.t 31))])
 (.cond (.t 29) ((.seq (.reg [A1 32 (.build (.st (.cons (.int .u64) (.cons .slice (.cons (.int .i64) .nil)))) []),
  A1 33 (.mkif 74 (.c (.int .i64 2))),
  A0 (.store 3 (.t 8) (.t 32)),
  A1 9 (.mv (.t 33))])
 (.ret))) (.skip))))))))
 ((.seq (.reg [A1 34 (.mv (.t 0)),
  A1 35 (.mksl 1 8 (.int .u64) (.c (.int .i64 2048)) (.c (.int .i64 2048))),
  A1 36 (.mv (.t 2)),
  A1 37 (.mv (.t 3)),
  A1 38 (.build (.st (.cons .slice (.cons .slice (.cons .ptr (.cons (.int .i64) (.cons (.int .i64) (.cons .bool (.cons .bool (.cons (.int .u64) .nil))))))))) [(.f 0, 1, (.t 34)), (.f 1, 1, (.t 35)), (.f 2, 1, (.t 36)), (.f 3, 1, (.t 37))]),
  A1 39 (.box (.t 38)),
  A1 11 (.mv (.t 39))])
 ((.seq (.reg [A1 40 (.mv (.t 11)),
  A1 41 (.nilc (.t 40)),
  A1 42 (.fadr 1 (.t 41)),
  A1 43 (.load false 1 (.t 42)),
  A1 44 (.mv (.t 1)),
  A1 45 (.copy 1 (.t 43) (.t 44))])
 ((.seq (.reg [A1 46 (.mv (.t 11)),
  ⟨(some 47), .call 238 [(.t 46), (.c (.int .i64 0)), (.c .nils)], none⟩,
  A1 12 (.mv (.t 47))])
 ((.seq (.reg [A1 48 (.mv (.t 11)),
  A1 49 (.mv (.t 12)),
  ⟨(some 50), .call 239 [(.t 48), (.t 49)], none⟩])
 ((.seq ((.seq (.reg [A1 51 (.mv (.t 11)),
  A1 52 (.nilc (.t 51)),
  A1 53 (.fadr 6 (.t 52)),
  A1 54 (.load false 1 (.t 53))])
 (.cond (.t 54) ((.seq (.reg [A1 55 (.build (.st (.cons (.int .u64) (.cons .slice (.cons (.int .i64) .nil)))) []),
  A1 56 (.mkif 74 (.c (.int .i64 30))),
  A0 (.store 3 (.t 8) (.t 55)),
  A1 9 (.mv (.t 56))])
 (.ret))) (.skip))))
 ((.seq (.regd [⟨0, 0, A1 57 (.mv (.t 11))⟩,
  ⟨1, 1, A1 58 (.nilc (.t 57))⟩,
  ⟨2, 3, A1 59 (.fadr 7 (.t 58))⟩,
  ⟨3, 7, A1 60 (.load false 1 (.t 59))⟩,
  ⟨4, 0, A1 61 (.mv (.t 11))⟩,
  ⟨5, 16, A1 62 (.nilc (.t 61))⟩,
  ⟨6, 48, A1 63 (.fadr 1 (.t 62))⟩,
  ⟨7, 112, A1 64 (.load false 1 (.t 63))⟩,
  ⟨8, 0, A1 65 (.mv (.t 11))⟩,
  ⟨9, 256, A1 66 (.nilc (.t 65))⟩,
  ⟨10, 768, A1 67 (.fadr 4 (.t 66))⟩,
  ⟨11, 1792, A1 68 (.load false 1 (.t 67))⟩,
  ⟨12, 4095, A1 69 (.build (.st (.cons (.int .u64) (.cons .slice (.cons (.int .i64) .nil)))) [(.f 0, 1, (.t 60)), (.f 1, 1, (.t 64)), (.f 2, 1, (.t 68))])⟩,
  ⟨13, 8191, A0 (.store 3 (.t 8) (.t 69))⟩,
  ⟨14, 16383, A1 9 (.mv (.c .nili))⟩])
 (.ret))))))))))))))))))))
def f94 : LF := ⟨c94, 4, 0, 70, [.cell 8 true 3, .tmp 9]⟩

/-- moot/ir.Check -/
def c179 : LC := (.seq (.reg [A1 2 (.mv (.c .nili))])
 ((.seq (.reg [A1 6 (.mv (.t 0)),
  A1 7 (.build (.st (.cons (.int .i64) (.cons .bool (.cons .bool (.cons .slice (.cons (.int .i64) .nil)))))) [(.f 3, 1, (.t 6))]),
  A1 8 (.box (.t 7)),
  A1 3 (.mv (.t 8))])
 ((.seq ((.seq (.reg [A1 9 (.mv (.t 0)),
  A1 10 (.len 0 (.t 9)),
  A1 11 (.mv (.c (.int .i64 0)))])
 (.block 0 (.loop ((.seq (.reg [A1 12 (.ari .lss (.t 11) (.t 10))])
 ((.seq (.cond (.t 12) (.skip) (.exit 0))
 ((.seq (.block 1 ((.seq (.reg [A1 13 (.mv (.t 11)),
  A1 14 (.isl 3 (.t 9) (.t 11)),
  A1 15 (.load true 3 (.t 14)),
  A1 5 (.alloc (.st (.cons (.int .i64) (.cons (.int .i64) (.cons .slice .nil))))),
  A1 4 (.mv (.t 13)),
  A0 (.store 3 (.t 5) (.t 15))])
 ((.seq (.reg [A1 16 (.mv (.t 3)),
  A1 17 (.mv (.t 4)),
  A1 18 (.nilc (.t 16)),
  A1 19 (.fadr 4 (.t 18)),
  A0 (.store 1 (.t 19) (.t 17))])
 ((.seq (.reg [A1 20 (.mv (.t 3)),
  A1 21 (.mv (.t 3)),
  A1 22 (.nilc (.t 21)),
  A1 23 (.fadr 2 (.t 22)),
  A1 24 (.load false 1 (.t 23)),
  A1 25 (.mv (.t 24)),
  A2 26 25 false (.fadr 0 (.t 5)),
  A2 27 25 false (.load false 1 (.t 26)),
  A2 28 25 false (.ari .lss (.t 27) (.c (.int .i64 0))),
  A1 29 (.pick (.t 25) (.c (.bool true)) (.t 28)),
  A1 30 (.mv (.t 29)),
  A2 31 30 false (.fadr 0 (.t 5)),
  A2 32 30 false (.load false 1 (.t 31)),
  A2 33 30 false (.fadr 1 (.t 5)),
  A2 34 30 false (.load false 1 (.t 33)),
  A2 35 30 false (.ari .gtr (.t 32) (.t 34)),
  A1 36 (.pick (.t 30) (.c (.bool true)) (.t 35)),
  A1 37 (.mv (.t 36)),
  A2 38 37 false (.fadr 1 (.t 5)),
  A2 39 37 false (.load false 1 (.t 38)),
  A2 40 37 false (.ari .gtr (.t 39) (.c (.int .i64 24))),
  A1 41 (.pick (.t 37) (.c (.bool true)) (.t 40)),
  A1 42 (.mv (.t 41)),
  A2 43 42 false (.mv (.t 4)),
  A2 44 42 false (.ari .eql (.t 43) (.c (.int .i64 0))),
  A2 45 42 false (.mv (.t 44)),
  A2 46 45 true (.fadr 0 (.t 5)),
  A2 47 45 true (.load false 1 (.t 46)),
  A2 48 45 true (.ari .neq (.t 47) (.c (.int .i64 0))),
  A2 49 42 false (.pick (.t 45) (.t 48) (.c (.bool false))),
  A1 50 (.pick (.t 42) (.c (.bool true)) (.t 49)),
  A1 51 (.nilc (.t 20)),
  A1 52 (.fadr 2 (.t 51)),
  A0 (.store 1 (.t 52) (.t 50))])
 (.reg [A1 53 (.mv (.t 3)),
  A1 54 (.fadr 2 (.t 5)),
  A1 55 (.load false 1 (.t 54)),
  ⟨(some 56), .call 287 [(.t 53), (.t 55), (.c (.int .i64 16))], none⟩]))))))))
 (.reg [A1 57 (.ari .add (.t 11) (.c (.int .i64 1))),
  A1 11 (.mv (.t 57))])))))))))))
 ((.seq (.block 2 ((.seq (.reg [A1 59 (.mv (.t 3)),
  A1 60 (.nilc (.t 59)),
  A1 61 (.fadr 1 (.t 60)),
  A1 62 (.load false 1 (.t 61)),
  A1 58 (.mv (.t 62))])
 (.cond (.t 58) ((.seq (.reg [A1 63 (.mkif 74 (.c (.int .i64 13))),
  A1 2 (.mv (.t 63))])
 (.ret))) ((.seq (.reg [A1 65 (.mv (.t 3)),
  A1 66 (.nilc (.t 65)),
  A1 67 (.fadr 0 (.t 66)),
  A1 68 (.load false 1 (.t 67)),
  A1 69 (.ari .gtr (.t 68) (.c (.int .i64 6000))),
  A1 70 (.mv (.t 69)),
  A2 71 70 false (.mv (.t 0)),
  A2 72 70 false (.len 0 (.t 71)),
  A2 73 70 false (.ari .gtr (.t 72) (.c (.int .i64 64))),
  A1 74 (.pick (.t 70) (.c (.bool true)) (.t 73)),
  A1 64 (.mv (.t 74))])
 (.cond (.t 64) ((.seq (.reg [A1 75 (.mkif 74 (.c (.int .i64 5))),
  A1 2 (.mv (.t 75))])
 (.ret))) ((.seq (.reg [A1 77 (.mv (.t 3)),
  A1 78 (.nilc (.t 77)),
  A1 79 (.fadr 2 (.t 78)),
  A1 80 (.load false 1 (.t 79)),
  A1 81 (.mv (.t 80)),
  A2 82 81 false (.mv (.t 0)),
  A2 83 81 false (.len 0 (.t 82)),
  A2 84 81 false (.ari .eql (.t 83) (.c (.int .i64 0))),
  A1 85 (.pick (.t 81) (.c (.bool true)) (.t 84)),
  A1 76 (.mv (.t 85))])
 (.cond (.t 76) ((.seq (.reg [A1 86 (.mkif 74 (.c (.int .i64 3))),
  A1 2 (.mv (.t 86))])
 (.ret))) (.skip)))))))))))
 ((.seq (.reg [A1 2 (.mv (.c .nili))])
 (.ret))))))))))
def f179 : LF := ⟨c179, 1, 0, 87, [.tmp 2]⟩

/-- (*moot/ir.checker).block -/
def c287 : LC := (.seq ((.seq (.reg [A1 12 (.mv (.t 2)),
  A1 13 (.ari .eql (.t 12) (.c (.int .i64 0))),
  A1 14 (.mv (.t 13)),
  A2 15 14 true (.mv (.t 1)),
  A2 16 14 true (.len 0 (.t 15)),
  A2 17 14 true (.ari .gtr (.t 16) (.c (.int .i64 0))),
  A1 18 (.pick (.t 14) (.t 17) (.c (.bool false)))])
 (.cond (.t 18) ((.seq (.reg [A1 19 (.mv (.t 0)),
  A1 20 (.nilc (.t 19)),
  A1 21 (.fadr 1 (.t 20)),
  A0 (.store 1 (.t 21) (.c (.bool true)))])
 (.ret))) (.skip))))
 ((.seq (.reg [A1 22 (.mv (.t 1)),
  A1 23 (.len 0 (.t 22)),
  A1 24 (.mv (.c (.int .i64 0)))])
 (.block 0 (.loop ((.seq (.reg [A1 25 (.ari .lss (.t 24) (.t 23))])
 ((.seq (.cond (.t 25) (.skip) (.exit 0))
 ((.seq (.block 1 ((.seq (.reg [A1 26 (.isl 10 (.t 22) (.t 24)),
  A1 27 (.load true 10 (.t 26)),
  A1 7 (.alloc (.st (.cons (.int .i64) (.cons (.int .i64) (.cons (.st (.cons (.int .i64) (.cons (.int .u64) (.cons .slice .nil)))) (.cons (.st (.cons (.int .i64) (.cons (.int .u64) (.cons .slice .nil)))) (.cons .slice (.cons .slice .nil)))))))),
  A0 (.store 10 (.t 7) (.t 27))])
 ((.seq (.reg [A1 28 (.mv (.t 0)),
  A1 29 (.nilc (.t 28)),
  A1 30 (.fadr 0 (.t 29)),
  A1 31 (.load false 1 (.t 30)),
  A1 32 (.ari .add (.t 31) (.c (.int .i64 1))),
  A1 33 (.nilc (.t 28)),
  A1 34 (.fadr 0 (.t 33)),
  A0 (.store 1 (.t 34) (.t 32))])
 ((.seq (.reg [A1 36 (.fadr 0 (.t 7)),
  A1 37 (.load false 1 (.t 36)),
  ⟨(some 38), .call 367 [(.t 37)], none⟩,
  A1 35 (.mv (.t 38)),
  A1 39 (.ext (.t 35) 0),
  A1 40 (.ext (.t 35) 1),
  A1 41 (.ext (.t 35) 2),
  A1 42 (.ext (.t 35) 3),
  A1 8 (.mv (.t 39)),
  A1 9 (.mv (.t 40)),
  A1 10 (.mv (.t 41)),
  A1 11 (.mv (.t 42))])
 ((.seq (.regd [⟨0, 0, A1 43 (.mv (.t 0))⟩,
  ⟨1, 0, A1 44 (.mv (.t 0))⟩,
  ⟨2, 2, A1 45 (.nilc (.t 44))⟩,
  ⟨3, 6, A1 46 (.fadr 2 (.t 45))⟩,
  ⟨4, 14, A1 47 (.load false 1 (.t 46))⟩,
  ⟨5, 30, A1 48 (.mv (.t 47))⟩,
  ⟨6, 62, A2 49 48 false (.mv (.t 8))⟩,
  ⟨7, 126, A2 50 48 false (.un .not (.t 49))⟩,
  ⟨8, 254, A1 51 (.pick (.t 48) (.c (.bool true)) (.t 50))⟩,
  ⟨9, 510, A1 52 (.mv (.t 51))⟩,
  ⟨10, 1022, A2 53 52 false (.fadr 0 (.t 7))⟩,
  ⟨11, 2046, A2 54 52 false (.load false 1 (.t 53))⟩,
  ⟨12, 4094, A2 55 52 false (.ari .eql (.t 54) (.c (.int .i64 1)))⟩,
  ⟨13, 8190, A2 56 52 false (.mv (.t 55))⟩,
  ⟨14, 16382, A2 57 56 true (.fadr 1 (.t 7))⟩,
  ⟨15, 32766, A2 58 56 true (.load false 1 (.t 57))⟩,
  ⟨16, 65534, A2 59 56 true (.ari .lss (.t 58) (.c (.int .i64 0)))⟩,
  ⟨17, 131070, A2 60 56 true (.mv (.t 59))⟩,
  ⟨18, 262142, A2 61 60 false (.fadr 1 (.t 7))⟩,
  ⟨19, 524286, A2 62 60 false (.load false 1 (.t 61))⟩,
  ⟨20, 262142, A2 63 60 false (.mv (.t 0))⟩,
  ⟨21, 1310718, A2 64 60 false (.nilc (.t 63))⟩,
  ⟨22, 3407870, A2 65 60 false (.fadr 3 (.t 64))⟩,
  ⟨23, 7602174, A2 66 60 false (.load false 1 (.t 65))⟩,
  ⟨24, 262142, A2 67 60 false (.mv (.t 0))⟩,
  ⟨25, 17039358, A2 68 60 false (.nilc (.t 67))⟩,
  ⟨26, 50593790, A2 69 60 false (.fadr 4 (.t 68))⟩,
  ⟨27, 117702654, A2 70 60 false (.load false 1 (.t 69))⟩,
  ⟨28, 267649022, A2 71 60 false (.isl 3 (.t 66) (.t 70))⟩,
  ⟨29, 536084478, A2 72 60 false (.fadr 1 (.t 71))⟩,
  ⟨30, 1072955390, A2 73 60 false (.load false 1 (.t 72))⟩,
  ⟨31, 2147483646, A2 74 60 false (.ari .geq (.t 62) (.t 73))⟩,
  ⟨32, 4294967294, A2 75 56 true (.pick (.t 60) (.c (.bool true)) (.t 74))⟩,
  ⟨33, 8589934590, A2 76 52 false (.pick (.t 56) (.t 75) (.c (.bool false)))⟩,
  ⟨34, 17179869182, A1 77 (.pick (.t 52) (.c (.bool true)) (.t 76))⟩,
  ⟨35, 34359738367, A1 78 (.nilc (.t 43))⟩,
  ⟨36, 68719476735, A1 79 (.fadr 2 (.t 78))⟩,
  ⟨37, 137438953471, A0 (.store 1 (.t 79) (.t 77))⟩])
 ((.seq ((.seq (.reg [A1 80 (.mv (.t 8))])
 (.cond (.t 80) (.reg [A1 81 (.mv (.t 0)),
  A1 82 (.fadr 2 (.t 7)),
  A1 83 (.load true 3 (.t 82)),
  ⟨(some 84), .call 368 [(.t 81), (.t 83), (.c (.int .i64 8))], none⟩]) (.skip))))
 ((.seq ((.seq (.reg [A1 85 (.mv (.t 9))])
 (.cond (.t 85) (.reg [A1 86 (.mv (.t 0)),
  A1 87 (.fadr 5 (.t 7)),
  A1 88 (.load true 3 (.t 87)),
  ⟨(some 89), .call 368 [(.t 86), (.t 88), (.c (.int .i64 8))], none⟩]) (.skip))))
 ((.seq ((.seq (.reg [A1 90 (.mv (.t 10))])
 (.cond (.t 90) (.reg [A1 91 (.mv (.t 0)),
  A1 92 (.fadr 8 (.t 7)),
  A1 93 (.load false 1 (.t 92)),
  A1 94 (.mv (.t 2)),
  A1 95 (.ari .sub (.t 94) (.c (.int .i64 1))),
  ⟨(some 96), .call 287 [(.t 91), (.t 93), (.t 95)], none⟩]) (.skip))))
 ((.seq (.reg [A1 97 (.mv (.t 11))])
 (.cond (.t 97) (.reg [A1 98 (.mv (.t 0)),
  A1 99 (.fadr 9 (.t 7)),
  A1 100 (.load false 1 (.t 99)),
  A1 101 (.mv (.t 2)),
  A1 102 (.ari .sub (.t 101) (.c (.int .i64 1))),
  ⟨(some 103), .call 287 [(.t 98), (.t 100), (.t 102)], none⟩]) (.skip)))))))))))))))))))
 (.reg [A1 104 (.ari .add (.t 24) (.c (.int .i64 1))),
  A1 24 (.mv (.t 104))]))))))))))))
def f287 : LF := ⟨c287, 3, 0, 105, []⟩

/-- moot/ir.looked -/
def c367 : LC := (.seq (.reg [A1 2 (.mv (.c (.bool false))),
  A1 3 (.mv (.c (.bool false))),
  A1 4 (.mv (.c (.bool false))),
  A1 5 (.mv (.c (.bool false)))])
 ((.seq ((.seq (.reg [A1 6 (.mv (.t 0))])
 (.block 0 ((.seq ((.seq (.reg [A1 8 (.ari .eql (.t 6) (.c (.int .i64 1))),
  A1 7 (.mv (.t 8))])
 (.cond (.t 7) (.skip) ((.seq (.reg [A1 9 (.ari .eql (.t 6) (.c (.int .i64 5))),
  A1 7 (.mv (.t 9))])
 (.cond (.t 7) (.skip) ((.seq (.reg [A1 10 (.ari .eql (.t 6) (.c (.int .i64 6))),
  A1 7 (.mv (.t 10))])
 (.cond (.t 7) (.skip) (.reg [A1 11 (.ari .eql (.t 6) (.c (.int .i64 7))),
  A1 7 (.mv (.t 11))]))))))))))
 (.cond (.t 7) ((.seq (.reg [A1 2 (.mv (.c (.bool true))),
  A1 3 (.mv (.c (.bool false))),
  A1 4 (.mv (.c (.bool false))),
  A1 5 (.mv (.c (.bool false)))])
 (.ret))) ((.seq (.reg [A1 13 (.ari .eql (.t 6) (.c (.int .i64 2))),
  A1 12 (.mv (.t 13))])
 (.cond (.t 12) ((.seq (.reg [A1 2 (.mv (.c (.bool true))),
  A1 3 (.mv (.c (.bool true))),
  A1 4 (.mv (.c (.bool false))),
  A1 5 (.mv (.c (.bool false)))])
 (.ret))) ((.seq (.reg [A1 15 (.ari .eql (.t 6) (.c (.int .i64 3))),
  A1 14 (.mv (.t 15))])
 (.cond (.t 14) ((.seq (.reg [A1 2 (.mv (.c (.bool true))),
  A1 3 (.mv (.c (.bool false))),
  A1 4 (.mv (.c (.bool true))),
  A1 5 (.mv (.c (.bool true)))])
 (.ret))) ((.seq (.reg [A1 17 (.ari .eql (.t 6) (.c (.int .i64 4))),
  A1 16 (.mv (.t 17))])
 (.cond (.t 16) ((.seq (.reg [A1 2 (.mv (.c (.bool true))),
  A1 3 (.mv (.c (.bool false))),
  A1 4 (.mv (.c (.bool true))),
  A1 5 (.mv (.c (.bool false)))])
 (.ret))) (.skip))))))))))))))))
 ((.seq (.reg [A1 2 (.mv (.c (.bool false))),
  A1 3 (.mv (.c (.bool false))),
  A1 4 (.mv (.c (.bool false))),
  A1 5 (.mv (.c (.bool false)))])
 (.ret))))))
def f367 : LF := ⟨c367, 1, 0, 18, [.tmp 2, .tmp 3, .tmp 4, .tmp 5]⟩

/-- (*moot/ir.checker).expr -/
def c368 : LC := (.seq (.reg [A1 4 (.box (.t 1))])
 ((.seq (.reg [A1 8 (.mv (.t 0)),
  A1 9 (.nilc (.t 8)),
  A1 10 (.fadr 0 (.t 9)),
  A1 11 (.load false 1 (.t 10)),
  A1 12 (.ari .add (.t 11) (.c (.int .i64 1))),
  A1 13 (.nilc (.t 8)),
  A1 14 (.fadr 0 (.t 13)),
  A0 (.store 1 (.t 14) (.t 12))])
 ((.seq ((.seq (.reg [A1 15 (.mv (.t 2)),
  A1 16 (.ari .eql (.t 15) (.c (.int .i64 0)))])
 (.cond (.t 16) ((.seq (.reg [A1 17 (.mv (.t 0)),
  A1 18 (.nilc (.t 17)),
  A1 19 (.fadr 1 (.t 18)),
  A0 (.store 1 (.t 19) (.c (.bool true)))])
 (.ret))) (.skip))))
 ((.seq (.reg [A1 20 (.mv (.t 0)),
  A1 21 (.load true 3 (.t 4)),
  ⟨(some 22), .call 458 [(.t 20), (.t 21)], none⟩])
 ((.seq (.reg [A1 23 (.fadr 2 (.t 4)),
  A1 24 (.load false 1 (.t 23)),
  A1 25 (.len 0 (.t 24)),
  A1 26 (.mv (.c (.int .i64 0)))])
 (.block 0 (.loop ((.seq (.reg [A1 27 (.ari .lss (.t 26) (.t 25))])
 ((.seq (.cond (.t 27) (.skip) (.exit 0))
 ((.seq (.block 1 ((.seq (.reg [A1 28 (.isl 3 (.t 24) (.t 26)),
  A1 29 (.load true 3 (.t 28)),
  A1 7 (.alloc (.st (.cons (.int .i64) (.cons (.int .u64) (.cons .slice .nil))))),
  A0 (.store 3 (.t 7) (.t 29))])
 (.reg [A1 30 (.mv (.t 0)),
  A1 31 (.load true 3 (.t 7)),
  A1 32 (.mv (.t 2)),
  A1 33 (.ari .sub (.t 32) (.c (.int .i64 1))),
  ⟨(some 34), .call 368 [(.t 30), (.t 31), (.t 33)], none⟩]))))
 (.reg [A1 35 (.ari .add (.t 26) (.c (.int .i64 1))),
  A1 26 (.mv (.t 35))]))))))))))))))))))
def f368 : LF := ⟨c368, 3, 0, 36, []⟩

/-- (*moot/ir.checker).needs -/
def c458 : LC := (.seq (.reg [A1 3 (.box (.t 1))])
 ((.seq (.reg [A1 7 (.fadr 0 (.t 3)),
  A1 8 (.load false 1 (.t 7)),
  ⟨(some 9), .call 492 [(.t 8)], none⟩,
  A1 6 (.mv (.t 9)),
  A1 10 (.ext (.t 6) 0),
  A1 11 (.ext (.t 6) 1),
  A1 4 (.mv (.t 10)),
  A1 5 (.mv (.t 11))])
 ((.seq ((.seq (.reg [A1 12 (.fadr 0 (.t 3)),
  A1 13 (.load false 1 (.t 12))])
 (.block 0 ((.seq (.reg [A1 15 (.ari .eql (.t 13) (.c (.int .i64 26))),
  A1 14 (.mv (.t 15))])
 (.cond (.t 14) (.reg [A1 4 (.mv (.c (.int .i64 0))),
  A1 5 (.mv (.c .nili))]) ((.seq (.reg [A1 17 (.ari .eql (.t 13) (.c (.int .i64 27))),
  A1 16 (.mv (.t 17))])
 (.cond (.t 16) ((.seq (.reg [A1 4 (.mv (.c (.int .i64 0))),
  A1 5 (.mv (.c .nili))])
 (.regd [⟨0, 0, A1 18 (.mv (.t 0))⟩,
  ⟨1, 0, A1 19 (.mv (.t 0))⟩,
  ⟨2, 2, A1 20 (.nilc (.t 19))⟩,
  ⟨3, 6, A1 21 (.fadr 2 (.t 20))⟩,
  ⟨4, 14, A1 22 (.load false 1 (.t 21))⟩,
  ⟨5, 30, A1 23 (.mv (.t 22))⟩,
  ⟨6, 62, A2 24 23 false (.fadr 1 (.t 3))⟩,
  ⟨7, 126, A2 25 23 false (.load false 1 (.t 24))⟩,
  ⟨8, 62, A2 26 23 false (.mv (.t 0))⟩,
  ⟨9, 318, A2 27 23 false (.nilc (.t 26))⟩,
  ⟨10, 830, A2 28 23 false (.fadr 3 (.t 27))⟩,
  ⟨11, 1854, A2 29 23 false (.load false 1 (.t 28))⟩,
  ⟨12, 62, A2 30 23 false (.mv (.t 0))⟩,
  ⟨13, 4158, A2 31 23 false (.nilc (.t 30))⟩,
  ⟨14, 12350, A2 32 23 false (.fadr 4 (.t 31))⟩,
  ⟨15, 28734, A2 33 23 false (.load false 1 (.t 32))⟩,
  ⟨16, 65342, A2 34 23 false (.isl 3 (.t 29) (.t 33))⟩,
  ⟨17, 130878, A2 35 23 false (.fadr 1 (.t 34))⟩,
  ⟨18, 261950, A2 36 23 false (.load false 1 (.t 35))⟩,
  ⟨19, 524094, A2 37 23 false (.mm true (.c (.int .i64 0)) (.t 36))⟩,
  ⟨20, 1048382, A2 38 23 false (.conv .u64 (.t 37))⟩,
  ⟨21, 2097150, A2 39 23 false (.ari .geq (.t 25) (.t 38))⟩,
  ⟨22, 4194302, A1 40 (.pick (.t 23) (.c (.bool true)) (.t 39))⟩,
  ⟨23, 8388607, A1 41 (.nilc (.t 18))⟩,
  ⟨24, 16777215, A1 42 (.fadr 2 (.t 41))⟩,
  ⟨25, 33554431, A0 (.store 1 (.t 42) (.t 40))⟩]))) ((.seq (.reg [A1 44 (.ari .eql (.t 13) (.c (.int .i64 28))),
  A1 43 (.mv (.t 44))])
 (.cond (.t 43) (.reg [A1 4 (.mv (.c (.int .i64 1))),
  A1 5 (.mv (.c .nili))]) ((.seq ((.seq (.reg [A1 46 (.ari .eql (.t 13) (.c (.int .i64 30))),
  A1 45 (.mv (.t 46))])
 (.cond (.t 45) (.skip) (.reg [A1 47 (.ari .eql (.t 13) (.c (.int .i64 31))),
  A1 45 (.mv (.t 47))]))))
 (.cond (.t 45) (.reg [A1 4 (.mv (.c (.int .i64 2))),
  A1 5 (.mv (.c .nili))]) ((.seq (.reg [A1 49 (.ari .eql (.t 13) (.c (.int .i64 29))),
  A1 48 (.mv (.t 49))])
 (.cond (.t 48) ((.seq ((.seq (.regd [⟨0, 0, A1 50 (.fadr 1 (.t 3))⟩,
  ⟨1, 1, A1 51 (.load false 1 (.t 50))⟩,
  ⟨2, 0, A1 52 (.mv (.t 0))⟩,
  ⟨3, 4, A1 53 (.nilc (.t 52))⟩,
  ⟨4, 12, A1 54 (.fadr 4 (.t 53))⟩,
  ⟨5, 28, A1 55 (.load false 1 (.t 54))⟩,
  ⟨6, 60, A1 56 (.conv .u64 (.t 55))⟩,
  ⟨7, 127, A1 57 (.ari .leq (.t 51) (.t 56))⟩,
  ⟨8, 255, A1 58 (.mv (.t 57))⟩,
  ⟨9, 511, A2 59 58 false (.fadr 1 (.t 3))⟩,
  ⟨10, 1023, A2 60 58 false (.load false 1 (.t 59))⟩,
  ⟨11, 511, A2 61 58 false (.mv (.t 0))⟩,
  ⟨12, 2559, A2 62 58 false (.nilc (.t 61))⟩,
  ⟨13, 6655, A2 63 58 false (.fadr 3 (.t 62))⟩,
  ⟨14, 14847, A2 64 58 false (.load false 1 (.t 63))⟩,
  ⟨15, 31231, A2 65 58 false (.len 0 (.t 64))⟩,
  ⟨16, 63999, A2 66 58 false (.conv .u64 (.t 65))⟩,
  ⟨17, 131071, A2 67 58 false (.ari .geq (.t 60) (.t 66))⟩,
  ⟨18, 262143, A1 68 (.pick (.t 58) (.c (.bool true)) (.t 67))⟩])
 (.cond (.t 68) ((.seq (.reg [A1 69 (.mv (.t 0)),
  A1 70 (.nilc (.t 69)),
  A1 71 (.fadr 2 (.t 70)),
  A0 (.store 1 (.t 71) (.c (.bool true)))])
 (.ret))) (.skip))))
 (.regd [⟨0, 0, A1 72 (.mv (.t 0))⟩,
  ⟨1, 1, A1 73 (.nilc (.t 72))⟩,
  ⟨2, 3, A1 74 (.fadr 3 (.t 73))⟩,
  ⟨3, 7, A1 75 (.load false 1 (.t 74))⟩,
  ⟨4, 0, A1 76 (.fadr 1 (.t 3))⟩,
  ⟨5, 16, A1 77 (.load false 1 (.t 76))⟩,
  ⟨6, 63, A1 78 (.isl 3 (.t 75) (.t 77))⟩,
  ⟨7, 127, A1 79 (.fadr 0 (.t 78))⟩,
  ⟨8, 255, A1 80 (.load false 1 (.t 79))⟩,
  ⟨9, 511, A1 4 (.mv (.t 80))⟩,
  ⟨10, 1023, A1 5 (.mv (.c .nili))⟩]))) (.skip)))))))))))))))))))
 (.reg [A1 81 (.mv (.t 0)),
  A1 82 (.mv (.t 0)),
  A1 83 (.nilc (.t 82)),
  A1 84 (.fadr 2 (.t 83)),
  A1 85 (.load false 1 (.t 84)),
  A1 86 (.mv (.t 85)),
  A2 87 86 false (.mv (.t 5)),
  A2 88 86 false (.eq true true (.iface [74]) (.t 87) (.c .nili)),
  A1 89 (.pick (.t 86) (.c (.bool true)) (.t 88)),
  A1 90 (.mv (.t 89)),
  A2 91 90 false (.mv (.t 4)),
  A2 92 90 false (.fadr 2 (.t 3)),
  A2 93 90 false (.load false 1 (.t 92)),
  A2 94 90 false (.len 0 (.t 93)),
  A2 95 90 false (.ari .neq (.t 91) (.t 94)),
  A1 96 (.pick (.t 90) (.c (.bool true)) (.t 95)),
  A1 97 (.nilc (.t 81)),
  A1 98 (.fadr 2 (.t 97)),
  A0 (.store 1 (.t 98) (.t 96))]))))))
def f458 : LF := ⟨c458, 2, 0, 99, []⟩

/-- moot/word.Args -/
def c492 : LC := (.seq (.reg [A1 2 (.mv (.c (.int .i64 0))),
  A1 3 (.mv (.c .nili))])
 ((.seq (.block 0 ((.seq (.reg [A1 5 (.mv (.t 0)),
  A1 6 (.ari .lss (.t 5) (.c (.int .i64 1))),
  A1 7 (.mv (.t 6)),
  A2 8 7 false (.mv (.t 0)),
  A2 9 7 false (.ari .gtr (.t 8) (.c (.int .i64 25))),
  A1 10 (.pick (.t 7) (.c (.bool true)) (.t 9)),
  A1 4 (.mv (.t 10))])
 (.cond (.t 4) ((.seq (.reg [A1 11 (.mkif 74 (.c (.int .i64 10))),
  A1 2 (.mv (.c (.int .i64 0))),
  A1 3 (.mv (.t 11))])
 (.ret))) ((.seq (.reg [A1 13 (.mv (.t 0)),
  A1 14 (.ari .eql (.t 13) (.c (.int .i64 8))),
  A1 15 (.mv (.t 14)),
  A2 16 15 false (.mv (.t 0)),
  A2 17 15 false (.ari .eql (.t 16) (.c (.int .i64 9))),
  A1 18 (.pick (.t 15) (.c (.bool true)) (.t 17)),
  A1 12 (.mv (.t 18))])
 (.cond (.t 12) ((.seq (.reg [A1 2 (.mv (.c (.int .i64 3))),
  A1 3 (.mv (.c .nili))])
 (.ret))) ((.seq (.reg [A1 20 (.mv (.t 0)),
  A1 21 (.ari .eql (.t 20) (.c (.int .i64 21))),
  A1 22 (.mv (.t 21)),
  A2 23 22 false (.mv (.t 0)),
  A2 24 22 false (.ari .eql (.t 23) (.c (.int .i64 25))),
  A1 25 (.pick (.t 22) (.c (.bool true)) (.t 24)),
  A1 19 (.mv (.t 25))])
 (.cond (.t 19) ((.seq (.reg [A1 2 (.mv (.c (.int .i64 1))),
  A1 3 (.mv (.c .nili))])
 (.ret))) (.skip)))))))))))
 ((.seq (.reg [A1 2 (.mv (.c (.int .i64 2))),
  A1 3 (.mv (.c .nili))])
 (.ret))))))
def f492 : LF := ⟨c492, 1, 0, 26, [.tmp 2, .tmp 3]⟩

end Mv
namespace Mv
open Go
set_option maxRecDepth 20000
set_option maxHeartbeats 4000000
set_option linter.unusedSimpArgs false

structure OkCk (M : Seat) : Prop where
  k179 : chkF M 179 f179 = true
  k287 : chkF M 287 f287 = true
  k367 : chkF M 367 f367 = true
  k368 : chkF M 368 f368 = true
  k458 : chkF M 458 f458 = true
  k492 : chkF M 492 f492 = true

def arN (op : Int) : Nat := if op = 8 ∨ op = 9 then 3 else if op = 21 ∨ op = 25 then 1 else 2
theorem runs_Args {M : Seat} (ok : OkCk M) (op : Int) (h : 1 ≤ op ∧ op ≤ 25) : Runs M 492 [.int .i64 op] [] 0 (fun r H' k' => r = tup2 (.int .i64 (arN op)) .nili ∧ H' = [] ∧ k' = 0) := by
  refine runs_fr ok.k492 rfl fun x hx => ?_
  have e1 : (op < 1) = False := eq_false (by omega)
  have e2 : (25 < op) = False := eq_false (by omega)
  by_cases h8 : op = 8
  · subst h8
    refine ex_sound 2000 _ _ _ _ ?_; (simp (maxSteps := 4000000) only [f492, c492, LZ, seval, reduceCtorEq, forall_const])
    exact RetS.mkZ hx [] ⟨rfl, rfl, rfl⟩
  by_cases h9 : op = 9
  · subst h9
    refine ex_sound 2000 _ _ _ _ ?_; (simp (maxSteps := 4000000) only [f492, c492, LZ, seval, reduceCtorEq, forall_const])
    exact RetS.mkZ hx [] ⟨rfl, rfl, rfl⟩
  by_cases h21 : op = 21
  · subst h21
    refine ex_sound 2000 _ _ _ _ ?_; (simp (maxSteps := 4000000) only [f492, c492, LZ, seval, reduceCtorEq, forall_const])
    exact RetS.mkZ hx [] ⟨rfl, rfl, rfl⟩
  by_cases h25 : op = 25
  · subst h25
    refine ex_sound 2000 _ _ _ _ ?_; (simp (maxSteps := 4000000) only [f492, c492, LZ, seval, reduceCtorEq, forall_const])
    exact RetS.mkZ hx [] ⟨rfl, rfl, rfl⟩
  have ea : arN op = 2 := by rw [arN, if_neg (by omega), if_neg (by omega)]
  rw [ea]
  refine ex_sound 2000 _ _ _ _ ?_; (simp (maxSteps := 4000000) only [f492, c492, e1, e2, eq_false h8, eq_false h9, eq_false h21, eq_false h25, LZ, seval, reduceCtorEq, forall_const])
  exact RetS.mkZ hx [] ⟨rfl, rfl, rfl⟩
theorem runs_ArgsNo {M : Seat} (ok : OkCk M) (op : Int) (h : ¬ (1 ≤ op ∧ op ≤ 25)) : Runs M 492 [.int .i64 op] [] 0 (fun r H' k' => r = tup2 (.int .i64 0) (.ifc 74 (.int .i64 10)) ∧ H' = [] ∧ k' = 0) := by
  refine runs_fr ok.k492 rfl fun x hx => ?_
  by_cases h1 : op < 1
  · refine ex_sound 2000 _ _ _ _ ?_; (simp (maxSteps := 4000000) only [f492, c492, eq_true h1, LZ, seval, reduceCtorEq, forall_const])
    exact RetS.mkZ hx [] ⟨rfl, rfl, rfl⟩
  · refine ex_sound 2000 _ _ _ _ ?_; (simp (maxSteps := 4000000) only [f492, c492, eq_false h1, eq_true (show (25 : Int) < op by omega), LZ, seval, reduceCtorEq, forall_const])
    exact RetS.mkZ hx [] ⟨rfl, rfl, rfl⟩

/-- The checker at a function, all right so far. -/
def ckV (P : List Fu) (sz i : Nat) : V := .st 5 (.fcons 0 (.int .i64 sz) (.fcons 1 (.bool false) (.fcons 2 (.bool false) (.fcons 3 (fuL P) (.fcons 4 (.int .i64 i) .fnil)))))
def locI (P : List Fu) (i : Nat) : Int := match P[i]? with | some f => f.locals | none => 0
def parI (P : List Fu) (i : Nat) : Int := match P[i]? with | some f => f.params | none => 0

/-- Has it what it needs? -/
inductive Nd (P : List Fu) (i : Nat) : Ex → Prop
  | ar (op n as) (h1 : 1 ≤ op) (h2 : op ≤ 25) (h : as.length = arN op) : Nd P i (.mk op n as)
  | con (n) : Nd P i (.mk 26 n [])
  | loc (n) (h : (n.toNat : Int) < locI P i) (h2 : locI P i < 1000) : Nd P i (.mk 27 n [])
  | load (n a) : Nd P i (.mk 28 n [a])
  | call (n as) (h1 : i < n.toNat) (h2 : n.toNat < P.length) (h : (as.length : Int) = parI P n.toNat) : Nd P i (.mk 29 n as)
  | hash (n a b) : Nd P i (.mk 30 n [a, b])
  | pre (n a b) : Nd P i (.mk 31 n [a, b])

theorem loc_get {P : List Fu} {i : Nat} (h : i < P.length) : fuF P i = .st 3 (.fcons 0 (.int .i64 (parI P i)) (.fcons 1 (.int .i64 (locI P i)) (.fcons 2 (stL (P[i]).body) .fnil))) := by
  rw [fuF_get P i h, fuV, parI, locI, List.getElem?_eq_getElem h]

theorem runs_needs {M : Seat} (ok : OkCk M) (P : List Fu) (sz i : Nat) (hi : i < P.length) (hP : P.length < 1000) (y : Ex) (h : Nd P i y) :
    Runs M 458 [.ptr 0 [], exV y] [(0, ckV P sz i)] 1 (fun r H' k' => r = .tup .fnil ∧ H' = [(0, ckV P sz i)] ∧ k' = 1) := by
  refine runs_fr ok.k458 rfl fun x hx => ?_
  have hne : P ≠ [] := by rintro rfl; exact absurd hi (by simp)
  have hf := loc_get hi
  have hsl : ∀ H m z, Sim H m z (.lst 3 P.length (fuF P)) (.lst 3 P.length (fuF P)) := fun H m z => by rw [← fuL_lst P hne]; exact Sim_fuL H m z P
  have hrl : ∀ a, (V.lst 3 P.length (fuF P)).ren a = .lst 3 P.length (fuF P) := fun a => by rw [← fuL_lst P hne]; exact ren_fuL a P
  simp only [ckV]
  rw [fuL_lst P hne]
  cases h with
  | ar op n as h1 h2 h =>
    have hA := runs_Args ok op ⟨h1, h2⟩
    have ee : ((arN op : Int) = (as.length : Int)) = True := eq_true (by rw [h])
    refine ex_sound 2000 _ _ _ _ ?_; (simp (maxSteps := 4000000) only [f458, c458, exV, sol_exL, siz_exL, agg_exL, LZ, seval, reduceCtorEq, forall_const])
    refine call_pZ (hA) ?_
    (simp (maxSteps := 4000000) only [tup2, eq_false (show ¬ op = 26 by omega), eq_false (show ¬ op = 27 by omega), eq_false (show ¬ op = 28 by omega), eq_false (show ¬ op = 29 by omega), eq_false (show ¬ op = 30 by omega), eq_false (show ¬ op = 31 by omega), len_exL, sol_exL, siz_exL, agg_exL, ee, LZ, seval, reduceCtorEq, forall_const])
    refine RetS.mk hx [0] [] _ _ _ (by decide) (by (simp only [LV, hsl, LZ, seval, reduceCtorEq, forall_const])) (by ((try simp only [LV, hsl, LZ, seval, reduceCtorEq, forall_const, LY, seval, reduceCtorEq, implies_true]); first | done | exact True.intro | (intros; rfl))) (by ((try simp only [hsl, LY, seval, reduceCtorEq, implies_true]); first | done | exact True.intro | (intros; rfl))) ⟨rfl, rfl, rfl⟩
  | con n =>
    have hA := runs_ArgsNo ok 26 (by omega)
    refine ex_sound 2000 _ _ _ _ ?_; (simp (maxSteps := 4000000) only [f458, c458, exV, exL, LZ, seval, reduceCtorEq, forall_const])
    refine call_pZ (hA) ?_
    (simp (maxSteps := 4000000) only [tup2, LZ, seval, reduceCtorEq, forall_const])
    refine RetS.mk hx [0] [] _ _ _ (by decide) (by (simp only [LV, hsl, LZ, seval, reduceCtorEq, forall_const])) (by ((try simp only [LV, hsl, LZ, seval, reduceCtorEq, forall_const, LY, seval, reduceCtorEq, implies_true]); first | done | exact True.intro | (intros; rfl))) (by ((try simp only [hsl, LY, seval, reduceCtorEq, implies_true]); first | done | exact True.intro | (intros; rfl))) ⟨rfl, rfl, rfl⟩
  | loc n h h2 =>
    have hA := runs_ArgsNo ok 27 (by omega)
    have e1 : max (0 : Int) (locI P i) = locI P i := by omega
    have e2 : (BitVec.ofInt 64 (locI P i) ≤ n) = False := eq_false (by
      rw [BitVec.le_def, BitVec.toNat_ofInt]; omega)
    refine ex_sound 2000 _ _ _ _ ?_; (simp (maxSteps := 4000000) only [f458, c458, exV, exL, LZ, seval, reduceCtorEq, forall_const])
    refine call_pZ (hA) ?_
    (simp (maxSteps := 4000000) only [tup2, hf, e1, e2, LZ, seval, reduceCtorEq, forall_const])
    repeat (refine And.intro (by first | omega | exact True.intro | rfl) ?_)
    refine RetS.mk hx [0] [] _ _ _ (by decide) (by (simp only [LV, hsl, LZ, seval, reduceCtorEq, forall_const])) (by ((try simp only [LV, hsl, LZ, seval, reduceCtorEq, forall_const, LY, seval, reduceCtorEq, implies_true]); first | done | exact True.intro | (intros; rfl))) (by ((try simp only [hsl, LY, seval, reduceCtorEq, implies_true]); first | done | exact True.intro | (intros; rfl))) ⟨rfl, rfl, rfl⟩
  | load n a =>
    have hA := runs_ArgsNo ok 28 (by omega)
    refine ex_sound 2000 _ _ _ _ ?_; (simp (maxSteps := 4000000) only [f458, c458, exV, exL, sol_exL, LZ, seval, reduceCtorEq, forall_const])
    refine call_pZ (hA) ?_
    (simp (maxSteps := 4000000) only [tup2, LZ, seval, reduceCtorEq, forall_const])
    refine RetS.mk hx [0] [] _ _ _ (by decide) (by (simp only [LV, hsl, LZ, seval, reduceCtorEq, forall_const])) (by ((try simp only [LV, hsl, LZ, seval, reduceCtorEq, forall_const, LY, seval, reduceCtorEq, implies_true]); first | done | exact True.intro | (intros; rfl))) (by ((try simp only [hsl, LY, seval, reduceCtorEq, implies_true]); first | done | exact True.intro | (intros; rfl))) ⟨rfl, rfl, rfl⟩
  | call n as h1 h2 h =>
    have hA := runs_ArgsNo ok 29 (by omega)
    have hf2 := loc_get h2
    have e1 : (n ≤ BitVec.ofInt 64 (i : Nat)) = False := eq_false (by
      rw [BitVec.le_def, BitVec.toNat_ofInt]; omega)
    have e2 : (BitVec.ofInt 64 (P.length : Nat) ≤ n) = False := eq_false (by
      rw [BitVec.le_def, BitVec.toNat_ofInt]; omega)
    have ee : (parI P n.toNat = (as.length : Int)) = True := eq_true (by rw [h])
    refine ex_sound 2000 _ _ _ _ ?_; (simp (maxSteps := 4000000) only [f458, c458, exV, sol_exL, siz_exL, agg_exL, LZ, seval, reduceCtorEq, forall_const])
    refine call_pZ (hA) ?_
    (simp (maxSteps := 4000000) only [tup2, hf2, e1, e2, len_exL, sol_exL, siz_exL, agg_exL, ee, LZ, seval, reduceCtorEq, forall_const])
    repeat (refine And.intro (by first | omega | exact True.intro | rfl) ?_)
    refine RetS.mk hx [0] [] _ _ _ (by decide) (by (simp only [LV, hsl, LZ, seval, reduceCtorEq, forall_const])) (by ((try simp only [LV, hsl, LZ, seval, reduceCtorEq, forall_const, LY, seval, reduceCtorEq, implies_true]); first | done | exact True.intro | (intros; rfl))) (by ((try simp only [hsl, LY, seval, reduceCtorEq, implies_true]); first | done | exact True.intro | (intros; rfl))) ⟨rfl, rfl, rfl⟩
  | hash n a b =>
    have hA := runs_ArgsNo ok 30 (by omega)
    refine ex_sound 2000 _ _ _ _ ?_; (simp (maxSteps := 4000000) only [f458, c458, exV, exL, LZ, seval, reduceCtorEq, forall_const])
    refine call_pZ (hA) ?_
    (simp (maxSteps := 4000000) only [tup2, LZ, seval, reduceCtorEq, forall_const])
    refine RetS.mk hx [0] [] _ _ _ (by decide) (by (simp only [LV, hsl, LZ, seval, reduceCtorEq, forall_const])) (by ((try simp only [LV, hsl, LZ, seval, reduceCtorEq, forall_const, LY, seval, reduceCtorEq, implies_true]); first | done | exact True.intro | (intros; rfl))) (by ((try simp only [hsl, LY, seval, reduceCtorEq, implies_true]); first | done | exact True.intro | (intros; rfl))) ⟨rfl, rfl, rfl⟩
  | pre n a b =>
    have hA := runs_ArgsNo ok 31 (by omega)
    refine ex_sound 2000 _ _ _ _ ?_; (simp (maxSteps := 4000000) only [f458, c458, exV, exL, LZ, seval, reduceCtorEq, forall_const])
    refine call_pZ (hA) ?_
    (simp (maxSteps := 4000000) only [tup2, LZ, seval, reduceCtorEq, forall_const])
    refine RetS.mk hx [0] [] _ _ _ (by decide) (by (simp only [LV, hsl, LZ, seval, reduceCtorEq, forall_const])) (by ((try simp only [LV, hsl, LZ, seval, reduceCtorEq, forall_const, LY, seval, reduceCtorEq, implies_true]); first | done | exact True.intro | (intros; rfl))) (by ((try simp only [hsl, LY, seval, reduceCtorEq, implies_true]); first | done | exact True.intro | (intros; rfl))) ⟨rfl, rfl, rfl⟩
end Mv
namespace Mv
open Go
set_option maxRecDepth 20000
set_option maxHeartbeats 4000000
set_option linter.unusedSimpArgs false

/-- Right expressions; how many parts they have. -/
inductive RE (P : List Fu) (i : Nat) : Nat → Ex → Nat → Prop
  | mk (l : Nat) (op : Int) (n : BitVec 64) (as : List Ex) (c : Nat → Nat) (h : Nd P i (.mk op n as)) (hl : as.length < 1000) (ha : ∀ j (hj : j < as.length), RE P i l as[j] (c j)) : RE P i (l + 1) (.mk op n as) (1 + ((List.range as.length).map c).sum)

theorem sum_succ (c : Nat → Nat) (n : Nat) : ((List.range (n + 1)).map c).sum = ((List.range n).map c).sum + c n := by
  rw [List.range_succ]; simp

theorem sum_mono (c : Nat → Nat) (a : Nat) : ∀ d : Nat, ((List.range a).map c).sum ≤ ((List.range (a + d)).map c).sum
  | 0 => Nat.le_refl _
  | d + 1 => by
    have h := sum_mono c a d
    have e := sum_succ c (a + d)
    rw [← Nat.add_assoc, e]
    omega

theorem runs_ckE {M : Seat} (ok : OkCk M) (P : List Fu) (i : Nat) (hi : i < P.length) (hP : P.length < 1000) : ∀ (l : Nat) (y : Ex) (c : Nat), RE P i l y c → l < 1000 → ∀ sz, sz + c < 4611686018427387904 →
    Runs M 368 [.ptr 0 [], exV y, .int .i64 l] [(0, ckV P sz i)] 1 (fun r H' k' => r = .tup .fnil ∧ H' = [(0, ckV P (sz + c) i)] ∧ k' = 1) := by
  intro l
  induction l with
  | zero => intro y c h; cases h
  | succ l ih =>
  intro y c h hl1 sz hsz
  cases h with
  | mk _ op n as c h hl ha =>
  have hN := runs_needs ok P (sz + 1) i hi hP _ h
  refine runs_fr ok.k368 rfl fun x hx => ?_
  have w0 : IntKind.i64.wrap ((sz : Int) + 1) = ((sz + 1 : Nat) : Int) := by rw [wrap_i64 (by omega)]; omega
  have w1 : IntKind.i64.wrap (((l + 1 : Nat) : Int) - 1) = (l : Int) := by rw [wrap_i64 (by omega)]; omega
  have e0 : (((l + 1 : Nat) : Int) = 0) = False := eq_false (by omega)
  have hx0 : exV (.mk op n as) = .st 3 (.fcons 0 (.int .i64 op) (.fcons 1 (W n) (.fcons 2 (exL as) .fnil))) := by simp only [exV]
  rw [hx0] at hN ⊢
  simp only [ckV] at hN ⊢
  refine ex_sound 2000 _ _ _ _ ?_; (simp (maxSteps := 4000000) only [f368, c368, w0, e0, sol_exL, siz_exL, agg_exL, LZ, seval, reduceCtorEq, forall_const])
  refine call_mN [0] [0] (hN) (by rfl) (by rfl) (by decide) (by rfl) (by rfl) (by ((try simp only [sfu, sexl, LY, seval, reduceCtorEq, implies_true]); first | done | exact True.intro | rfl)) (by ((try simp only [sfu, sexl, LY, seval, reduceCtorEq, implies_true]); first | done | exact True.intro | rfl)) ?_
  (simp (maxSteps := 4000000) only [ren_fuL, len_exL, sol_exL, siz_exL, agg_exL, LZ, seval, reduceCtorEq, forall_const])
  refine loop_rule (σ := Nat) (fun j => j ≤ as.length) (fun j => fr 36 [(0, .ptr 0 []), (2, .int .i64 (l + 1 : Nat)), (24, exL as), (25, .int .i64 as.length), (26, .int .i64 j)]) (fun j => [(0, ckV P (sz + 1 + ((List.range j).map c).sum) i)]) (fun _ => 1) (fun j => as.length - j) 0 (Nat.zero_le _) ?_ ?_
  · refine Weak.fr [0] [] hx (by simp only [fr_length]) (by decide) ?_ ?_
    · simp only [LY, seval, reduceCtorEq, implies_true, svex]
    · simp only [ckV, LY, seval, reduceCtorEq, implies_true, sfu, List.range_zero, List.map_nil, List.sum_nil, Nat.add_zero]
  intro j hj
  refine ex_sound 2000 _ _ _ _ ?_
  simp only [ckV]
  by_cases hin : j = as.length
  · have d0 : ((j : Int) < (as.length : Int)) = False := eq_false (by omega)
    rw [show sz + (1 + ((List.range as.length).map c).sum) = sz + 1 + ((List.range j).map c).sum by rw [hin]; omega]
    (simp (maxSteps := 4000000) only [d0, LZ, seval, reduceCtorEq, forall_const])
    refine RetS.mk hx [0] [] _ _ _ (by decide) (by (simp only [LV, sfu, LZ, seval, reduceCtorEq, forall_const])) (by ((try simp only [LV, sfu, LZ, seval, reduceCtorEq, forall_const, LY, seval, reduceCtorEq, implies_true]); first | done | exact True.intro | (intros; rfl))) (by ((try simp only [sfu, LY, seval, reduceCtorEq, implies_true]); first | done | exact True.intro | (intros; rfl))) ⟨rfl, rfl, rfl⟩
  · have d0 : ((j : Int) < (as.length : Int)) = True := eq_true (by omega)
    have hlt : j < as.length := by omega
    have hne : as ≠ [] := by rintro rfl; exact absurd hlt (by simp)
    have hy := exF_get as j hlt
    have hb : sz + 1 + ((List.range j).map c).sum + c j < 4611686018427387904 := by
      have : ((List.range (j + 1)).map c).sum ≤ ((List.range as.length).map c).sum := by
        have : as.length = j + 1 + (as.length - (j + 1)) := by omega
        rw [this]
        exact sum_mono c _ _
      rw [sum_succ] at this
      omega
    have hE := ih as[j] (c j) (ha j hlt) (by omega) _ hb
    have w2 : IntKind.i64.wrap ((j : Int) + 1) = ((j + 1 : Nat) : Int) := by rw [wrap_i64 (by omega)]; omega
    simp only [ckV] at hE
    generalize as[j] = y at *
    (simp (maxSteps := 4000000) only [d0, exL_lst as hne, hy, sol_exV, siz_exV, agg_exV, w1, LZ, seval, reduceCtorEq, forall_const])
    repeat (refine And.intro (by first | omega | exact True.intro | rfl) ?_)
    refine call_mN [0] [0] (hE) (by rfl) (by rfl) (by decide) (by rfl) (by rfl) (by ((try simp only [sfu, svx, LY, seval, reduceCtorEq, implies_true]); first | done | exact True.intro | rfl)) (by ((try simp only [sfu, svx, LY, seval, reduceCtorEq, implies_true]); first | done | exact True.intro | rfl)) ?_
    (simp (maxSteps := 4000000) only [ren_fuL, w2, LZ, seval, reduceCtorEq, forall_const])
    refine ⟨j + 1, by omega, by omega, ?_⟩
    rw [← exL_lst as hne, sum_succ]
    refine Weak.fr [0] [] hx (by simp only [fr_length]) (by decide) ?_ ?_
    · simp only [LY, seval, reduceCtorEq, implies_true, svex]
    · simp only [ckV, LY, seval, reduceCtorEq, implies_true, sfu, Nat.add_assoc]

theorem runs_looked {M : Seat} (ok : OkCk M) (kd : Int) (h1 : 1 ≤ kd) (h2 : kd ≤ 7) :
    Runs M 367 [.int .i64 kd] [] 0 (fun r H' k' => r = .tup (.fcons 0 (.bool true) (.fcons 1 (.bool (decide (kd = 2))) (.fcons 2 (.bool (decide (kd = 3 ∨ kd = 4))) (.fcons 3 (.bool (decide (kd = 3))) .fnil)))) ∧ H' = [] ∧ k' = 0) := by
  refine runs_fr ok.k367 rfl fun x hx => ?_
  have : kd = 1 ∨ kd = 2 ∨ kd = 3 ∨ kd = 4 ∨ kd = 5 ∨ kd = 6 ∨ kd = 7 := by omega
  rcases this with rfl | rfl | rfl | rfl | rfl | rfl | rfl
  all_goals
    refine ex_sound 2000 _ _ _ _ ?_; (simp (maxSteps := 4000000) only [f367, c367, LZ, seval, reduceCtorEq, forall_const])
    exact RetS.mkZ hx [] ⟨rfl, rfl, rfl⟩
end Mv
namespace Mv
open Go
set_option maxRecDepth 20000
set_option maxHeartbeats 4000000
set_option linter.unusedSimpArgs false

mutual
/-- Right blocks; how many parts they have. -/
inductive RB (P : List Fu) (i : Nat) : Nat → List IrSt → Nat → Prop
  | nil : RB P i 0 [] 0
  | mk (l : Nat) (ss : List IrSt) (c : Nat → Nat) (hl : ss.length < 1000) (h : ∀ j (hj : j < ss.length), RgS P i l ss[j] (c j)) : RB P i (l + 1) ss ((List.range ss.length).map c).sum
/-- Right statements. -/
inductive RgS (P : List Fu) (i : Nat) : Nat → IrSt → Nat → Prop
  | set (l n a b bo el ca) (h0 : 0 ≤ n) (h1 : n < locI P i) (ha : RE P i 8 a ca) : RgS P i l (.mk 1 n a b bo el) (1 + ca)
  | store (l n a b bo el ca cb) (ha : RE P i 8 a ca) (hb : RE P i 8 b cb) : RgS P i l (.mk 2 n a b bo el) (1 + ca + cb)
  | branch (l n a b bo el ca cb ce) (ha : RE P i 8 a ca) (hb : RB P i l bo cb) (he : RB P i l el ce) : RgS P i l (.mk 3 n a b bo el) (1 + ca + cb + ce)
  | loop (l n a b bo el ca cb) (ha : RE P i 8 a ca) (hb : RB P i l bo cb) : RgS P i l (.mk 4 n a b bo el) (1 + ca + cb)
  | other (l k n a b bo el ca) (h5 : 5 ≤ k) (h7 : k ≤ 7) (ha : RE P i 8 a ca) : RgS P i l (.mk k n a b bo el) (1 + ca)
end

theorem runs_lk {M : Seat} (ok : OkCk M) (kd : Int) (b c d : Bool) (h1 : 1 ≤ kd) (h2 : kd ≤ 7) (h : b = decide (kd = 2) ∧ c = decide (kd = 3 ∨ kd = 4) ∧ d = decide (kd = 3)) :
    Runs M 367 [.int .i64 kd] [] 0 (fun r H' k' => r = .tup (.fcons 0 (.bool true) (.fcons 1 (.bool b) (.fcons 2 (.bool c) (.fcons 3 (.bool d) .fnil)))) ∧ H' = [] ∧ k' = 0) := by
  obtain ⟨rfl, rfl, rfl⟩ := h
  exact runs_looked ok kd h1 h2

theorem runs_ckB {M : Seat} (ok : OkCk M) (P : List Fu) (i : Nat) (hi : i < P.length) (hP : P.length < 1000) : ∀ (l : Nat) (ss : List IrSt) (c : Nat), RB P i l ss c → l < 1000 → ∀ sz, sz + c < 4611686018427387904 →
    Runs M 287 [.ptr 0 [], stL ss, .int .i64 l] [(0, ckV P sz i)] 1 (fun r H' k' => r = .tup .fnil ∧ H' = [(0, ckV P (sz + c) i)] ∧ k' = 1) := by
  have hne : P ≠ [] := by rintro rfl; exact absurd hi (by simp)
  have hf := loc_get hi
  have hsl : ∀ H m z, Sim H m z (.lst 3 P.length (fuF P)) (.lst 3 P.length (fuF P)) := fun H m z => by rw [← fuL_lst P hne]; exact Sim_fuL H m z P
  have hrl : ∀ a, (V.lst 3 P.length (fuF P)).ren a = .lst 3 P.length (fuF P) := fun a => by rw [← fuL_lst P hne]; exact ren_fuL a P
  have hpl : fuL P = .lst 3 P.length (fuF P) := fuL_lst P hne
  have hck : ∀ sz, ckV P sz i = .st 5 (.fcons 0 (.int .i64 sz) (.fcons 1 (.bool false) (.fcons 2 (.bool false) (.fcons 3 (.lst 3 P.length (fuF P)) (.fcons 4 (.int .i64 i) .fnil))))) := fun sz => by rw [ckV, hpl]
  intro l
  induction l with
  | zero =>
    intro ss c h hl1 sz hsz
    cases h
    refine runs_fr ok.k287 rfl fun x hx => ?_
    simp only [hck, stL, Nat.add_zero]
    refine ex_sound 2000 _ _ _ _ ?_; (simp (maxSteps := 4000000) only [f287, c287, LZ, seval, reduceCtorEq, forall_const])
    refine loop_once ?_
    refine ex_sound 2000 _ _ _ _ ?_
    (simp (maxSteps := 4000000) only [LZ, seval, reduceCtorEq, forall_const])
    refine RetS.mk hx [0] [] _ _ _ (by decide) (by (simp only [LV, hsl, LZ, seval, reduceCtorEq, forall_const])) (by ((try simp only [LV, hsl, LZ, seval, reduceCtorEq, forall_const, LY, seval, reduceCtorEq, implies_true]); first | done | exact True.intro | (intros; rfl))) (by ((try simp only [hsl, LY, seval, reduceCtorEq, implies_true]); first | done | exact True.intro | (intros; rfl))) ⟨rfl, rfl, rfl⟩
  | succ l ih =>
  intro ss c h hl1 sz hsz
  cases h with
  | mk _ _ c hl h =>
  refine runs_fr ok.k287 rfl fun x hx => ?_
  have w1 : IntKind.i64.wrap (((l + 1 : Nat) : Int) - 1) = (l : Int) := by rw [wrap_i64 (by omega)]; omega
  have e0 : (((l + 1 : Nat) : Int) = 0) = False := eq_false (by omega)
  simp only [hck]
  refine ex_sound 2000 _ _ _ _ ?_; (simp (maxSteps := 4000000) only [f287, c287, e0, len_stL, LZ, seval, reduceCtorEq, forall_const])
  refine loop_rule (σ := Nat) (fun j => j ≤ ss.length) (fun j => fr 105 [(0, .ptr 0 []), (2, .int .i64 (l + 1 : Nat)), (22, stL ss), (23, .int .i64 ss.length), (24, .int .i64 j)]) (fun j => [(0, ckV P (sz + ((List.range j).map c).sum) i)]) (fun _ => 1) (fun j => ss.length - j) 0 (Nat.zero_le _) ?_ ?_
  · refine Weak.fr [0] [] hx (by simp only [fr_length]) (by decide) ?_ ?_
    · simp only [LY, seval, reduceCtorEq, implies_true, svst]
    · simp only [hck, LY, seval, reduceCtorEq, implies_true, hsl, List.range_zero, List.map_nil, List.sum_nil, Nat.add_zero]
  intro j hj
  refine ex_sound 2000 _ _ _ _ ?_
  simp only [hck]
  by_cases hin : j = ss.length
  · have d0 : ((j : Int) < (ss.length : Int)) = False := eq_false (by omega)
    subst hin
    (simp (maxSteps := 4000000) only [d0, LZ, seval, reduceCtorEq, forall_const])
    refine RetS.mk hx [0] [] _ _ _ (by decide) (by (simp only [LV, hsl, LZ, seval, reduceCtorEq, forall_const])) (by ((try simp only [LV, hsl, LZ, seval, reduceCtorEq, forall_const, LY, seval, reduceCtorEq, implies_true]); first | done | exact True.intro | (intros; rfl))) (by ((try simp only [hsl, LY, seval, reduceCtorEq, implies_true]); first | done | exact True.intro | (intros; rfl))) ⟨rfl, rfl, rfl⟩
  have d0 : ((j : Int) < (ss.length : Int)) = True := eq_true (by omega)
  have hlt : j < ss.length := by omega
  have hsn : ss ≠ [] := by rintro rfl; exact absurd hlt (by simp)
  have hy := stF_get ss j hlt
  have hb : sz + ((List.range j).map c).sum + c j < 4611686018427387904 := by
    have h1 := sum_mono c (j + 1) (ss.length - (j + 1))
    rw [show j + 1 + (ss.length - (j + 1)) = ss.length by omega, sum_succ] at h1
    omega
  have hT := h j hlt
  have w2 : IntKind.i64.wrap ((j : Int) + 1) = ((j + 1 : Nat) : Int) := by rw [wrap_i64 (by omega)]; omega
  have hend : ∀ z, z = sz + ((List.range j).map c).sum + c j → sz + ((List.range (j + 1)).map c).sum = z := fun z hz => by rw [sum_succ]; omega
  generalize sz + ((List.range j).map c).sum = s0 at *
  generalize hcj : c j = cj at *
  generalize ss[j] = y at *
  have w0 : IntKind.i64.wrap ((s0 : Int) + 1) = ((s0 + 1 : Nat) : Int) := by rw [wrap_i64 (by omega)]; omega
  have hE : ∀ a ca s, RE P i 8 a ca → s + ca < 4611686018427387904 → Runs M 368 [.ptr 0 [], exV a, .int .i64 8] [(0, ckV P s i)] 1 (fun r H' k' => r = .tup .fnil ∧ H' = [(0, ckV P (s + ca) i)] ∧ k' = 1) := fun a ca s h h2 => runs_ckE ok P i hi hP 8 a ca h (by omega) s h2
  simp only [hck] at hE ih
  cases hT with
  | set _ n a b bo el ca h0 h1 ha =>
    have hlk := runs_lk ok 1 false false false (by omega) (by omega) (by decide)
    have f1 : (n < 0) = False := eq_false (by omega)
    have f2 : (locI P i ≤ n) = False := eq_false (by omega)
    (simp (maxSteps := 4000000) only [d0, stL_lst ss hsn, hy, stV, sol_stL, siz_stL, agg_stL, sol_exV, siz_exV, agg_exV, w0, LZ, seval, reduceCtorEq, forall_const])
    repeat (refine And.intro (by first | omega | exact True.intro | rfl) ?_)
    refine call_pZ (hlk) ?_
    (simp (maxSteps := 4000000) only [hf, f1, f2, sol_stL, siz_stL, agg_stL, sol_exV, siz_exV, agg_exV, LZ, seval, reduceCtorEq, forall_const])
    repeat (refine And.intro (by first | omega | exact True.intro | rfl) ?_)
    refine call_mN [0] [0] (hE a ca (s0 + 1) ha (by omega)) (by rfl) (by rfl) (by decide) (by rfl) (by rfl) (by ((try simp only [hsl, svx, LY, seval, reduceCtorEq, implies_true]); first | done | exact True.intro | rfl)) (by ((try simp only [hsl, svx, LY, seval, reduceCtorEq, implies_true]); first | done | exact True.intro | rfl)) ?_
    (simp (maxSteps := 4000000) only [hrl, w2, LZ, seval, reduceCtorEq, forall_const])
    refine ⟨j + 1, by omega, by omega, ?_⟩
    rw [← stL_lst ss hsn, hend (s0 + 1 + ca) (by omega)]
    refine Weak.fr [0] [] hx (by simp only [fr_length]) (by decide) ?_ ?_
    · simp only [LY, seval, reduceCtorEq, implies_true, svst]
    · simp only [hck, LY, seval, reduceCtorEq, implies_true, hsl]
  | store _ n a b bo el ca cb ha hb2 =>
    have hlk := runs_lk ok 2 true false false (by omega) (by omega) (by decide)
    (simp (maxSteps := 4000000) only [d0, stL_lst ss hsn, hy, stV, sol_stL, siz_stL, agg_stL, sol_exV, siz_exV, agg_exV, w0, LZ, seval, reduceCtorEq, forall_const])
    repeat (refine And.intro (by first | omega | exact True.intro | rfl) ?_)
    refine call_pZ (hlk) ?_
    (simp (maxSteps := 4000000) only [sol_stL, siz_stL, agg_stL, sol_exV, siz_exV, agg_exV, LZ, seval, reduceCtorEq, forall_const])
    repeat (refine And.intro (by first | omega | exact True.intro | rfl) ?_)
    refine call_mN [0] [0] (hE a ca (s0 + 1) ha (by omega)) (by rfl) (by rfl) (by decide) (by rfl) (by rfl) (by ((try simp only [hsl, svx, LY, seval, reduceCtorEq, implies_true]); first | done | exact True.intro | rfl)) (by ((try simp only [hsl, svx, LY, seval, reduceCtorEq, implies_true]); first | done | exact True.intro | rfl)) ?_
    (simp (maxSteps := 4000000) only [hrl, sol_stL, siz_stL, agg_stL, sol_exV, siz_exV, agg_exV, LZ, seval, reduceCtorEq, forall_const])
    refine call_mN [0] [0] (hE b cb (s0 + 1 + ca) hb2 (by omega)) (by rfl) (by rfl) (by decide) (by rfl) (by rfl) (by ((try simp only [hsl, svx, LY, seval, reduceCtorEq, implies_true]); first | done | exact True.intro | rfl)) (by ((try simp only [hsl, svx, LY, seval, reduceCtorEq, implies_true]); first | done | exact True.intro | rfl)) ?_
    (simp (maxSteps := 4000000) only [hrl, w2, LZ, seval, reduceCtorEq, forall_const])
    refine ⟨j + 1, by omega, by omega, ?_⟩
    rw [← stL_lst ss hsn, hend (s0 + 1 + ca + cb) (by omega)]
    refine Weak.fr [0] [] hx (by simp only [fr_length]) (by decide) ?_ ?_
    · simp only [LY, seval, reduceCtorEq, implies_true, svst]
    · simp only [hck, LY, seval, reduceCtorEq, implies_true, hsl]
  | branch _ n a b bo el ca cb ce ha hb2 he =>
    have hlk := runs_lk ok 3 false true true (by omega) (by omega) (by decide)
    (simp (maxSteps := 4000000) only [d0, stL_lst ss hsn, hy, stV, sol_stL, siz_stL, agg_stL, sol_exV, siz_exV, agg_exV, w0, LZ, seval, reduceCtorEq, forall_const])
    repeat (refine And.intro (by first | omega | exact True.intro | rfl) ?_)
    refine call_pZ (hlk) ?_
    (simp (maxSteps := 4000000) only [sol_stL, siz_stL, agg_stL, sol_exV, siz_exV, agg_exV, LZ, seval, reduceCtorEq, forall_const])
    repeat (refine And.intro (by first | omega | exact True.intro | rfl) ?_)
    refine call_mN [0] [0] (hE a ca (s0 + 1) ha (by omega)) (by rfl) (by rfl) (by decide) (by rfl) (by rfl) (by ((try simp only [hsl, svx, LY, seval, reduceCtorEq, implies_true]); first | done | exact True.intro | rfl)) (by ((try simp only [hsl, svx, LY, seval, reduceCtorEq, implies_true]); first | done | exact True.intro | rfl)) ?_
    (simp (maxSteps := 4000000) only [hrl, sol_stL, siz_stL, agg_stL, sol_exV, siz_exV, agg_exV, w1, LZ, seval, reduceCtorEq, forall_const])
    refine call_mN [0] [0] (ih bo cb hb2 (by omega) (s0 + 1 + ca) (by omega)) (by rfl) (by rfl) (by decide) (by rfl) (by rfl) (by ((try simp only [hsl, svst, LY, seval, reduceCtorEq, implies_true]); first | done | exact True.intro | rfl)) (by ((try simp only [hsl, svst, LY, seval, reduceCtorEq, implies_true]); first | done | exact True.intro | rfl)) ?_
    (simp (maxSteps := 4000000) only [hrl, sol_stL, siz_stL, agg_stL, sol_exV, siz_exV, agg_exV, w1, LZ, seval, reduceCtorEq, forall_const])
    refine call_mN [0] [0] (ih el ce he (by omega) (s0 + 1 + ca + cb) (by omega)) (by rfl) (by rfl) (by decide) (by rfl) (by rfl) (by ((try simp only [hsl, svst, LY, seval, reduceCtorEq, implies_true]); first | done | exact True.intro | rfl)) (by ((try simp only [hsl, svst, LY, seval, reduceCtorEq, implies_true]); first | done | exact True.intro | rfl)) ?_
    (simp (maxSteps := 4000000) only [hrl, w2, LZ, seval, reduceCtorEq, forall_const])
    refine ⟨j + 1, by omega, by omega, ?_⟩
    rw [← stL_lst ss hsn, hend (s0 + 1 + ca + cb + ce) (by omega)]
    refine Weak.fr [0] [] hx (by simp only [fr_length]) (by decide) ?_ ?_
    · simp only [LY, seval, reduceCtorEq, implies_true, svst]
    · simp only [hck, LY, seval, reduceCtorEq, implies_true, hsl]
  | loop _ n a b bo el ca cb ha hb2 =>
    have hlk := runs_lk ok 4 false true false (by omega) (by omega) (by decide)
    (simp (maxSteps := 4000000) only [d0, stL_lst ss hsn, hy, stV, sol_stL, siz_stL, agg_stL, sol_exV, siz_exV, agg_exV, w0, LZ, seval, reduceCtorEq, forall_const])
    repeat (refine And.intro (by first | omega | exact True.intro | rfl) ?_)
    refine call_pZ (hlk) ?_
    (simp (maxSteps := 4000000) only [sol_stL, siz_stL, agg_stL, sol_exV, siz_exV, agg_exV, LZ, seval, reduceCtorEq, forall_const])
    repeat (refine And.intro (by first | omega | exact True.intro | rfl) ?_)
    refine call_mN [0] [0] (hE a ca (s0 + 1) ha (by omega)) (by rfl) (by rfl) (by decide) (by rfl) (by rfl) (by ((try simp only [hsl, svx, LY, seval, reduceCtorEq, implies_true]); first | done | exact True.intro | rfl)) (by ((try simp only [hsl, svx, LY, seval, reduceCtorEq, implies_true]); first | done | exact True.intro | rfl)) ?_
    (simp (maxSteps := 4000000) only [hrl, sol_stL, siz_stL, agg_stL, sol_exV, siz_exV, agg_exV, w1, LZ, seval, reduceCtorEq, forall_const])
    refine call_mN [0] [0] (ih bo cb hb2 (by omega) (s0 + 1 + ca) (by omega)) (by rfl) (by rfl) (by decide) (by rfl) (by rfl) (by ((try simp only [hsl, svst, LY, seval, reduceCtorEq, implies_true]); first | done | exact True.intro | rfl)) (by ((try simp only [hsl, svst, LY, seval, reduceCtorEq, implies_true]); first | done | exact True.intro | rfl)) ?_
    (simp (maxSteps := 4000000) only [hrl, w2, LZ, seval, reduceCtorEq, forall_const])
    refine ⟨j + 1, by omega, by omega, ?_⟩
    rw [← stL_lst ss hsn, hend (s0 + 1 + ca + cb) (by omega)]
    refine Weak.fr [0] [] hx (by simp only [fr_length]) (by decide) ?_ ?_
    · simp only [LY, seval, reduceCtorEq, implies_true, svst]
    · simp only [hck, LY, seval, reduceCtorEq, implies_true, hsl]
  | other _ k n a b bo el ca h5 h7 ha =>
    have hlk := runs_lk ok k false false false (by omega) (by omega) ⟨(decide_eq_false (by omega : ¬ k = 2)).symm, (decide_eq_false (by omega : ¬ (k = 3 ∨ k = 4))).symm, (decide_eq_false (by omega : ¬ k = 3)).symm⟩
    (simp (maxSteps := 4000000) only [d0, stL_lst ss hsn, hy, stV, sol_stL, siz_stL, agg_stL, sol_exV, siz_exV, agg_exV, w0, LZ, seval, reduceCtorEq, forall_const])
    repeat (refine And.intro (by first | omega | exact True.intro | rfl) ?_)
    refine call_pZ (hlk) ?_
    (simp (maxSteps := 4000000) only [eq_false (by omega : ¬ k = 1), sol_stL, siz_stL, agg_stL, sol_exV, siz_exV, agg_exV, LZ, seval, reduceCtorEq, forall_const])
    repeat (refine And.intro (by first | omega | exact True.intro | rfl) ?_)
    refine call_mN [0] [0] (hE a ca (s0 + 1) ha (by omega)) (by rfl) (by rfl) (by decide) (by rfl) (by rfl) (by ((try simp only [hsl, svx, LY, seval, reduceCtorEq, implies_true]); first | done | exact True.intro | rfl)) (by ((try simp only [hsl, svx, LY, seval, reduceCtorEq, implies_true]); first | done | exact True.intro | rfl)) ?_
    (simp (maxSteps := 4000000) only [hrl, w2, LZ, seval, reduceCtorEq, forall_const])
    refine ⟨j + 1, by omega, by omega, ?_⟩
    rw [← stL_lst ss hsn, hend (s0 + 1 + ca) (by omega)]
    refine Weak.fr [0] [] hx (by simp only [fr_length]) (by decide) ?_ ?_
    · simp only [LY, seval, reduceCtorEq, implies_true, svst]
    · simp only [hck, LY, seval, reduceCtorEq, implies_true, hsl]
end Mv
namespace Mv
open Go
set_option maxRecDepth 20000
set_option maxHeartbeats 4000000
set_option linter.unusedSimpArgs false

structure OkEv (M : Seat) : Prop extends OkCk M where
  k94 : chkF M 94 f94 = true
  ir : OkIr M

/-- A right program. -/
structure RgP (P : List Fu) (c : Nat → Nat) : Prop where
  ne : P ≠ []
  len : P.length ≤ 64
  par : ∀ i, i < P.length → 0 ≤ parI P i ∧ parI P i ≤ locI P i ∧ locI P i ≤ 24
  par0 : parI P 0 = 0
  body : ∀ i (h : i < P.length), RB P i 16 (P[i]).body (c i)
  sum : ((List.range P.length).map c).sum ≤ 6000

theorem runs_CheckNil {M : Seat} (ok : OkCk M) : Runs M 179 [.nils] [] 0 (fun r H' k' => r = .ifc 74 (.int .i64 3) ∧ H' = [] ∧ k' = 0) := by
  refine runs_fr ok.k179 rfl fun x hx => ?_
  refine ex_sound 2000 _ _ _ _ ?_; (simp (maxSteps := 4000000) only [f179, c179, LZ, seval, reduceCtorEq, forall_const])
  refine loop_once ?_
  refine ex_sound 2000 _ _ _ _ ?_
  (simp (maxSteps := 4000000) only [LZ, seval, reduceCtorEq, forall_const])
  exact RetS.mkZ hx [] ⟨rfl, rfl, rfl⟩

theorem runs_Check {M : Seat} (ok : OkCk M) (P : List Fu) (c : Nat → Nat) (h : RgP P c) : Runs M 179 [fuL P] [] 0 (fun r H' k' => r = .nili ∧ H' = [] ∧ k' = 0) := by
  refine runs_fr ok.k179 rfl fun x hx => ?_
  have hne := h.ne
  have hl64 := h.len
  have hl0 : 0 < P.length := List.length_pos_iff.2 hne
  have hs6 := h.sum
  have hsl : ∀ H m z, Sim H m z (.lst 3 P.length (fuF P)) (.lst 3 P.length (fuF P)) := fun H m z => by rw [← fuL_lst P hne]; exact Sim_fuL H m z P
  have hrl : ∀ a, (V.lst 3 P.length (fuF P)).ren a = .lst 3 P.length (fuF P) := fun a => by rw [← fuL_lst P hne]; exact ren_fuL a P
  have hck : ∀ sz i, ckV P sz i = .st 5 (.fcons 0 (.int .i64 sz) (.fcons 1 (.bool false) (.fcons 2 (.bool false) (.fcons 3 (.lst 3 P.length (fuF P)) (.fcons 4 (.int .i64 i) .fnil))))) := fun sz i => by rw [ckV, fuL_lst P hne]
  rw [fuL_lst P hne]
  refine ex_sound 2000 _ _ _ _ ?_; (simp (maxSteps := 4000000) only [f179, c179, LZ, seval, reduceCtorEq, forall_const])
  refine loop_rule (σ := Nat) (fun j => j ≤ P.length) (fun j => fr 87 [(0, .lst 3 P.length (fuF P)), (3, .ptr 0 []), (9, .lst 3 P.length (fuF P)), (10, .int .i64 P.length), (11, .int .i64 j)]) (fun j => [(0, ckV P ((List.range j).map c).sum (j - 1))]) (fun _ => 1) (fun j => P.length - j) 0 (Nat.zero_le _) ?_ ?_
  · refine Weak.fr [48] [] hx (by simp only [fr_length]) (by decide) ?_ ?_
    · simp only [LY, seval, reduceCtorEq, implies_true, hsl]
    · simp only [hck, LY, seval, reduceCtorEq, implies_true, hsl, List.range_zero, List.map_nil, List.sum_nil, Nat.add_zero]
  intro j hj
  refine ex_sound 2000 _ _ _ _ ?_
  simp only [hck]
  by_cases hin : j = P.length
  · have d0 : ((j : Int) < (P.length : Int)) = False := eq_false (by omega)
    subst hin
    have e1 : ((6000 : Int) < ((((List.range P.length).map c).sum : Nat) : Int)) = False := eq_false (by omega)
    have e2 : ((64 : Int) < (P.length : Int)) = False := eq_false (by omega)
    have e3 : ((P.length : Int) = 0) = False := eq_false (by omega)
    (simp (maxSteps := 4000000) only [d0, e1, e2, e3, LZ, seval, reduceCtorEq, forall_const])
    exact RetS.mkZ hx [] ⟨rfl, rfl, rfl⟩
  have d0 : ((j : Int) < (P.length : Int)) = True := eq_true (by omega)
  have hlt : j < P.length := by omega
  have hf := loc_get hlt
  have hb := h.body j hlt
  have hpr := h.par j hlt
  have hsm : ((List.range j).map c).sum + c j ≤ 6000 := by
    have h1 := sum_mono c (j + 1) (P.length - (j + 1))
    rw [show j + 1 + (P.length - (j + 1)) = P.length by omega, sum_succ] at h1
    omega
  have hB := runs_ckB ok P j hlt (by omega) 16 _ _ hb (by omega) ((List.range j).map c).sum (by omega)
  have w2 : IntKind.i64.wrap ((j : Int) + 1) = ((j + 1 : Nat) : Int) := by rw [wrap_i64 (by omega)]; omega
  have f1 : (parI P j < 0) = False := eq_false (by omega)
  have f2 : (locI P j < parI P j) = False := eq_false (by omega)
  have f3 : ((24 : Int) < locI P j) = False := eq_false (by omega)
  have f4 : ((j : Int) = 0) = True → (parI P j = 0) = True := fun h0 => by
    have : j = 0 := by have := of_eq_true h0; omega
    subst this
    exact eq_true h.par0
  simp only [hck] at hB
  by_cases hj0 : j = 0
  · have g1 : ((j : Int) = 0) = True := eq_true (by omega)
    (simp (maxSteps := 4000000) only [d0, hf, f1, f2, f3, g1, f4 g1, sol_stL, siz_stL, agg_stL, LZ, seval, reduceCtorEq, forall_const])
    repeat (refine And.intro (by first | omega | exact True.intro | rfl) ?_)
    refine call_mN [0] [0] (hB) (by rfl) (by rfl) (by decide) (by rfl) (by rfl) (by ((try simp only [hsl, svst, LY, seval, reduceCtorEq, implies_true]); first | done | exact True.intro | rfl)) (by ((try simp only [hsl, svst, LY, seval, reduceCtorEq, implies_true]); first | done | exact True.intro | rfl)) ?_
    (simp (maxSteps := 4000000) only [hrl, w2, LZ, seval, reduceCtorEq, forall_const])
    refine ⟨j + 1, by omega, by omega, ?_⟩
    rw [sum_succ, Nat.add_sub_cancel]
    refine Weak.fr [0] [] hx (by simp only [fr_length]) (by decide) ?_ ?_
    · simp only [LY, seval, reduceCtorEq, implies_true, hsl]
    · simp only [hck, LY, seval, reduceCtorEq, implies_true, hsl]
  · have g1 : ((j : Int) = 0) = False := eq_false (by omega)
    (simp (maxSteps := 4000000) only [d0, hf, f1, f2, f3, g1, sol_stL, siz_stL, agg_stL, LZ, seval, reduceCtorEq, forall_const])
    repeat (refine And.intro (by first | omega | exact True.intro | rfl) ?_)
    refine call_mN [0] [0] (hB) (by rfl) (by rfl) (by decide) (by rfl) (by rfl) (by ((try simp only [hsl, svst, LY, seval, reduceCtorEq, implies_true]); first | done | exact True.intro | rfl)) (by ((try simp only [hsl, svst, LY, seval, reduceCtorEq, implies_true]); first | done | exact True.intro | rfl)) ?_
    (simp (maxSteps := 4000000) only [hrl, w2, LZ, seval, reduceCtorEq, forall_const])
    refine ⟨j + 1, by omega, by omega, ?_⟩
    rw [sum_succ, Nat.add_sub_cancel]
    refine Weak.fr [0] [] hx (by simp only [fr_length]) (by decide) ?_ ?_
    · simp only [LY, seval, reduceCtorEq, implies_true, hsl]
    · simp only [hck, LY, seval, reduceCtorEq, implies_true, hsl]

theorem svfu (H : Hp) (m z : List Nat) (l : List Fu) : SimV H m z (fuL l) (fuL l) = True := by
  cases l with
  | nil => exact eq_true rfl
  | cons x r => exact sfu H m z (x :: r)
def s0I (fuel : Nat) : IrS := ⟨fun _ => 0#64, fuel, 0, false, false, 0#64⟩
def resI (s : IrS) : V := .st 3 (.fcons 0 (W s.exit) (.fcons 1 (.sl 1 [] 0 2048 1) (.fcons 2 (.int .i64 s.used) .fnil)))
theorem runs_Eval {M : Seat} (ok : OkEv M) (ap : Int → BitVec 64 → BitVec 64 → BitVec 64 → Option (BitVec 64)) (hap : ApOK M ap) (P : List Fu) (c : Nat → Nat) (h : RgP P c) (fuel k : Nat) (hfu : fuel < 4611686018427387904) (q : Rs) (L0 : Nat → BitVec 64) (nl0 : Nat)
    (hq : ev ap P (k + 1) (.c 0 []) (s0I fuel) L0 nl0 = some q) (ho : (endS q.s q.v).out = false) :
    Runs M 94 [fuL P, .nils, .ptr 0 [], .int .i64 fuel] [] 1 (fun r H' k' => r = tup2 (resI (endS q.s q.v)) .nili ∧ H' = [(1, memI (endS q.s q.v))] ∧ k' = 2) := by
  refine runs_fr ok.k94 rfl fun x hx => ?_
  have hl64 := h.len
  have hg0 : gd (s0I fuel) := ⟨hfu, Nat.zero_le _⟩
  have hC : Runs M 238 [.ptr 0 [], .int .i64 0, .nils] _ _ _ := runs_callNil ok.ir ap hap P (by omega) k (s0I fuel) q L0 nl0 hq hg0
  have hE := runs_end ok.ir P q.s q.v
  have hme : memI q.s = memI (endS q.s q.v) := by unfold endS; split <;> rfl
  have hK := runs_Check ok.toOkCk P c h
  have e0 : ((fuel : Int) < 0) = False := eq_false (by omega)
  rw [hme] at hC
  generalize endS q.s q.v = sE at *
  have hz0 : ((0 : Nat) : Int) = 0 := rfl
  simp only [rnV, s0I, memI, hz0] at hC hE
  refine ex_sound 2000 _ _ _ _ ?_; (simp (maxSteps := 4000000) only [f94, c94, e0, LZ, seval, reduceCtorEq, forall_const])
  refine call_pA (hK) (by ((try simp only [svfu, LY, seval, reduceCtorEq, implies_true]); first | done | exact True.intro | rfl)) (by first | rfl | (simp only [LN, LP, V.ren, tup2, tup3])) (by simp only [svfu, LX, implies_true]) ?_
  (simp (maxSteps := 4000000) only [e0, sol_fuL, siz_fuL, agg_fuL, LZ, seval, reduceCtorEq, forall_const])
  refine call_mN [337, 273, 0] [337, 273] (hC) (by rfl) (by rfl) (by decide) (by rfl) (by rfl) (by ((try simp only [sfu, LY, seval, reduceCtorEq, implies_true]); first | done | exact True.intro | rfl)) (by ((try simp only [sfu, LY, seval, reduceCtorEq, implies_true]); first | done | exact True.intro | rfl)) ?_
  (simp (maxSteps := 4000000) only [ren_fuL, ren_memI, LZ, seval, reduceCtorEq, forall_const])
  refine call_mN [337, 273, 0] [337] (hE) (by rfl) (by rfl) (by decide) (by rfl) (by rfl) (by ((try simp only [sfu, LY, seval, reduceCtorEq, implies_true]); first | done | exact True.intro | rfl)) (by ((try simp only [sfu, LY, seval, reduceCtorEq, implies_true]); first | done | exact True.intro | rfl)) ?_
  (simp (maxSteps := 4000000) only [ren_fuL, ho, resI, LZ, seval, reduceCtorEq, forall_const])
  refine RetS.mk hx [0, 273] [] _ _ _ (by decide) (by (simp only [LV, sfu, memI, LZ, seval, reduceCtorEq, forall_const])) (by ((try simp only [LV, sfu, memI, LZ, seval, reduceCtorEq, forall_const, LY, seval, reduceCtorEq, implies_true]); first | done | exact True.intro | (intros; rfl))) (by ((try simp only [sfu, memI, LY, seval, reduceCtorEq, implies_true]); first | done | exact True.intro | (intros; rfl))) ⟨rfl, rfl, rfl⟩

end Mv
