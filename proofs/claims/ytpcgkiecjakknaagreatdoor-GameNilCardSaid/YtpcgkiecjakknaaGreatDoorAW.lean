/- A part. -/
import Derived.Test.YtpcgkiecjakknaaGreatDoorAQ
set_option linter.all false
namespace Mv
open Go
/-- (*moot/game.Game).Move -/
def c110 : LC := (.seq (.reg [A1 10 (.box (.t 3)),
  A1 14 (.mv (.c (.int .i64 0))),
  A1 15 (.mv (.c .nili))])
 ((.seq (.reg [A1 20 (.mv (.t 0)),
  A1 21 (.mv (.t 1)),
  ⟨(some 22), .call 246 [(.t 20), (.t 21)], none⟩,
  A1 19 (.mv (.t 22)),
  A1 23 (.ext (.t 19) 0),
  A1 24 (.ext (.t 19) 1),
  A1 16 (.alloc (.st (.cons (.int .i64) (.cons (.int .u64) (.cons (.ar 32 (.int .u8)) (.cons (.int .i64) (.cons (.int .i64) (.cons (.st (.cons (.int .u64) (.cons (.int .u64) .nil))) (.cons .bool (.cons .bool (.cons .bool (.cons (.int .i64) .nil)))))))))))),
  A0 (.store 42 (.t 16) (.t 23)),
  A1 17 (.mv (.t 24))])
 ((.seq ((.seq (.reg [A1 25 (.mv (.t 17)),
  A1 26 (.eq true true (.iface [74]) (.t 25) (.c .nili))])
 (.cond (.t 26) ((.seq (.reg [A1 27 (.mv (.t 17)),
  A1 14 (.mv (.c (.int .i64 0))),
  A1 15 (.mv (.t 27))])
 (.ret))) (.skip))))
 ((.seq (.reg [A1 29 (.mv (.t 0)),
  A1 30 (.mv (.t 1)),
  A1 31 (.load true 32 (.t 10)),
  A1 32 (.mv (.t 4)),
  A1 33 (.mv (.t 4)),
  A1 34 (.build (.st (.cons (.int .i64) (.cons (.int .u64) (.cons (.ar 32 (.int .u8)) (.cons (.int .i64) (.cons (.int .i64) (.cons (.st (.cons (.int .u64) (.cons (.int .u64) .nil))) (.cons .bool (.cons .bool (.cons .bool (.cons (.int .i64) .nil))))))))))) [(.f 0, 1, (.t 30)), (.f 2, 32, (.t 31)), (.f 34, 1, (.t 32)), (.f 41, 1, (.t 33))]),
  A1 35 (.load true 42 (.t 16)),
  A1 36 (.mv (.t 2)),
  A1 37 (.mv (.t 5)),
  A1 38 (.mv (.t 6)),
  ⟨(some 39), .call 247 [(.t 29), (.t 34), (.t 35), (.t 36), (.t 37), (.t 38)], none⟩,
  A1 28 (.mv (.t 39)),
  A1 40 (.ext (.t 28) 0),
  A1 41 (.ext (.t 28) 1),
  A1 18 (.mv (.t 40)),
  A1 17 (.mv (.t 41))])
 ((.seq (.reg [A1 42 (.mv (.t 18)),
  A1 43 (.mv (.t 1)),
  A1 44 (.mv (.t 17)),
  ⟨(some 45), .call 248 [(.t 43), (.t 44)], none⟩,
  A1 14 (.mv (.t 42)),
  A1 15 (.mv (.t 45))])
 (.ret))))))))))
def f110 : LF := ⟨c110, 7, 0, 46, [.tmp 14, .tmp 15]⟩

/-- (*moot/game.Game).Claim -/
def c111 : LC := (.seq (.reg [A1 4 (.alloc (.st (.cons (.int .i64) (.cons (.int .u64) (.cons (.ar 32 (.int .u8)) (.cons (.int .i64) (.cons (.int .i64) (.cons (.st (.cons (.int .u64) (.cons (.int .u64) .nil))) (.cons .bool (.cons .bool (.cons .bool (.cons (.int .i64) .nil)))))))))))),
  A1 5 (.mv (.c .nili))])
 ((.seq (.block 0 ((.seq (.reg [A1 7 (.mv (.t 0)),
  A1 8 (.eq false true .ptr (.t 7) (.c .nilp)),
  A1 6 (.mv (.t 8))])
 (.cond (.t 6) ((.seq (.reg [A1 9 (.build (.st (.cons (.int .i64) (.cons (.int .u64) (.cons (.ar 32 (.int .u8)) (.cons (.int .i64) (.cons (.int .i64) (.cons (.st (.cons (.int .u64) (.cons (.int .u64) .nil))) (.cons .bool (.cons .bool (.cons .bool (.cons (.int .i64) .nil))))))))))) []),
  A1 10 (.mkif 74 (.c (.int .i64 1))),
  A0 (.store 42 (.t 4) (.t 9)),
  A1 5 (.mv (.t 10))])
 (.ret))) ((.seq (.reg [A1 12 (.mv (.t 1)),
  A1 13 (.ari .lss (.t 12) (.c (.int .i64 0))),
  A1 14 (.mv (.t 13)),
  A2 15 14 false (.mv (.t 1)),
  A2 16 14 false (.mv (.t 0)),
  A2 17 14 false (.nilc (.t 16)),
  A2 18 14 false (.fadr 36 (.t 17)),
  A2 19 14 false (.load false 1 (.t 18)),
  A2 20 14 false (.len 0 (.t 19)),
  A2 21 14 false (.ari .geq (.t 15) (.t 20)),
  A1 22 (.pick (.t 14) (.c (.bool true)) (.t 21)),
  A1 11 (.mv (.t 22))])
 (.cond (.t 11) ((.seq (.reg [A1 23 (.build (.st (.cons (.int .i64) (.cons (.int .u64) (.cons (.ar 32 (.int .u8)) (.cons (.int .i64) (.cons (.int .i64) (.cons (.st (.cons (.int .u64) (.cons (.int .u64) .nil))) (.cons .bool (.cons .bool (.cons .bool (.cons (.int .i64) .nil))))))))))) []),
  A1 24 (.mkif 74 (.c (.int .i64 4))),
  A0 (.store 42 (.t 4) (.t 23)),
  A1 5 (.mv (.t 24))])
 (.ret))) (.skip))))))))
 ((.seq (.reg [A1 25 (.mv (.t 0)),
  A1 26 (.nilc (.t 25)),
  A1 27 (.fadr 36 (.t 26)),
  A1 28 (.load false 1 (.t 27)),
  A1 29 (.mv (.t 1)),
  A1 30 (.isl 42 (.t 28) (.t 29)),
  A1 31 (.load true 42 (.t 30)),
  A0 (.store 42 (.t 4) (.t 31)),
  A1 5 (.mv (.c .nili))])
 (.ret))))))
def f111 : LF := ⟨c111, 2, 0, 32, [.cell 4 true 42, .tmp 5]⟩

/-- moot/game.New -/
def c112 : LC := (.seq (.reg [A1 5 (.box (.t 0)),
  A1 8 (.box (.t 3)),
  A1 10 (.mv (.c .nilp)),
  A1 11 (.mv (.c .nili))])
 ((.seq (.block 0 ((.seq (.reg [A1 16 (.mv (.t 1)),
  A1 17 (.eq false true .ptr (.t 16) (.c .nilp)),
  A1 15 (.mv (.t 17))])
 (.cond (.t 15) ((.seq (.reg [A1 18 (.mkif 74 (.c (.int .i64 1))),
  A1 10 (.mv (.c .nilp)),
  A1 11 (.mv (.t 18))])
 (.ret))) ((.seq (.reg [A1 20 (.fadr 0 (.t 5)),
  A1 21 (.load false 1 (.t 20)),
  A1 22 (.ari .lss (.t 21) (.c (.int .i64 1))),
  A1 23 (.mv (.t 22)),
  A2 24 23 false (.fadr 0 (.t 5)),
  A2 25 23 false (.load false 1 (.t 24)),
  A2 26 23 false (.ari .gtr (.t 25) (.c (.int .i64 20))),
  A1 27 (.pick (.t 23) (.c (.bool true)) (.t 26)),
  A1 28 (.mv (.t 27)),
  A2 29 28 false (.fadr 1 (.t 5)),
  A2 30 28 false (.load true 2 (.t 29)),
  ⟨(some 31), .call 249 [(.t 30)], (some (28, false))⟩,
  A2 32 28 false (.eq true true (.iface [74]) (.t 31) (.c .nili)),
  A1 33 (.pick (.t 28) (.c (.bool true)) (.t 32)),
  A1 34 (.mv (.t 33)),
  A2 35 34 false (.mv (.t 4)),
  A2 36 34 false (.ari .gtr (.t 35) (.c (.int .u64 1099511627776))),
  A1 37 (.pick (.t 34) (.c (.bool true)) (.t 36)),
  A1 19 (.mv (.t 37))])
 (.cond (.t 19) ((.seq (.reg [A1 38 (.mkif 74 (.c (.int .i64 2))),
  A1 10 (.mv (.c .nilp)),
  A1 11 (.mv (.t 38))])
 (.ret))) (.skip))))))))
 ((.seq (.reg [A1 40 (.mv (.t 1)),
  A1 41 (.mv (.t 2)),
  ⟨(some 42), .call 120 [(.c (.int .i64 0))], none⟩,
  ⟨(some 43), .call 250 [(.t 40), (.t 41), (.t 42)], none⟩,
  A1 39 (.mv (.t 43)),
  A1 44 (.ext (.t 39) 0),
  A1 45 (.ext (.t 39) 1),
  A1 12 (.mv (.t 44)),
  A1 13 (.mv (.t 45))])
 ((.seq ((.seq (.reg [A1 46 (.mv (.t 13)),
  A1 47 (.eq true true (.iface [74]) (.t 46) (.c .nili))])
 (.cond (.t 47) ((.seq (.reg [A1 48 (.mv (.t 13)),
  A1 10 (.mv (.c .nilp)),
  A1 11 (.mv (.t 48))])
 (.ret))) (.skip))))
 ((.seq (.reg [A1 49 (.load true 32 (.t 8)),
  A1 50 (.mv (.t 2)),
  A1 51 (.mv (.t 12)),
  A1 52 (.mv (.t 4)),
  A1 53 (.build (.st (.cons (.int .u64) (.cons (.int .u64) .nil))) [(.f 1, 1, (.t 52))]),
  A1 54 (.mv (.t 2)),
  A1 55 (.build (.st (.cons (.int .i64) (.cons (.int .u64) (.cons (.ar 32 (.int .u8)) (.cons (.int .i64) (.cons (.int .i64) (.cons (.st (.cons (.int .u64) (.cons (.int .u64) .nil))) (.cons .bool (.cons .bool (.cons .bool (.cons (.int .i64) .nil))))))))))) [(.f 0, 1, (.c (.int .i64 (-1)))), (.f 1, 1, (.c (.int .u64 1))), (.f 2, 32, (.t 49)), (.f 34, 1, (.t 50)), (.f 35, 1, (.t 51)), (.f 36, 2, (.t 53)), (.f 41, 1, (.t 54))]),
  A1 14 (.alloc (.st (.cons (.int .i64) (.cons (.int .u64) (.cons (.ar 32 (.int .u8)) (.cons (.int .i64) (.cons (.int .i64) (.cons (.st (.cons (.int .u64) (.cons (.int .u64) .nil))) (.cons .bool (.cons .bool (.cons .bool (.cons (.int .i64) .nil)))))))))))),
  A0 (.store 42 (.t 14) (.t 55))])
 ((.seq (.reg [A1 56 (.load true 35 (.t 5)),
  A1 57 (.mv (.t 1)),
  A1 58 (.load true 42 (.t 14)),
  A1 59 (.bsl 42 1 (.st (.cons (.int .i64) (.cons (.int .u64) (.cons (.ar 32 (.int .u8)) (.cons (.int .i64) (.cons (.int .i64) (.cons (.st (.cons (.int .u64) (.cons (.int .u64) .nil))) (.cons .bool (.cons .bool (.cons .bool (.cons (.int .i64) .nil))))))))))) [(.i 42 0, 42, (.t 58))]),
  A1 60 (.build (.st (.cons (.st (.cons (.int .i64) (.cons (.st (.cons (.int .u64) (.cons (.int .u64) .nil))) (.cons (.ar 32 (.int .u8)) .nil)))) (.cons .ptr (.cons .slice .nil)))) [(.f 0, 35, (.t 56)), (.f 35, 1, (.t 57)), (.f 36, 1, (.t 59))]),
  A1 61 (.box (.t 60)),
  A1 10 (.mv (.t 61)),
  A1 11 (.mv (.c .nili))])
 (.ret))))))))))))
def f112 : LF := ⟨c112, 5, 0, 62, [.tmp 10, .tmp 11]⟩

/-- moot/mootlaw19.rules -/
def c113 : LC := (.seq (.reg [A1 7 (.box (.t 3)),
  A1 8 (.alloc (.st (.cons (.int .i64) (.cons (.st (.cons (.int .u64) (.cons (.int .u64) .nil))) (.cons (.ar 32 (.int .u8)) .nil)))))])
 ((.seq (.reg [A1 9 (.mv (.t 0)),
  A1 10 (.mv (.t 1)),
  A1 11 (.mv (.t 2)),
  A1 12 (.build (.st (.cons (.int .u64) (.cons (.int .u64) .nil))) [(.f 0, 1, (.t 10)), (.f 1, 1, (.t 11))]),
  A1 13 (.load true 32 (.t 7)),
  A1 14 (.build (.st (.cons (.int .i64) (.cons (.st (.cons (.int .u64) (.cons (.int .u64) .nil))) (.cons (.ar 32 (.int .u8)) .nil)))) [(.f 0, 1, (.t 9)), (.f 1, 2, (.t 12)), (.f 3, 32, (.t 13))]),
  A0 (.store 35 (.t 8) (.t 14))])
 (.ret))))
def f113 : LF := ⟨c113, 4, 0, 15, [.cell 8 true 35]⟩

/-- (*moot/game.Game).Step -/
def c114 : LC := (.seq (.reg [A1 9 (.box (.t 3)),
  A1 12 (.mv (.c .nili))])
 ((.seq (.reg [A1 16 (.mv (.t 0)),
  A1 17 (.mv (.t 1)),
  ⟨(some 18), .call 246 [(.t 16), (.t 17)], none⟩,
  A1 15 (.mv (.t 18)),
  A1 19 (.ext (.t 15) 0),
  A1 20 (.ext (.t 15) 1),
  A1 13 (.alloc (.st (.cons (.int .i64) (.cons (.int .u64) (.cons (.ar 32 (.int .u8)) (.cons (.int .i64) (.cons (.int .i64) (.cons (.st (.cons (.int .u64) (.cons (.int .u64) .nil))) (.cons .bool (.cons .bool (.cons .bool (.cons (.int .i64) .nil)))))))))))),
  A0 (.store 42 (.t 13) (.t 19)),
  A1 14 (.mv (.t 20))])
 ((.seq ((.seq (.reg [A1 21 (.mv (.t 14)),
  A1 22 (.eq true true (.iface [74]) (.t 21) (.c .nili))])
 (.cond (.t 22) ((.seq (.reg [A1 23 (.mv (.t 14)),
  A1 12 (.mv (.t 23))])
 (.ret))) (.skip))))
 ((.seq ((.seq (.reg [A1 24 (.mv (.t 0)),
  A1 25 (.mv (.t 1)),
  A1 26 (.load true 42 (.t 13)),
  A1 27 (.mv (.t 2)),
  A1 28 (.load true 116 (.t 9)),
  A1 29 (.mv (.t 4)),
  A1 30 (.mv (.t 5)),
  ⟨(some 31), .call 251 [(.t 24), (.t 25), (.t 26), (.t 27), (.t 28), (.t 29), (.t 30)], none⟩,
  A1 14 (.mv (.t 31))])
 ((.seq (.reg [A1 32 (.mv (.t 14)),
  A1 33 (.eq true true (.iface [74]) (.t 32) (.c .nili))])
 (.cond (.t 33) ((.seq (.reg [A1 34 (.mv (.t 1)),
  A1 35 (.mv (.t 14)),
  ⟨(some 36), .call 248 [(.t 34), (.t 35)], none⟩,
  A1 12 (.mv (.t 36))])
 (.ret))) (.skip))))))
 ((.seq (.regd [⟨0, 0, A1 37 (.mv (.t 0))⟩,
  ⟨1, 1, A1 38 (.nilc (.t 37))⟩,
  ⟨2, 3, A1 39 (.fadr 36 (.t 38))⟩,
  ⟨3, 7, A1 40 (.load false 1 (.t 39))⟩,
  ⟨4, 0, A1 41 (.mv (.t 1))⟩,
  ⟨5, 0, A1 42 (.mv (.t 0))⟩,
  ⟨6, 32, A1 43 (.nilc (.t 42))⟩,
  ⟨7, 96, A1 44 (.fadr 36 (.t 43))⟩,
  ⟨8, 224, A1 45 (.load false 1 (.t 44))⟩,
  ⟨11, 511, A1 48 (.isl 42 (.t 40) (.t 41))⟩,
  ⟨12, 1023, A1 49 (.fadr 38 (.t 48))⟩,
  ⟨13, 2047, A0 (.store 1 (.t 49) (.c (.bool true)))⟩,
  ⟨9, 0, A1 46 (.mv (.t 1))⟩,
  ⟨10, 0, A1 47 (.mv (.t 4))⟩,
  ⟨14, 16383, A1 50 (.isl 42 (.t 45) (.t 46))⟩,
  ⟨15, 32767, A1 51 (.fadr 41 (.t 50))⟩,
  ⟨16, 65535, A0 (.store 1 (.t 51) (.t 47))⟩])
 ((.seq (.reg [A1 12 (.mv (.c .nili))])
 (.ret))))))))))))
def f114 : LF := ⟨c114, 6, 0, 52, [.tmp 12]⟩

/-- (*moot/game.Game).Resolve -/
def c115 : LC := (.seq (.reg [A1 6 (.mv (.c .nili))])
 ((.seq ((.seq (.reg [A1 7 (.mv (.t 0)),
  A1 8 (.eq false true .ptr (.t 7) (.c .nilp))])
 (.cond (.t 8) ((.seq (.reg [A1 9 (.mkif 74 (.c (.int .i64 1))),
  A1 6 (.mv (.t 9))])
 (.ret))) (.skip))))
 ((.seq (.reg [A1 10 (.mv (.t 1)),
  A1 11 (.mv (.t 0)),
  A1 12 (.mv (.t 1)),
  A1 13 (.mv (.t 2)),
  ⟨(some 14), .call 252 [(.t 11), (.t 12), (.t 13)], none⟩,
  ⟨(some 15), .call 248 [(.t 10), (.t 14)], none⟩,
  A1 6 (.mv (.t 15))])
 (.ret))))))
def f115 : LF := ⟨c115, 3, 0, 16, [.tmp 6]⟩

/-- moot/mootlaw19.fixed -/
def c116 : LC := (.seq (.reg [A1 0 (.mv (.c (.bool false)))])
 ((.seq (.reg [⟨(some 12), .call 138 [(.c (.int .u64 10))], none⟩,
  A1 11 (.mv (.t 12)),
  A1 13 (.ext (.t 11) 0),
  A1 14 (.ext (.t 11) 1),
  A1 1 (.mv (.t 13)),
  A1 2 (.mv (.t 14))])
 ((.seq ((.seq (.reg [A1 15 (.mv (.t 1)),
  A1 16 (.eq false true .ptr (.t 15) (.c .nilp))])
 (.cond (.t 16) ((.seq (.reg [A1 0 (.mv (.c (.bool false)))])
 (.ret))) (.skip))))
 ((.seq (.reg [A1 18 (.build (.ar 32 (.int .u8)) []),
  ⟨(some 19), .call 113 [(.c (.int .i64 2)), (.c (.int .u64 10)), (.c (.int .u64 0)), (.t 18)], none⟩,
  A1 20 (.mv (.t 1)),
  A1 21 (.build (.ar 32 (.int .u8)) [(.i 1 0, 1, (.c (.int .u8 1)))]),
  ⟨(some 22), .call 112 [(.t 19), (.t 20), (.c (.int .i64 0)), (.t 21), (.c (.int .u64 0))], none⟩,
  A1 17 (.mv (.t 22)),
  A1 23 (.ext (.t 17) 0),
  A1 24 (.ext (.t 17) 1),
  A1 3 (.mv (.t 23)),
  A1 4 (.mv (.t 24))])
 ((.seq ((.seq (.reg [A1 25 (.mv (.t 4)),
  A1 26 (.eq true true (.iface [74]) (.t 25) (.c .nili)),
  A1 27 (.mv (.t 26)),
  A2 28 27 false (.mv (.t 3)),
  A2 29 27 false (.eq false true .ptr (.t 28) (.c .nilp)),
  A1 30 (.pick (.t 27) (.c (.bool true)) (.t 29))])
 (.cond (.t 30) ((.seq (.reg [A1 0 (.mv (.c (.bool false)))])
 (.ret))) (.skip))))
 ((.seq (.reg [A1 32 (.mv (.t 3)),
  A1 33 (.build (.ar 32 (.int .u8)) [(.i 1 0, 1, (.c (.int .u8 2)))]),
  ⟨(some 34), .call 110 [(.t 32), (.c (.int .i64 0)), (.c (.bool true)), (.t 33), (.c (.int .i64 1)), (.c (.int .u64 2)), (.c (.int .u64 3))], none⟩,
  A1 31 (.mv (.t 34)),
  A1 35 (.ext (.t 31) 0),
  A1 36 (.ext (.t 31) 1),
  A1 4 (.mv (.t 36))])
 ((.seq (.reg [A1 38 (.mv (.t 3)),
  A1 39 (.build (.ar 32 (.int .u8)) [(.i 1 0, 1, (.c (.int .u8 2)))]),
  ⟨(some 40), .call 110 [(.t 38), (.c (.int .i64 0)), (.c (.bool false)), (.t 39), (.c (.int .i64 1)), (.c (.int .u64 2)), (.c (.int .u64 3))], none⟩,
  A1 37 (.mv (.t 40)),
  A1 41 (.ext (.t 37) 0),
  A1 42 (.ext (.t 37) 1),
  A1 5 (.mv (.t 41)),
  A1 6 (.mv (.t 42))])
 ((.seq (.reg [A1 44 (.mv (.t 4)),
  ⟨(some 45), .call 140 [(.t 44)], none⟩,
  A1 43 (.mv (.t 45)),
  A1 46 (.ext (.t 43) 0),
  A1 47 (.ext (.t 43) 1),
  A1 7 (.mv (.t 46)),
  A1 8 (.mv (.t 47))])
 ((.seq (.reg [A1 49 (.mv (.t 3)),
  ⟨(some 50), .call 111 [(.t 49), (.c (.int .i64 1))], none⟩,
  A1 48 (.mv (.t 50)),
  A1 51 (.ext (.t 48) 0),
  A1 52 (.ext (.t 48) 1),
  A1 9 (.alloc (.st (.cons (.int .i64) (.cons (.int .u64) (.cons (.ar 32 (.int .u8)) (.cons (.int .i64) (.cons (.int .i64) (.cons (.st (.cons (.int .u64) (.cons (.int .u64) .nil))) (.cons .bool (.cons .bool (.cons .bool (.cons (.int .i64) .nil)))))))))))),
  A0 (.store 42 (.t 9) (.t 51)),
  A1 10 (.mv (.t 52))])
 ((.seq (.reg [A1 53 (.mv (.t 7)),
  A1 54 (.ari .eql (.t 53) (.c (.int .i64 45))),
  A1 55 (.mv (.t 54)),
  A2 56 55 true (.mv (.t 8)),
  A2 57 55 true (.ari .eql (.t 56) (.c (.int .i64 0))),
  A1 58 (.pick (.t 55) (.t 57) (.c (.bool false))),
  A1 59 (.mv (.t 58)),
  A2 60 59 true (.mv (.t 5)),
  A2 61 59 true (.ari .eql (.t 60) (.c (.int .i64 1))),
  A1 62 (.pick (.t 59) (.t 61) (.c (.bool false))),
  A1 63 (.mv (.t 62)),
  A2 64 63 true (.mv (.t 6)),
  A2 65 63 true (.eq false true (.iface [74]) (.t 64) (.c .nili)),
  A1 66 (.pick (.t 63) (.t 65) (.c (.bool false))),
  A1 67 (.mv (.t 66)),
  A2 68 67 true (.mv (.t 10)),
  A2 69 67 true (.eq false true (.iface [74]) (.t 68) (.c .nili)),
  A1 70 (.pick (.t 67) (.t 69) (.c (.bool false))),
  A1 71 (.mv (.t 70)),
  A2 72 71 true (.fadr 1 (.t 9)),
  A2 73 71 true (.load false 1 (.t 72)),
  A2 74 71 true (.ari .eql (.t 73) (.c (.int .u64 2))),
  A1 75 (.pick (.t 71) (.t 74) (.c (.bool false))),
  A1 76 (.mv (.t 75)),
  A2 77 76 true (.fadr 36 (.t 9)),
  A2 78 76 true (.load true 2 (.t 77)),
  A2 79 76 true (.build (.st (.cons (.int .u64) (.cons (.int .u64) .nil))) [(.f 0, 1, (.c (.int .u64 3))), (.f 1, 1, (.c (.int .u64 3)))]),
  A2 80 76 true (.eq false false (.st (.cons 0 1 false .int (.cons 1 1 false .int .nil))) (.t 78) (.t 79)),
  A1 81 (.pick (.t 76) (.t 80) (.c (.bool false))),
  A1 82 (.mv (.t 81)),
  A2 83 82 true (.mv (.t 3)),
  ⟨(some 84), .call 117 [(.t 83)], (some (82, true))⟩,
  A2 85 82 true (.ari .eql (.t 84) (.c (.int .i64 2))),
  A1 86 (.pick (.t 82) (.t 85) (.c (.bool false))),
  A1 87 (.mv (.t 86)),
  A2 88 87 true (.mv (.t 3)),
  ⟨(some 89), .call 118 [(.t 88)], (some (87, true))⟩,
  A2 90 87 true (.ari .eql (.t 89) (.c (.int .i64 0))),
  A1 91 (.pick (.t 87) (.t 90) (.c (.bool false))),
  A1 92 (.mv (.t 91)),
  A1 93 (.pick (.t 92) (.c (.bool true)) (.c (.bool false))),
  A1 94 (.mv (.t 93)),
  A1 95 (.pick (.t 94) (.c (.bool true)) (.c (.bool false))),
  A1 96 (.mv (.t 95)),
  A1 97 (.pick (.t 96) (.c (.bool true)) (.c (.bool false))),
  A1 0 (.mv (.t 97))])
 (.ret))))))))))))))))))))
def f116 : LF := ⟨c116, 0, 0, 98, [.tmp 0]⟩

/-- (*moot/game.Game).Len -/
def c117 : LC := (.seq (.reg [A1 2 (.mv (.c (.int .i64 0)))])
 ((.seq ((.seq (.reg [A1 3 (.mv (.t 0)),
  A1 4 (.eq false true .ptr (.t 3) (.c .nilp))])
 (.cond (.t 4) ((.seq (.reg [A1 2 (.mv (.c (.int .i64 0)))])
 (.ret))) (.skip))))
 ((.seq (.reg [A1 5 (.mv (.t 0)),
  A1 6 (.nilc (.t 5)),
  A1 7 (.fadr 36 (.t 6)),
  A1 8 (.load false 1 (.t 7)),
  A1 9 (.len 0 (.t 8)),
  A1 2 (.mv (.t 9))])
 (.ret))))))
def f117 : LF := ⟨c117, 1, 0, 10, [.tmp 2]⟩

/-- (*moot/game.Game).Status -/
def c118 : LC := (.seq (.reg [A1 2 (.mv (.c (.int .i64 0)))])
 ((.seq (.block 0 ((.seq (.reg [A1 4 (.mv (.t 0)),
  A1 5 (.eq false true .ptr (.t 4) (.c .nilp)),
  A1 6 (.mv (.t 5)),
  A2 7 6 false (.mv (.t 0)),
  A2 8 6 false (.nilc (.t 7)),
  A2 9 6 false (.fadr 36 (.t 8)),
  A2 10 6 false (.load false 1 (.t 9)),
  A2 11 6 false (.isl 42 (.t 10) (.c (.int .i64 0))),
  A2 12 6 false (.fadr 39 (.t 11)),
  A2 13 6 false (.load false 1 (.t 12)),
  A2 14 6 false (.un .not (.t 13)),
  A1 15 (.pick (.t 6) (.c (.bool true)) (.t 14)),
  A1 3 (.mv (.t 15))])
 (.cond (.t 3) ((.seq (.reg [A1 2 (.mv (.c (.int .i64 0)))])
 (.ret))) ((.seq (.reg [A1 17 (.mv (.t 0)),
  A1 18 (.nilc (.t 17)),
  A1 19 (.fadr 36 (.t 18)),
  A1 20 (.load false 1 (.t 19)),
  A1 21 (.isl 42 (.t 20) (.c (.int .i64 0))),
  A1 22 (.fadr 40 (.t 21)),
  A1 23 (.load false 1 (.t 22)),
  A1 16 (.mv (.t 23))])
 (.cond (.t 16) ((.seq (.reg [A1 2 (.mv (.c (.int .i64 2)))])
 (.ret))) (.skip))))))))
 ((.seq (.reg [A1 2 (.mv (.c (.int .i64 1)))])
 (.ret))))))
def f118 : LF := ⟨c118, 1, 0, 24, [.tmp 2]⟩

/-- (*moot/game.Game).Rules -/
def c119 : LC := (.seq (.reg [A1 2 (.alloc (.st (.cons (.int .i64) (.cons (.st (.cons (.int .u64) (.cons (.int .u64) .nil))) (.cons (.ar 32 (.int .u8)) .nil)))))])
 ((.seq ((.seq (.reg [A1 3 (.mv (.t 0)),
  A1 4 (.eq false true .ptr (.t 3) (.c .nilp))])
 (.cond (.t 4) ((.seq (.reg [A1 5 (.build (.st (.cons (.int .i64) (.cons (.st (.cons (.int .u64) (.cons (.int .u64) .nil))) (.cons (.ar 32 (.int .u8)) .nil)))) []),
  A0 (.store 35 (.t 2) (.t 5))])
 (.ret))) (.skip))))
 ((.seq (.reg [A1 6 (.mv (.t 0)),
  A1 7 (.nilc (.t 6)),
  A1 8 (.fadr 0 (.t 7)),
  A1 9 (.load true 35 (.t 8)),
  A0 (.store 35 (.t 2) (.t 9))])
 (.ret))))))
def f119 : LF := ⟨c119, 1, 0, 10, [.cell 2 true 35]⟩

/-- moot/game.Bond -/
def c120 : LC := (.seq (.reg [A1 2 (.mv (.c (.int .u64 0)))])
 ((.seq ((.seq (.reg [A1 3 (.mv (.t 0)),
  A1 4 (.ari .lss (.t 3) (.c (.int .i64 0)))])
 (.cond (.t 4) ((.seq (.reg [A1 2 (.mv (.c (.int .u64 0)))])
 (.ret))) (.skip))))
 ((.seq (.reg [A1 5 (.mv (.t 0)),
  A1 6 (.conv .u64 (.t 5)),
  A1 7 (.ari .add (.t 6) (.c (.int .u64 1))),
  A1 2 (.mv (.t 7))])
 (.ret))))))
def f120 : LF := ⟨c120, 1, 0, 8, [.tmp 2]⟩

/-- moot/position.Parts -/
def c130 : LC := (.seq (.reg [A1 2 (.mv (.c (.int .i64 0))),
  A1 3 (.mv (.c (.int .u64 0))),
  A1 4 (.mv (.c .nili))])
 ((.seq ((.seq (.reg [A1 6 (.mv (.t 0)),
  A1 7 (.ari .eql (.t 6) (.c (.int .u64 0))),
  A1 8 (.mv (.t 7)),
  A2 9 8 false (.mv (.t 0)),
  A2 10 8 false (.ari .geq (.t 9) (.c (.int .u64 33554432))),
  A1 11 (.pick (.t 8) (.c (.bool true)) (.t 10))])
 (.cond (.t 11) ((.seq (.reg [A1 12 (.mkif 74 (.c (.int .i64 2))),
  A1 2 (.mv (.c (.int .i64 0))),
  A1 3 (.mv (.c (.int .u64 0))),
  A1 4 (.mv (.t 12))])
 (.ret))) (.skip))))
 ((.seq (.reg [A1 13 (.mv (.t 0)),
  ⟨(some 14), .call 259 [(.t 13)], none⟩,
  A1 15 (.ari .sub (.t 14) (.c (.int .i64 1))),
  A1 5 (.mv (.t 15))])
 ((.seq (.regd [⟨0, 0, A1 16 (.mv (.t 5))⟩,
  ⟨1, 0, A1 17 (.mv (.t 0))⟩,
  ⟨2, 0, A1 18 (.mv (.t 5))⟩,
  ⟨3, 4, A1 19 (.ari .shl (.c (.int .u64 1)) (.t 18))⟩,
  ⟨4, 14, A1 20 (.ari .sub (.t 17) (.t 19))⟩,
  ⟨5, 1, A1 2 (.mv (.t 16))⟩,
  ⟨6, 63, A1 3 (.mv (.t 20))⟩,
  ⟨7, 127, A1 4 (.mv (.c .nili))⟩])
 (.ret))))))))
def f130 : LF := ⟨c130, 1, 0, 21, [.tmp 2, .tmp 3, .tmp 4]⟩

/-- moot/position.Attack -/
def c131 : LC := (.seq (.reg [A1 2 (.mv (.c (.int .u64 0))),
  A1 3 (.mv (.c .nili))])
 ((.seq (.reg [A1 8 (.mv (.t 0)),
  ⟨(some 9), .call 130 [(.t 8)], none⟩,
  A1 7 (.mv (.t 9)),
  A1 10 (.ext (.t 7) 0),
  A1 11 (.ext (.t 7) 1),
  A1 12 (.ext (.t 7) 2),
  A1 4 (.mv (.t 10)),
  A1 5 (.mv (.t 11)),
  A1 6 (.mv (.t 12))])
 ((.seq ((.seq (.reg [A1 13 (.mv (.t 6)),
  A1 14 (.eq true true (.iface [74]) (.t 13) (.c .nili))])
 (.cond (.t 14) ((.seq (.reg [A1 15 (.mv (.t 6)),
  A1 2 (.mv (.c (.int .u64 0))),
  A1 3 (.mv (.t 15))])
 (.ret))) (.skip))))
 ((.seq (.reg [A1 16 (.mv (.t 4)),
  A1 17 (.ari .add (.t 16) (.c (.int .i64 1))),
  A1 18 (.mv (.t 5)),
  A1 19 (.ari .mul (.c (.int .u64 2)) (.t 18)),
  ⟨(some 20), .call 260 [(.t 17), (.t 19)], none⟩,
  A1 21 (.ext (.t 20) 0),
  A1 22 (.ext (.t 20) 1),
  A1 2 (.mv (.t 21)),
  A1 3 (.mv (.t 22))])
 (.ret))))))))
def f131 : LF := ⟨c131, 1, 0, 23, [.tmp 2, .tmp 3]⟩

/-- moot/position.Defend -/
def c132 : LC := (.seq (.reg [A1 2 (.mv (.c (.int .u64 0))),
  A1 3 (.mv (.c .nili))])
 ((.seq (.reg [A1 8 (.mv (.t 0)),
  ⟨(some 9), .call 130 [(.t 8)], none⟩,
  A1 7 (.mv (.t 9)),
  A1 10 (.ext (.t 7) 0),
  A1 11 (.ext (.t 7) 1),
  A1 12 (.ext (.t 7) 2),
  A1 4 (.mv (.t 10)),
  A1 5 (.mv (.t 11)),
  A1 6 (.mv (.t 12))])
 ((.seq (.block 0 ((.seq (.reg [A1 14 (.mv (.t 6)),
  A1 15 (.eq true true (.iface [74]) (.t 14) (.c .nili)),
  A1 13 (.mv (.t 15))])
 (.cond (.t 13) ((.seq (.reg [A1 16 (.mv (.t 6)),
  A1 2 (.mv (.c (.int .u64 0))),
  A1 3 (.mv (.t 16))])
 (.ret))) ((.seq (.reg [A1 18 (.mv (.t 4)),
  A1 19 (.ari .eql (.t 18) (.c (.int .i64 24))),
  A1 17 (.mv (.t 19))])
 (.cond (.t 17) ((.seq (.reg [A1 20 (.mkif 74 (.c (.int .i64 2))),
  A1 2 (.mv (.c (.int .u64 0))),
  A1 3 (.mv (.t 20))])
 (.ret))) ((.seq (.reg [A1 22 (.mv (.t 5)),
  A1 23 (.mv (.t 4)),
  A1 24 (.ari .shl (.c (.int .u64 1)) (.t 23)),
  A1 25 (.ari .sub (.t 24) (.c (.int .u64 1))),
  A1 26 (.ari .eql (.t 22) (.t 25)),
  A1 21 (.mv (.t 26))])
 (.cond (.t 21) ((.seq (.reg [A1 27 (.mkif 74 (.c (.int .i64 45))),
  A1 2 (.mv (.c (.int .u64 0))),
  A1 3 (.mv (.t 27))])
 (.ret))) (.skip)))))))))))
 ((.seq (.reg [A1 28 (.mv (.t 4)),
  A1 29 (.ari .add (.t 28) (.c (.int .i64 1))),
  A1 30 (.mv (.t 5)),
  A1 31 (.ari .mul (.c (.int .u64 2)) (.t 30)),
  A1 32 (.ari .add (.t 31) (.c (.int .u64 2))),
  ⟨(some 33), .call 260 [(.t 29), (.t 32)], none⟩,
  A1 34 (.ext (.t 33) 0),
  A1 35 (.ext (.t 33) 1),
  A1 2 (.mv (.t 34)),
  A1 3 (.mv (.t 35))])
 (.ret))))))))
def f132 : LF := ⟨c132, 1, 0, 36, [.tmp 2, .tmp 3]⟩

/-- moot/mootlaw19.rich -/
def c138 : LC := (.seq (.reg [A1 2 (.mv (.c .nilp)),
  A1 3 (.mv (.c .nilp))])
 ((.seq (.reg [⟨(some 7), .call 222 [], none⟩,
  A1 8 (.build (.st (.cons .slice .nil)) []),
  A1 9 (.box (.t 8)),
  A1 4 (.mv (.t 7)),
  A1 5 (.mv (.t 9))])
 ((.seq ((.seq (.reg [A1 10 (.mv (.t 4)),
  A1 11 (.eq false true .ptr (.t 10) (.c .nilp))])
 (.cond (.t 11) ((.seq (.reg [A1 12 (.mv (.t 5)),
  A1 2 (.mv (.c .nilp)),
  A1 3 (.mv (.t 12))])
 (.ret))) (.skip))))
 ((.seq ((.seq (.reg [A1 13 (.mv (.c (.int .i64 0)))])
 (.block 0 (.loop ((.seq (.reg [A1 14 (.ari .lss (.t 13) (.c (.int .i64 8)))])
 ((.seq (.cond (.t 14) (.skip) (.exit 0))
 ((.seq (.block 1 ((.seq (.reg [A1 15 (.mv (.t 13)),
  A1 6 (.mv (.t 15))])
 ((.seq ((.seq (.reg [A1 16 (.mv (.t 4)),
  A1 17 (.mv (.t 6)),
  A1 18 (.mv (.t 0)),
  ⟨(some 19), .call 223 [(.t 16), (.t 17), (.t 18)], none⟩,
  A1 20 (.eq true true (.iface [74]) (.t 19) (.c .nili))])
 (.cond (.t 20) ((.seq (.reg [A1 21 (.mv (.t 5)),
  A1 2 (.mv (.c .nilp)),
  A1 3 (.mv (.t 21))])
 (.ret))) (.skip))))
 (.reg [A1 22 (.mv (.t 5)),
  A1 23 (.mv (.t 6)),
  A1 24 (.mv (.t 0)),
  A1 25 (.build (.st (.cons (.int .i64) (.cons (.int .i64) (.cons (.int .i64) (.cons (.int .u64) .nil))))) [(.f 0, 1, (.c (.int .i64 1))), (.f 1, 1, (.t 23)), (.f 3, 1, (.t 24))]),
  ⟨(some 26), .call 263 [(.t 22), (.t 25)], none⟩]))))))
 (.reg [A1 27 (.ari .add (.t 13) (.c (.int .i64 1))),
  A1 13 (.mv (.t 27))])))))))))))
 ((.seq (.reg [A1 28 (.mv (.t 4)),
  A1 29 (.mv (.t 5)),
  A1 2 (.mv (.t 28)),
  A1 3 (.mv (.t 29))])
 (.ret))))))))))
def f138 : LF := ⟨c138, 1, 0, 30, [.tmp 2, .tmp 3]⟩

/-- moot/ledger.New -/
def c222 : LC := (.seq (.reg [A1 0 (.mv (.c .nilp))])
 ((.seq (.reg [A1 1 (.build (.st (.cons (.ar 8 (.int .u64)) (.cons (.int .u64) (.cons (.int .u64) (.cons .slice (.cons (.int .u64) .nil)))))) []),
  A1 2 (.box (.t 1)),
  A1 0 (.mv (.t 2))])
 (.ret))))
def f222 : LF := ⟨c222, 0, 0, 3, [.tmp 0]⟩

/-- (*moot/ledger.Ledger).PayIn -/
def c223 : LC := (.seq (.reg [A1 6 (.mv (.c .nili))])
 ((.seq ((.seq (.reg [A1 8 (.mv (.t 0)),
  A1 9 (.mv (.t 1)),
  ⟨(some 10), .call 258 [(.t 8), (.t 9)], none⟩,
  A1 7 (.mv (.t 10))])
 ((.seq (.reg [A1 11 (.mv (.t 7)),
  A1 12 (.eq true true (.iface [74]) (.t 11) (.c .nili))])
 (.cond (.t 12) ((.seq (.reg [A1 13 (.mv (.t 7)),
  A1 6 (.mv (.t 13))])
 (.ret))) (.skip))))))
 ((.seq ((.seq (.reg [A1 14 (.mv (.t 2)),
  A1 15 (.ari .gtr (.t 14) (.c (.int .u64 281474976710656))),
  A1 16 (.mv (.t 15)),
  A2 17 16 false (.mv (.t 0)),
  A2 18 16 false (.nilc (.t 17)),
  A2 19 16 false (.fadr 8 (.t 18)),
  A2 20 16 false (.load false 1 (.t 19)),
  A2 21 16 false (.mv (.t 2)),
  A2 22 16 false (.ari .add (.t 20) (.t 21)),
  A2 23 16 false (.ari .gtr (.t 22) (.c (.int .u64 281474976710656))),
  A1 24 (.pick (.t 16) (.c (.bool true)) (.t 23))])
 (.cond (.t 24) ((.seq (.reg [A1 25 (.mkif 74 (.c (.int .i64 2))),
  A1 6 (.mv (.t 25))])
 (.ret))) (.skip))))
 ((.seq (.reg [A1 26 (.mv (.t 0)),
  A1 27 (.nilc (.t 26)),
  A1 28 (.fadr 8 (.t 27)),
  A1 29 (.load false 1 (.t 28)),
  A1 30 (.mv (.t 2)),
  A1 31 (.ari .add (.t 29) (.t 30)),
  A1 32 (.nilc (.t 26)),
  A1 33 (.fadr 8 (.t 32)),
  A0 (.store 1 (.t 33) (.t 31))])
 ((.seq (.regd [⟨0, 0, A1 34 (.mv (.t 0))⟩,
  ⟨1, 0, A1 35 (.mv (.t 1))⟩,
  ⟨2, 1, A1 36 (.nilc (.t 34))⟩,
  ⟨3, 5, A1 37 (.fadr 0 (.t 36))⟩,
  ⟨4, 15, A1 38 (.iarr 8 1 (.t 37) (.t 35))⟩,
  ⟨5, 31, A1 39 (.load false 1 (.t 38))⟩,
  ⟨6, 0, A1 40 (.mv (.t 2))⟩,
  ⟨7, 127, A1 41 (.ari .add (.t 39) (.t 40))⟩,
  ⟨8, 1, A1 42 (.nilc (.t 34))⟩,
  ⟨9, 257, A1 43 (.fadr 0 (.t 42))⟩,
  ⟨10, 1023, A1 44 (.iarr 8 1 (.t 43) (.t 35))⟩,
  ⟨11, 2047, A0 (.store 1 (.t 44) (.t 41))⟩])
 ((.seq (.reg [A1 6 (.mv (.c .nili))])
 (.ret))))))))))))
def f223 : LF := ⟨c223, 3, 0, 45, [.tmp 6]⟩

/-- (*moot/game.Game).find -/
def c246 : LC := (.seq (.reg [A1 4 (.alloc (.st (.cons (.int .i64) (.cons (.int .u64) (.cons (.ar 32 (.int .u8)) (.cons (.int .i64) (.cons (.int .i64) (.cons (.st (.cons (.int .u64) (.cons (.int .u64) .nil))) (.cons .bool (.cons .bool (.cons .bool (.cons (.int .i64) .nil)))))))))))),
  A1 5 (.mv (.c .nili))])
 ((.seq (.block 0 ((.seq (.reg [A1 7 (.mv (.t 0)),
  A1 8 (.eq false true .ptr (.t 7) (.c .nilp)),
  A1 6 (.mv (.t 8))])
 (.cond (.t 6) ((.seq (.reg [A1 9 (.build (.st (.cons (.int .i64) (.cons (.int .u64) (.cons (.ar 32 (.int .u8)) (.cons (.int .i64) (.cons (.int .i64) (.cons (.st (.cons (.int .u64) (.cons (.int .u64) .nil))) (.cons .bool (.cons .bool (.cons .bool (.cons (.int .i64) .nil))))))))))) []),
  A1 10 (.mkif 74 (.c (.int .i64 1))),
  A0 (.store 42 (.t 4) (.t 9)),
  A1 5 (.mv (.t 10))])
 (.ret))) ((.seq (.reg [A1 12 (.mv (.t 1)),
  A1 13 (.ari .lss (.t 12) (.c (.int .i64 0))),
  A1 14 (.mv (.t 13)),
  A2 15 14 false (.mv (.t 1)),
  A2 16 14 false (.mv (.t 0)),
  A2 17 14 false (.nilc (.t 16)),
  A2 18 14 false (.fadr 36 (.t 17)),
  A2 19 14 false (.load false 1 (.t 18)),
  A2 20 14 false (.len 0 (.t 19)),
  A2 21 14 false (.ari .geq (.t 15) (.t 20)),
  A1 22 (.pick (.t 14) (.c (.bool true)) (.t 21)),
  A1 11 (.mv (.t 22))])
 (.cond (.t 11) ((.seq (.reg [A1 23 (.build (.st (.cons (.int .i64) (.cons (.int .u64) (.cons (.ar 32 (.int .u8)) (.cons (.int .i64) (.cons (.int .i64) (.cons (.st (.cons (.int .u64) (.cons (.int .u64) .nil))) (.cons .bool (.cons .bool (.cons .bool (.cons (.int .i64) .nil))))))))))) []),
  A1 24 (.mv (.t 1)),
  A1 25 (.mkif 74 (.c (.int .i64 4))),
  ⟨(some 26), .call 248 [(.t 24), (.t 25)], none⟩,
  A0 (.store 42 (.t 4) (.t 23)),
  A1 5 (.mv (.t 26))])
 (.ret))) ((.seq (.reg [A1 28 (.mv (.t 0)),
  A1 29 (.nilc (.t 28)),
  A1 30 (.fadr 36 (.t 29)),
  A1 31 (.load false 1 (.t 30)),
  A1 32 (.mv (.t 1)),
  A1 33 (.isl 42 (.t 31) (.t 32)),
  A1 34 (.fadr 39 (.t 33)),
  A1 35 (.load false 1 (.t 34)),
  A1 27 (.mv (.t 35))])
 (.cond (.t 27) ((.seq (.reg [A1 36 (.build (.st (.cons (.int .i64) (.cons (.int .u64) (.cons (.ar 32 (.int .u8)) (.cons (.int .i64) (.cons (.int .i64) (.cons (.st (.cons (.int .u64) (.cons (.int .u64) .nil))) (.cons .bool (.cons .bool (.cons .bool (.cons (.int .i64) .nil))))))))))) []),
  A1 37 (.mv (.t 1)),
  A1 38 (.mkif 74 (.c (.int .i64 43))),
  ⟨(some 39), .call 248 [(.t 37), (.t 38)], none⟩,
  A0 (.store 42 (.t 4) (.t 36)),
  A1 5 (.mv (.t 39))])
 (.ret))) (.skip)))))))))))
 ((.seq (.reg [A1 40 (.mv (.t 0)),
  A1 41 (.nilc (.t 40)),
  A1 42 (.fadr 36 (.t 41)),
  A1 43 (.load false 1 (.t 42)),
  A1 44 (.mv (.t 1)),
  A1 45 (.isl 42 (.t 43) (.t 44)),
  A1 46 (.load true 42 (.t 45)),
  A0 (.store 42 (.t 4) (.t 46)),
  A1 5 (.mv (.c .nili))])
 (.ret))))))
def f246 : LF := ⟨c246, 2, 0, 47, [.cell 4 true 42, .tmp 5]⟩

/-- (*moot/game.Game).move -/
def c247 : LC := (.seq (.reg [A1 7 (.box (.t 1)),
  A1 8 (.box (.t 2)),
  A1 12 (.mv (.c (.int .i64 0))),
  A1 13 (.mv (.c .nili))])
 ((.seq (.reg [A1 18 (.mv (.t 0)),
  A1 19 (.load true 42 (.t 8)),
  A1 20 (.mv (.t 3)),
  ⟨(some 21), .call 350 [(.t 18), (.t 19), (.t 20)], none⟩,
  A1 17 (.mv (.t 21)),
  A1 22 (.ext (.t 17) 0),
  A1 23 (.ext (.t 17) 1),
  A1 24 (.ext (.t 17) 2),
  A1 14 (.alloc (.int .u64)),
  A0 (.store 1 (.t 14) (.t 22)),
  A1 15 (.mv (.t 23)),
  A1 16 (.mv (.t 24))])
 ((.seq (.block 0 ((.seq (.reg [A1 26 (.mv (.t 16)),
  A1 27 (.eq true true (.iface [74]) (.t 26) (.c .nili)),
  A1 25 (.mv (.t 27))])
 (.cond (.t 25) ((.seq (.reg [A1 28 (.mv (.t 16)),
  A1 12 (.mv (.c (.int .i64 0))),
  A1 13 (.mv (.t 28))])
 (.ret))) ((.seq (.reg [A1 30 (.mv (.t 4)),
  A1 31 (.mv (.t 15)),
  ⟨(some 32), .call 120 [(.t 31)], none⟩,
  A1 33 (.ari .neq (.t 30) (.t 32)),
  A1 29 (.mv (.t 33))])
 (.cond (.t 29) ((.seq (.reg [A1 34 (.mkif 74 (.c (.int .i64 40))),
  A1 12 (.mv (.c (.int .i64 0))),
  A1 13 (.mv (.t 34))])
 (.ret))) (.skip))))))))
 ((.seq (.reg [A1 35 (.load false 1 (.t 14)),
  A1 36 (.fadr 1 (.t 7)),
  A0 (.store 1 (.t 36) (.t 35))])
 ((.seq ((.seq (.reg [A1 37 (.mv (.t 0)),
  A1 38 (.nilc (.t 37)),
  A1 39 (.fadr 36 (.t 38)),
  A1 40 (.load false 1 (.t 39)),
  A1 41 (.mkfn 352 [(.t 7), (.t 14)]),
  ⟨(some 42), .call 351 [(.t 40), (.t 41)], none⟩])
 (.cond (.t 42) ((.seq (.reg [A1 43 (.mkif 74 (.c (.int .i64 41))),
  A1 12 (.mv (.c (.int .i64 0))),
  A1 13 (.mv (.t 43))])
 (.ret))) (.skip))))
 ((.seq ((.seq (.regd [⟨7, 0, A1 52 (.mv (.t 0))⟩,
  ⟨8, 0, A1 53 (.load true 42 (.t 8))⟩,
  ⟨9, 3, ⟨(some 54), .call 354 [(.t 52), (.t 53)], none⟩⟩,
  ⟨0, 0, A1 45 (.mv (.t 0))⟩,
  ⟨1, 8, A1 46 (.nilc (.t 45))⟩,
  ⟨2, 24, A1 47 (.fadr 0 (.t 46))⟩,
  ⟨3, 56, A1 48 (.fadr 1 (.t 47))⟩,
  ⟨4, 120, A1 49 (.load true 2 (.t 48))⟩,
  ⟨5, 0, A1 50 (.fadr 36 (.t 8))⟩,
  ⟨6, 256, A1 51 (.load true 2 (.t 50))⟩,
  ⟨10, 0, A1 55 (.mv (.t 5))⟩,
  ⟨11, 2047, ⟨(some 56), .call 353 [(.t 49), (.t 51), (.t 54), (.t 55)], none⟩⟩,
  ⟨12, 4095, A1 44 (.mv (.t 56))⟩,
  ⟨13, 8191, A1 57 (.ext (.t 44) 0)⟩,
  ⟨15, 16383, A1 59 (.fadr 36 (.t 7))⟩,
  ⟨16, 32767, A0 (.store 2 (.t 59) (.t 57))⟩,
  ⟨14, 8191, A1 58 (.ext (.t 44) 1)⟩,
  ⟨17, 131071, A1 16 (.mv (.t 58))⟩])
 ((.seq (.reg [A1 60 (.mv (.t 16)),
  A1 61 (.eq true true (.iface [74]) (.t 60) (.c .nili))])
 (.cond (.t 61) ((.seq (.reg [A1 62 (.mv (.t 16)),
  A1 12 (.mv (.c (.int .i64 0))),
  A1 13 (.mv (.t 62))])
 (.ret))) (.skip))))))
 ((.seq ((.seq (.reg [A1 63 (.mv (.t 0)),
  A1 64 (.nilc (.t 63)),
  A1 65 (.fadr 36 (.t 64)),
  A1 66 (.load false 1 (.t 65)),
  A1 67 (.len 0 (.t 66)),
  A1 68 (.ari .geq (.t 67) (.c (.int .i64 64)))])
 (.cond (.t 68) ((.seq (.reg [A1 69 (.mkif 74 (.c (.int .i64 5))),
  A1 12 (.mv (.c (.int .i64 0))),
  A1 13 (.mv (.t 69))])
 (.ret))) (.skip))))
 ((.seq ((.seq (.regd [⟨0, 0, A1 71 (.mv (.t 0))⟩,
  ⟨1, 1, A1 72 (.nilc (.t 71))⟩,
  ⟨2, 3, A1 73 (.fadr 35 (.t 72))⟩,
  ⟨3, 7, A1 74 (.load false 1 (.t 73))⟩,
  ⟨4, 0, A1 75 (.fadr 34 (.t 7))⟩,
  ⟨5, 16, A1 76 (.load false 1 (.t 75))⟩,
  ⟨6, 0, A1 77 (.mv (.t 4))⟩,
  ⟨7, 127, ⟨(some 78), .call 250 [(.t 74), (.t 76), (.t 77)], none⟩⟩,
  ⟨8, 255, A1 70 (.mv (.t 78))⟩,
  ⟨9, 511, A1 79 (.ext (.t 70) 0)⟩,
  ⟨11, 1023, A1 81 (.fadr 35 (.t 7))⟩,
  ⟨12, 2047, A0 (.store 1 (.t 81) (.t 79))⟩,
  ⟨10, 511, A1 80 (.ext (.t 70) 1)⟩,
  ⟨13, 8191, A1 16 (.mv (.t 80))⟩])
 ((.seq (.reg [A1 82 (.mv (.t 16)),
  A1 83 (.eq true true (.iface [74]) (.t 82) (.c .nili))])
 (.cond (.t 83) ((.seq (.reg [A1 84 (.mv (.t 16)),
  A1 12 (.mv (.c (.int .i64 0))),
  A1 13 (.mv (.t 84))])
 (.ret))) (.skip))))))
 ((.seq (.regd [⟨1, 0, A1 86 (.mv (.t 0))⟩,
  ⟨2, 1, A1 87 (.nilc (.t 86))⟩,
  ⟨3, 3, A1 88 (.fadr 36 (.t 87))⟩,
  ⟨4, 7, A1 89 (.load false 1 (.t 88))⟩,
  ⟨5, 0, A1 90 (.load true 42 (.t 7))⟩,
  ⟨6, 16, A1 91 (.bsl 42 1 (.st (.cons (.int .i64) (.cons (.int .u64) (.cons (.ar 32 (.int .u8)) (.cons (.int .i64) (.cons (.int .i64) (.cons (.st (.cons (.int .u64) (.cons (.int .u64) .nil))) (.cons .bool (.cons .bool (.cons .bool (.cons (.int .i64) .nil))))))))))) [(.i 42 0, 42, (.t 90))])⟩,
  ⟨7, 63, A1 92 (.app 42 96 (.t 89) (.t 91))⟩,
  ⟨0, 0, A1 85 (.mv (.t 0))⟩,
  ⟨8, 255, A1 93 (.nilc (.t 85))⟩,
  ⟨9, 511, A1 94 (.fadr 36 (.t 93))⟩,
  ⟨10, 1023, A0 (.store 1 (.t 94) (.t 92))⟩])
 ((.seq (.reg [A1 95 (.mv (.t 0)),
  A1 96 (.nilc (.t 95)),
  A1 97 (.fadr 36 (.t 96)),
  A1 98 (.load false 1 (.t 97)),
  A1 99 (.len 0 (.t 98)),
  A1 100 (.ari .sub (.t 99) (.c (.int .i64 1))),
  A1 12 (.mv (.t 100)),
  A1 13 (.mv (.c .nili))])
 (.ret))))))))))))))))))))
def f247 : LF := ⟨c247, 6, 0, 101, [.tmp 12, .tmp 13]⟩

/-- moot/game.at -/
def c248 : LC := (.seq (.reg [A1 4 (.mv (.c .nili))])
 ((.seq ((.seq (.reg [A1 5 (.mv (.t 1)),
  A1 6 (.eq false true (.iface [74]) (.t 5) (.c .nili))])
 (.cond (.t 6) ((.seq (.reg [A1 4 (.mv (.c .nili))])
 (.ret))) (.skip))))
 ((.seq (.reg [A1 7 (.mv (.t 0)),
  A1 8 (.mv (.t 1)),
  A1 9 (.build (.st (.cons (.int .i64) (.cons .iface .nil))) [(.f 0, 1, (.t 7)), (.f 1, 1, (.t 8))]),
  A1 10 (.box (.t 9)),
  A1 11 (.mkif 145 (.t 10)),
  A1 4 (.mv (.t 11))])
 (.ret))))))
def f248 : LF := ⟨c248, 2, 0, 12, [.tmp 4]⟩

/-- moot/clock.Check -/
def c249 : LC := (.seq (.reg [A1 1 (.box (.t 0)),
  A1 2 (.mv (.c .nili))])
 ((.seq ((.seq (.reg [A1 3 (.fadr 0 (.t 1)),
  A1 4 (.load false 1 (.t 3)),
  A1 5 (.ari .lss (.t 4) (.c (.int .u64 1))),
  A1 6 (.mv (.t 5)),
  A2 7 6 false (.fadr 0 (.t 1)),
  A2 8 6 false (.load false 1 (.t 7)),
  A2 9 6 false (.ari .gtr (.t 8) (.c (.int .u64 1099511627776))),
  A1 10 (.pick (.t 6) (.c (.bool true)) (.t 9)),
  A1 11 (.mv (.t 10)),
  A2 12 11 false (.fadr 1 (.t 1)),
  A2 13 11 false (.load false 1 (.t 12)),
  A2 14 11 false (.fadr 0 (.t 1)),
  A2 15 11 false (.load false 1 (.t 14)),
  A2 16 11 false (.ari .gtr (.t 13) (.t 15)),
  A1 17 (.pick (.t 11) (.c (.bool true)) (.t 16))])
 (.cond (.t 17) ((.seq (.reg [A1 18 (.mkif 74 (.c (.int .i64 2))),
  A1 2 (.mv (.t 18))])
 (.ret))) (.skip))))
 ((.seq (.reg [A1 2 (.mv (.c .nili))])
 (.ret))))))
def f249 : LF := ⟨c249, 1, 0, 19, [.tmp 2]⟩

/-- (*moot/ledger.Ledger).Lock -/
def c250 : LC := (.seq (.reg [A1 6 (.mv (.c (.int .i64 0))),
  A1 7 (.mv (.c .nili))])
 ((.seq ((.seq (.reg [A1 9 (.mv (.t 0)),
  A1 10 (.mv (.t 1)),
  A1 11 (.mv (.t 2)),
  ⟨(some 12), .call 355 [(.t 9), (.t 10), (.t 11)], none⟩,
  A1 8 (.mv (.t 12))])
 ((.seq (.reg [A1 13 (.mv (.t 8)),
  A1 14 (.eq true true (.iface [74]) (.t 13) (.c .nili))])
 (.cond (.t 14) ((.seq (.reg [A1 15 (.mv (.t 8)),
  A1 6 (.mv (.c (.int .i64 0))),
  A1 7 (.mv (.t 15))])
 (.ret))) (.skip))))))
 ((.seq ((.seq (.reg [A1 16 (.mv (.t 0)),
  A1 17 (.nilc (.t 16)),
  A1 18 (.fadr 10 (.t 17)),
  A1 19 (.load false 1 (.t 18)),
  A1 20 (.len 0 (.t 19)),
  A1 21 (.ari .geq (.t 20) (.c (.int .i64 65536)))])
 (.cond (.t 21) ((.seq (.regd [⟨0, 0, A1 22 (.mv (.t 0))⟩,
  ⟨1, 0, A1 23 (.mv (.t 1))⟩,
  ⟨2, 1, A1 24 (.nilc (.t 22))⟩,
  ⟨3, 5, A1 25 (.fadr 0 (.t 24))⟩,
  ⟨4, 15, A1 26 (.iarr 8 1 (.t 25) (.t 23))⟩,
  ⟨5, 31, A1 27 (.load false 1 (.t 26))⟩,
  ⟨6, 0, A1 28 (.mv (.t 2))⟩,
  ⟨7, 127, A1 29 (.ari .add (.t 27) (.t 28))⟩,
  ⟨8, 1, A1 30 (.nilc (.t 22))⟩,
  ⟨9, 257, A1 31 (.fadr 0 (.t 30))⟩,
  ⟨10, 1023, A1 32 (.iarr 8 1 (.t 31) (.t 23))⟩,
  ⟨11, 2047, A0 (.store 1 (.t 32) (.t 29))⟩])
 ((.seq (.reg [A1 33 (.mkif 74 (.c (.int .i64 5))),
  A1 6 (.mv (.c (.int .i64 0))),
  A1 7 (.mv (.t 33))])
 (.ret))))) (.skip))))
 ((.seq (.reg [A1 34 (.mv (.t 0)),
  A1 35 (.mv (.t 0)),
  A1 36 (.nilc (.t 35)),
  A1 37 (.fadr 10 (.t 36)),
  A1 38 (.load false 1 (.t 37)),
  A1 39 (.mv (.t 2)),
  A1 40 (.build (.st (.cons (.int .u64) (.cons .bool .nil))) [(.f 0, 1, (.t 39))]),
  A1 41 (.bsl 2 1 (.st (.cons (.int .u64) (.cons .bool .nil))) [(.i 2 0, 2, (.t 40))]),
  A1 42 (.app 2 16 (.t 38) (.t 41)),
  A1 43 (.nilc (.t 34)),
  A1 44 (.fadr 10 (.t 43)),
  A0 (.store 1 (.t 44) (.t 42))])
 ((.seq (.reg [A1 45 (.mv (.t 0)),
  A1 46 (.nilc (.t 45)),
  A1 47 (.fadr 11 (.t 46)),
  A1 48 (.load false 1 (.t 47)),
  A1 49 (.mv (.t 2)),
  A1 50 (.ari .add (.t 48) (.t 49)),
  A1 51 (.nilc (.t 45)),
  A1 52 (.fadr 11 (.t 51)),
  A0 (.store 1 (.t 52) (.t 50))])
 ((.seq (.reg [A1 53 (.mv (.t 0)),
  A1 54 (.nilc (.t 53)),
  A1 55 (.fadr 10 (.t 54)),
  A1 56 (.load false 1 (.t 55)),
  A1 57 (.len 0 (.t 56)),
  A1 58 (.ari .sub (.t 57) (.c (.int .i64 1))),
  A1 6 (.mv (.t 58)),
  A1 7 (.mv (.c .nili))])
 (.ret))))))))))))
def f250 : LF := ⟨c250, 3, 0, 59, [.tmp 6, .tmp 7]⟩

/-- (*moot/ledger.Ledger).ready -/
def c258 : LC := (.seq (.reg [A1 4 (.mv (.c .nili))])
 ((.seq (.block 0 ((.seq (.reg [A1 6 (.mv (.t 0)),
  A1 7 (.eq false true .ptr (.t 6) (.c .nilp)),
  A1 5 (.mv (.t 7))])
 (.cond (.t 5) ((.seq (.reg [A1 8 (.mkif 74 (.c (.int .i64 1))),
  A1 4 (.mv (.t 8))])
 (.ret))) ((.seq (.reg [A1 10 (.mv (.t 1)),
  A1 11 (.ari .lss (.t 10) (.c (.int .i64 0))),
  A1 12 (.mv (.t 11)),
  A2 13 12 false (.mv (.t 1)),
  A2 14 12 false (.ari .geq (.t 13) (.c (.int .i64 8))),
  A1 15 (.pick (.t 12) (.c (.bool true)) (.t 14)),
  A1 9 (.mv (.t 15))])
 (.cond (.t 9) ((.seq (.reg [A1 16 (.mkif 74 (.c (.int .i64 2))),
  A1 4 (.mv (.t 16))])
 (.ret))) (.skip))))))))
 ((.seq (.reg [A1 4 (.mv (.c .nili))])
 (.ret))))))
def f258 : LF := ⟨c258, 2, 0, 17, [.tmp 4]⟩

/-- moot/position.Make -/
def c260 : LC := (.seq (.reg [A1 4 (.mv (.c (.int .u64 0))),
  A1 5 (.mv (.c .nili))])
 ((.seq ((.seq (.reg [A1 6 (.mv (.t 0)),
  A1 7 (.ari .lss (.t 6) (.c (.int .i64 0))),
  A1 8 (.mv (.t 7)),
  A2 9 8 false (.mv (.t 0)),
  A2 10 8 false (.ari .gtr (.t 9) (.c (.int .i64 24))),
  A1 11 (.pick (.t 8) (.c (.bool true)) (.t 10)),
  A1 12 (.mv (.t 11)),
  A2 13 12 false (.mv (.t 1)),
  A2 14 12 false (.mv (.t 0)),
  A2 15 12 false (.ari .shl (.c (.int .u64 1)) (.t 14)),
  A2 16 12 false (.ari .geq (.t 13) (.t 15)),
  A1 17 (.pick (.t 12) (.c (.bool true)) (.t 16))])
 (.cond (.t 17) ((.seq (.reg [A1 18 (.mkif 74 (.c (.int .i64 2))),
  A1 4 (.mv (.c (.int .u64 0))),
  A1 5 (.mv (.t 18))])
 (.ret))) (.skip))))
 ((.seq (.reg [A1 19 (.mv (.t 0)),
  A1 20 (.ari .shl (.c (.int .u64 1)) (.t 19)),
  A1 21 (.mv (.t 1)),
  A1 22 (.ari .add (.t 20) (.t 21)),
  A1 4 (.mv (.t 22)),
  A1 5 (.mv (.c .nili))])
 (.ret))))))
def f260 : LF := ⟨c260, 2, 0, 23, [.tmp 4, .tmp 5]⟩

/-- (*moot/game.Game).place -/
def c350 : LC := (.seq (.reg [A1 4 (.box (.t 1)),
  A1 6 (.mv (.c (.int .u64 0))),
  A1 7 (.mv (.c (.int .i64 0))),
  A1 8 (.mv (.c .nili))])
 ((.seq (.reg [A1 15 (.fadr 1 (.t 4)),
  A1 16 (.load false 1 (.t 15)),
  ⟨(some 17), .call 130 [(.t 16)], none⟩,
  A1 14 (.mv (.t 17)),
  A1 18 (.ext (.t 14) 0),
  A1 19 (.ext (.t 14) 1),
  A1 20 (.ext (.t 14) 2),
  A1 9 (.mv (.t 18)),
  A1 10 (.mv (.t 19)),
  A1 11 (.mv (.t 20))])
 ((.seq ((.seq (.reg [A1 21 (.mv (.t 9)),
  A1 22 (.mv (.t 0)),
  A1 23 (.nilc (.t 22)),
  A1 24 (.fadr 0 (.t 23)),
  A1 25 (.fadr 0 (.t 24)),
  A1 26 (.load false 1 (.t 25)),
  A1 27 (.ari .geq (.t 21) (.t 26))])
 (.cond (.t 27) ((.seq (.reg [A1 28 (.mkif 74 (.c (.int .i64 45))),
  A1 6 (.mv (.c (.int .u64 0))),
  A1 7 (.mv (.c (.int .i64 0))),
  A1 8 (.mv (.t 28))])
 (.ret))) (.skip))))
 ((.seq (.reg [A1 30 (.fadr 1 (.t 4)),
  A1 31 (.load false 1 (.t 30)),
  ⟨(some 32), .call 131 [(.t 31)], none⟩,
  A1 29 (.mv (.t 32)),
  A1 33 (.ext (.t 29) 0),
  A1 34 (.ext (.t 29) 1),
  A1 12 (.mv (.t 33)),
  A1 13 (.mv (.t 34))])
 ((.seq ((.seq (.reg [A1 35 (.mv (.t 2))])
 (.cond (.t 35) (.reg [A1 37 (.fadr 1 (.t 4)),
  A1 38 (.load false 1 (.t 37)),
  ⟨(some 39), .call 132 [(.t 38)], none⟩,
  A1 36 (.mv (.t 39)),
  A1 40 (.ext (.t 36) 0),
  A1 41 (.ext (.t 36) 1),
  A1 12 (.mv (.t 40)),
  A1 13 (.mv (.t 41))]) (.skip))))
 ((.seq (.reg [A1 42 (.mv (.t 12)),
  A1 43 (.mv (.t 9)),
  A1 44 (.ari .add (.t 43) (.c (.int .i64 1))),
  A1 45 (.mv (.t 13)),
  A1 6 (.mv (.t 42)),
  A1 7 (.mv (.t 44)),
  A1 8 (.mv (.t 45))])
 (.ret))))))))))))
def f350 : LF := ⟨c350, 3, 0, 46, [.tmp 6, .tmp 7, .tmp 8]⟩

/-- slices.ContainsFunc[[]moot/game.Claim,moot/game.Claim] -/
def c351 : LC := (.seq (.reg [A1 4 (.mv (.c (.bool false)))])
 ((.seq (.reg [A1 5 (.mv (.t 0)),
  A1 6 (.mv (.t 1)),
  ⟨(some 7), .call 452 [(.t 5), (.t 6)], none⟩,
  A1 8 (.ari .geq (.t 7) (.c (.int .i64 0))),
  A1 4 (.mv (.t 8))])
 (.ret))))
def f351 : LF := ⟨c351, 2, 0, 9, [.tmp 4]⟩

/-- (*moot/game.Game).move$1 -/
def c352 : LC := (.seq (.reg [A1 3 (.box (.t 0)),
  A1 4 (.mv (.c (.bool false)))])
 ((.seq (.reg [A1 5 (.fadr 0 (.t 3)),
  A1 6 (.load false 1 (.t 5)),
  A1 7 (.fadr 0 (.t 1)),
  A1 8 (.load false 1 (.t 7)),
  A1 9 (.ari .eql (.t 6) (.t 8)),
  A1 10 (.mv (.t 9)),
  A2 11 10 true (.fadr 1 (.t 3)),
  A2 12 10 true (.load false 1 (.t 11)),
  A2 13 10 true (.load false 1 (.t 2)),
  A2 14 10 true (.ari .eql (.t 12) (.t 13)),
  A1 15 (.pick (.t 10) (.t 14) (.c (.bool false))),
  A1 16 (.mv (.t 15)),
  A2 17 16 true (.fadr 2 (.t 3)),
  A2 18 16 true (.load true 32 (.t 17)),
  A2 19 16 true (.fadr 2 (.t 1)),
  A2 20 16 true (.load true 32 (.t 19)),
  A2 21 16 true (.eq false false (.ar 32 1 false .int) (.t 18) (.t 20)),
  A1 22 (.pick (.t 16) (.t 21) (.c (.bool false))),
  A1 4 (.mv (.t 22))])
 (.ret))))
def f352 : LF := ⟨c352, 1, 2, 23, [.tmp 4]⟩

/-- moot/clock.Next -/
def c353 : LC := (.seq (.reg [A1 4 (.box (.t 0)),
  A1 5 (.box (.t 1)),
  A1 8 (.alloc (.st (.cons (.int .u64) (.cons (.int .u64) .nil)))),
  A1 9 (.mv (.c .nili))])
 ((.seq (.reg [A1 13 (.load true 2 (.t 4)),
  A1 14 (.load true 2 (.t 5)),
  A1 15 (.mv (.t 2)),
  A1 16 (.mv (.t 3)),
  ⟨(some 17), .call 453 [(.t 13), (.t 14), (.t 15), (.t 16)], none⟩,
  A1 12 (.mv (.t 17)),
  A1 18 (.ext (.t 12) 0),
  A1 19 (.ext (.t 12) 1),
  A1 10 (.mv (.t 18)),
  A1 11 (.mv (.t 19))])
 ((.seq (.block 0 ((.seq (.reg [A1 21 (.mv (.t 11)),
  A1 22 (.eq true true (.iface [74]) (.t 21) (.c .nili)),
  A1 20 (.mv (.t 22))])
 (.cond (.t 20) ((.seq (.reg [A1 23 (.build (.st (.cons (.int .u64) (.cons (.int .u64) .nil))) []),
  A1 24 (.mv (.t 11)),
  A0 (.store 2 (.t 8) (.t 23)),
  A1 9 (.mv (.t 24))])
 (.ret))) ((.seq (.reg [A1 26 (.mv (.t 10)),
  A1 27 (.fadr 0 (.t 4)),
  A1 28 (.load false 1 (.t 27)),
  A1 29 (.ari .geq (.t 26) (.t 28)),
  A1 25 (.mv (.t 29))])
 (.cond (.t 25) ((.seq (.reg [A1 30 (.build (.st (.cons (.int .u64) (.cons (.int .u64) .nil))) []),
  A1 31 (.mkif 74 (.c (.int .i64 42))),
  A0 (.store 2 (.t 8) (.t 30)),
  A1 9 (.mv (.t 31))])
 (.ret))) (.skip))))))))
 ((.seq (.reg [A1 32 (.mv (.t 10)),
  A1 33 (.fadr 0 (.t 4)),
  A1 34 (.load false 1 (.t 33)),
  A1 35 (.fadr 1 (.t 4)),
  A1 36 (.load false 1 (.t 35)),
  A1 37 (.ari .sub (.t 34) (.t 36)),
  A1 38 (.mm false (.t 32) (.t 37)),
  A1 39 (.mv (.t 3)),
  A1 40 (.build (.st (.cons (.int .u64) (.cons (.int .u64) .nil))) [(.f 0, 1, (.t 38)), (.f 1, 1, (.t 39))]),
  A0 (.store 2 (.t 8) (.t 40)),
  A1 9 (.mv (.c .nili))])
 (.ret))))))))
def f353 : LF := ⟨c353, 4, 0, 41, [.cell 8 true 2, .tmp 9]⟩

/-- (*moot/game.Game).before -/
def c354 : LC := (.seq (.reg [A1 3 (.box (.t 1)),
  A1 4 (.mv (.c (.int .u64 0)))])
 ((.seq ((.seq (.reg [A1 5 (.fadr 0 (.t 3)),
  A1 6 (.load false 1 (.t 5)),
  A1 7 (.ari .lss (.t 6) (.c (.int .i64 0)))])
 (.cond (.t 7) ((.seq (.reg [A1 4 (.mv (.c (.int .u64 0)))])
 (.ret))) (.skip))))
 ((.seq (.regd [⟨0, 0, A1 8 (.mv (.t 0))⟩,
  ⟨1, 1, A1 9 (.nilc (.t 8))⟩,
  ⟨2, 3, A1 10 (.fadr 36 (.t 9))⟩,
  ⟨3, 7, A1 11 (.load false 1 (.t 10))⟩,
  ⟨4, 0, A1 12 (.fadr 0 (.t 3))⟩,
  ⟨5, 16, A1 13 (.load false 1 (.t 12))⟩,
  ⟨6, 63, A1 14 (.isl 42 (.t 11) (.t 13))⟩,
  ⟨7, 127, A1 15 (.fadr 36 (.t 14))⟩,
  ⟨8, 255, A1 16 (.fadr 0 (.t 15))⟩,
  ⟨9, 511, A1 17 (.load false 1 (.t 16))⟩,
  ⟨10, 1023, A1 4 (.mv (.t 17))⟩])
 (.ret))))))
def f354 : LF := ⟨c354, 2, 0, 18, [.tmp 4]⟩

/-- (*moot/ledger.Ledger).take -/
def c355 : LC := (.seq (.reg [A1 6 (.mv (.c .nili))])
 ((.seq ((.seq (.reg [A1 8 (.mv (.t 0)),
  A1 9 (.mv (.t 1)),
  ⟨(some 10), .call 258 [(.t 8), (.t 9)], none⟩,
  A1 7 (.mv (.t 10))])
 ((.seq (.reg [A1 11 (.mv (.t 7)),
  A1 12 (.eq true true (.iface [74]) (.t 11) (.c .nili))])
 (.cond (.t 12) ((.seq (.reg [A1 13 (.mv (.t 7)),
  A1 6 (.mv (.t 13))])
 (.ret))) (.skip))))))
 ((.seq ((.seq (.reg [A1 14 (.mv (.t 0)),
  A1 15 (.mv (.t 1)),
  A1 16 (.nilc (.t 14)),
  A1 17 (.fadr 0 (.t 16)),
  A1 18 (.iarr 8 1 (.t 17) (.t 15)),
  A1 19 (.load false 1 (.t 18)),
  A1 20 (.mv (.t 2)),
  A1 21 (.ari .lss (.t 19) (.t 20))])
 (.cond (.t 21) ((.seq (.reg [A1 22 (.mkif 74 (.c (.int .i64 21))),
  A1 6 (.mv (.t 22))])
 (.ret))) (.skip))))
 ((.seq (.regd [⟨0, 0, A1 23 (.mv (.t 0))⟩,
  ⟨1, 0, A1 24 (.mv (.t 1))⟩,
  ⟨2, 1, A1 25 (.nilc (.t 23))⟩,
  ⟨3, 5, A1 26 (.fadr 0 (.t 25))⟩,
  ⟨4, 15, A1 27 (.iarr 8 1 (.t 26) (.t 24))⟩,
  ⟨5, 31, A1 28 (.load false 1 (.t 27))⟩,
  ⟨6, 0, A1 29 (.mv (.t 2))⟩,
  ⟨7, 127, A1 30 (.ari .sub (.t 28) (.t 29))⟩,
  ⟨8, 1, A1 31 (.nilc (.t 23))⟩,
  ⟨9, 257, A1 32 (.fadr 0 (.t 31))⟩,
  ⟨10, 1023, A1 33 (.iarr 8 1 (.t 32) (.t 24))⟩,
  ⟨11, 2047, A0 (.store 1 (.t 33) (.t 30))⟩])
 ((.seq (.reg [A1 6 (.mv (.c .nili))])
 (.ret))))))))))
def f355 : LF := ⟨c355, 3, 0, 34, [.tmp 6]⟩

/-- slices.IndexFunc[[]moot/game.Claim,moot/game.Claim] -/
def c452 : LC := (.seq (.reg [A1 4 (.mv (.c (.int .i64 0)))])
 ((.seq ((.seq (.reg [A1 6 (.mv (.t 0)),
  A1 7 (.len 0 (.t 6)),
  A1 8 (.mv (.c (.int .i64 0)))])
 (.block 0 (.loop ((.seq (.reg [A1 9 (.ari .lss (.t 8) (.t 7))])
 ((.seq (.cond (.t 9) (.skip) (.exit 0))
 ((.seq (.block 1 ((.seq (.reg [A1 10 (.mv (.t 8)),
  A1 5 (.mv (.t 10))])
 ((.seq (.reg [A1 11 (.mv (.t 1)),
  A1 12 (.mv (.t 0)),
  A1 13 (.mv (.t 5)),
  A1 14 (.isl 42 (.t 12) (.t 13)),
  A1 15 (.load true 42 (.t 14)),
  ⟨(some 16), .dyn (.t 11) [(.t 15)], none⟩])
 (.cond (.t 16) ((.seq (.reg [A1 17 (.mv (.t 5)),
  A1 4 (.mv (.t 17))])
 (.ret))) (.skip)))))))
 (.reg [A1 18 (.ari .add (.t 8) (.c (.int .i64 1))),
  A1 8 (.mv (.t 18))])))))))))))
 ((.seq (.reg [A1 4 (.mv (.c (.int .i64 (-1))))])
 (.ret))))))
def f452 : LF := ⟨c452, 2, 0, 19, [.tmp 4]⟩

/-- moot/clock.spent -/
def c453 : LC := (.seq (.reg [A1 4 (.box (.t 0)),
  A1 5 (.box (.t 1)),
  A1 8 (.mv (.c (.int .u64 0))),
  A1 9 (.mv (.c .nili))])
 ((.seq ((.seq (.reg [A1 11 (.load true 2 (.t 4)),
  ⟨(some 12), .call 249 [(.t 11)], none⟩,
  A1 10 (.mv (.t 12))])
 ((.seq (.reg [A1 13 (.mv (.t 10)),
  A1 14 (.eq true true (.iface [74]) (.t 13) (.c .nili))])
 (.cond (.t 14) ((.seq (.reg [A1 15 (.mv (.t 10)),
  A1 8 (.mv (.c (.int .u64 0))),
  A1 9 (.mv (.t 15))])
 (.ret))) (.skip))))))
 ((.seq (.reg [A1 16 (.load true 2 (.t 5)),
  A1 17 (.mv (.t 2)),
  A1 18 (.mv (.t 3)),
  ⟨(some 19), .call 487 [(.t 16), (.t 17), (.t 18)], none⟩,
  A1 20 (.ext (.t 19) 0),
  A1 21 (.ext (.t 19) 1),
  A1 8 (.mv (.t 20)),
  A1 9 (.mv (.t 21))])
 (.ret))))))
def f453 : LF := ⟨c453, 4, 0, 22, [.tmp 8, .tmp 9]⟩

/-- moot/clock.Spent -/
def c487 : LC := (.seq (.reg [A1 3 (.box (.t 0)),
  A1 6 (.mv (.c (.int .u64 0))),
  A1 7 (.mv (.c .nili))])
 ((.seq ((.seq (.reg [A1 8 (.mv (.t 2)),
  A1 9 (.fadr 1 (.t 3)),
  A1 10 (.load false 1 (.t 9)),
  A1 11 (.ari .lss (.t 8) (.t 10)),
  A1 12 (.mv (.t 11)),
  A2 13 12 false (.fadr 0 (.t 3)),
  A2 14 12 false (.load false 1 (.t 13)),
  A2 15 12 false (.fadr 1 (.t 3)),
  A2 16 12 false (.load false 1 (.t 15)),
  A2 17 12 false (.mv (.t 1)),
  A2 18 12 false (.mv (.t 2)),
  A2 19 12 false (.mm4 true (.t 14) (.t 16) (.t 17) (.t 18)),
  A2 20 12 false (.ari .gtr (.t 19) (.c (.int .u64 1099511627776))),
  A1 21 (.pick (.t 12) (.c (.bool true)) (.t 20))])
 (.cond (.t 21) ((.seq (.reg [A1 22 (.mkif 74 (.c (.int .i64 2))),
  A1 6 (.mv (.c (.int .u64 0))),
  A1 7 (.mv (.t 22))])
 (.ret))) (.skip))))
 ((.seq (.reg [A1 23 (.mv (.t 1)),
  A1 24 (.mv (.t 2)),
  A1 25 (.ari .add (.t 23) (.t 24)),
  A1 26 (.fadr 1 (.t 3)),
  A1 27 (.load false 1 (.t 26)),
  A1 28 (.ari .sub (.t 25) (.t 27)),
  A1 6 (.mv (.t 28)),
  A1 7 (.mv (.c .nili))])
 (.ret))))))
def f487 : LF := ⟨c487, 3, 0, 29, [.tmp 6, .tmp 7]⟩

end Mv
