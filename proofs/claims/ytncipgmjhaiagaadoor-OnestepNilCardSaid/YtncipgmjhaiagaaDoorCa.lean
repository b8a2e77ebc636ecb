/- A part of the tool. -/
import Derived.Test.YtncipgmjhaiagaaDoorT
set_option linter.unusedSimpArgs false
set_option linter.unusedVariables false
namespace Mv
open Go
/-- (*moot/vm.Machine).Copy -/
def c49 : LC := (.seq (.reg [A1 2 (.mv (.c .nilp))])
 ((.seq ((.seq (.reg [A1 4 (.mv (.t 0)),
  A1 5 (.eq false true .ptr (.t 4) (.c .nilp))])
 (.cond (.t 5) ((.seq (.reg [A1 2 (.mv (.c .nilp))])
 (.ret))) (.skip))))
 ((.seq (.reg [A1 6 (.mv (.t 0)),
  A1 7 (.nilc (.t 6)),
  A1 8 (.load true 8211 (.t 7)),
  A1 3 (.alloc (.st (.cons (.ar 8192 (.int .u64)) (.cons (.ar 16 (.int .u64)) (.cons (.int .u64) (.cons .bool (.cons (.int .u64) .nil))))))),
  A0 (.store 8211 (.t 3) (.t 8))])
 ((.seq (.reg [A1 2 (.mv (.t 3))])
 (.ret))))))))
def f49 : LF := ⟨c49, 1, 0, 9, [.tmp 2]⟩

/-- moot/commit.Prove -/
def c50 : LC := (.seq (.reg [A1 4 (.alloc (.st (.cons (.int .u64) (.cons .slice .nil)))),
  A1 5 (.mv (.c .nili))])
 ((.seq (.block 0 ((.seq (.reg [A1 9 (.mv (.t 0)),
  A1 10 (.eq false true .ptr (.t 9) (.c .nilp)),
  A1 8 (.mv (.t 10))])
 (.cond (.t 8) ((.seq (.reg [A1 11 (.build (.st (.cons (.int .u64) (.cons .slice .nil))) []),
  A1 12 (.mkif 74 (.c (.int .i64 1))),
  A0 (.store 2 (.t 4) (.t 11)),
  A1 5 (.mv (.t 12))])
 (.ret))) ((.seq (.reg [A1 14 (.mv (.t 1)),
  A1 15 (.ari .geq (.t 14) (.c (.int .u64 8192))),
  A1 13 (.mv (.t 15))])
 (.cond (.t 13) ((.seq (.reg [A1 16 (.build (.st (.cons (.int .u64) (.cons .slice .nil))) []),
  A1 17 (.mkif 74 (.c (.int .i64 2))),
  A0 (.store 2 (.t 4) (.t 16)),
  A1 5 (.mv (.t 17))])
 (.ret))) (.skip))))))))
 ((.seq (.reg [A1 19 (.mv (.t 0)),
  ⟨(some 20), .call 199 [(.t 19)], none⟩,
  A1 21 (.mv (.t 1)),
  A1 22 (.conv .i64 (.t 21)),
  ⟨(some 23), .call 198 [(.c (.int .i64 13)), (.t 20), (.t 22)], none⟩,
  A1 18 (.mv (.t 23)),
  A1 24 (.ext (.t 18) 0),
  A1 25 (.ext (.t 18) 1),
  A1 6 (.mv (.t 24)),
  A1 7 (.mv (.t 25))])
 ((.seq (.reg [A1 26 (.mv (.t 0)),
  A1 27 (.mv (.t 1)),
  A1 28 (.nilc (.t 26)),
  A1 29 (.fadr 0 (.t 28)),
  A1 30 (.iarr 8192 1 (.t 29) (.t 27)),
  A1 31 (.load false 1 (.t 30)),
  A1 32 (.mv (.t 6)),
  A1 33 (.build (.st (.cons (.int .u64) (.cons .slice .nil))) [(.f 0, 1, (.t 31)), (.f 1, 1, (.t 32))]),
  A1 34 (.mv (.t 7)),
  A0 (.store 2 (.t 4) (.t 33)),
  A1 5 (.mv (.t 34))])
 (.ret))))))))
def f50 : LF := ⟨c50, 2, 0, 35, [.cell 4 true 2, .tmp 5]⟩

/-- moot/commit.Root -/
def c51 : LC := (.seq (.reg [A1 2 (.alloc (.ar 32 (.int .u8))),
  A1 3 (.mv (.c .nili))])
 ((.seq ((.seq (.reg [A1 4 (.mv (.t 0)),
  A1 5 (.eq false true .ptr (.t 4) (.c .nilp))])
 (.cond (.t 5) ((.seq (.reg [A1 6 (.build (.ar 32 (.int .u8)) []),
  A1 7 (.mkif 74 (.c (.int .i64 1))),
  A0 (.store 32 (.t 2) (.t 6)),
  A1 3 (.mv (.t 7))])
 (.ret))) (.skip))))
 ((.seq (.reg [A1 8 (.mv (.t 0)),
  ⟨(some 9), .call 199 [(.t 8)], none⟩,
  ⟨(some 10), .call 200 [(.c (.int .i64 13)), (.t 9)], none⟩,
  A1 11 (.ext (.t 10) 0),
  A1 12 (.ext (.t 10) 1),
  A0 (.store 32 (.t 2) (.t 11)),
  A1 3 (.mv (.t 12))])
 (.ret))))))
def f51 : LF := ⟨c51, 1, 0, 13, [.cell 2 true 32, .tmp 3]⟩

/-- moot/commit.Write -/
def c52 : LC := (.seq (.reg [A1 4 (.box (.t 0)),
  A1 6 (.box (.t 2)),
  A1 8 (.alloc (.ar 32 (.int .u8))),
  A1 9 (.mv (.c .nili))])
 ((.seq (.reg [A1 13 (.load true 32 (.t 4)),
  A1 14 (.mv (.t 1)),
  A1 15 (.load true 2 (.t 6)),
  ⟨(some 16), .call 53 [(.t 13), (.t 14), (.t 15)], none⟩,
  A1 12 (.mv (.t 16)),
  A1 17 (.ext (.t 12) 0),
  A1 18 (.ext (.t 12) 1),
  A1 10 (.mv (.t 17)),
  A1 11 (.mv (.t 18))])
 ((.seq (.block 0 ((.seq (.reg [A1 20 (.mv (.t 11)),
  A1 21 (.eq true true (.iface [74]) (.t 20) (.c .nili)),
  A1 19 (.mv (.t 21))])
 (.cond (.t 19) ((.seq (.reg [A1 22 (.build (.ar 32 (.int .u8)) []),
  A1 23 (.mv (.t 11)),
  A0 (.store 32 (.t 8) (.t 22)),
  A1 9 (.mv (.t 23))])
 (.ret))) ((.seq (.reg [A1 25 (.mv (.t 10)),
  A1 26 (.un .not (.t 25)),
  A1 24 (.mv (.t 26))])
 (.cond (.t 24) ((.seq (.reg [A1 27 (.build (.ar 32 (.int .u8)) []),
  A1 28 (.mkif 74 (.c (.int .i64 31))),
  A0 (.store 32 (.t 8) (.t 27)),
  A1 9 (.mv (.t 28))])
 (.ret))) (.skip))))))))
 ((.seq (.regd [⟨2, 0, A1 31 (.mv (.t 3))⟩,
  ⟨3, 1, ⟨(some 32), .call 202 [(.t 31)], none⟩⟩,
  ⟨0, 0, A1 29 (.mv (.t 1))⟩,
  ⟨1, 4, A1 30 (.conv .i64 (.t 29))⟩,
  ⟨4, 0, A1 33 (.fadr 1 (.t 6))⟩,
  ⟨5, 16, A1 34 (.load false 1 (.t 33))⟩,
  ⟨6, 63, ⟨(some 35), .call 201 [(.t 30), (.t 32), (.t 34)], none⟩⟩,
  ⟨7, 127, A1 36 (.ext (.t 35) 0)⟩,
  ⟨8, 127, A1 37 (.ext (.t 35) 1)⟩,
  ⟨9, 511, A0 (.store 32 (.t 8) (.t 36))⟩,
  ⟨10, 1023, A1 9 (.mv (.t 37))⟩])
 (.ret))))))))
def f52 : LF := ⟨c52, 4, 0, 38, [.cell 8 true 32, .tmp 9]⟩

/-- moot/commit.Holds -/
def c53 : LC := (.seq (.reg [A1 3 (.box (.t 0)),
  A1 5 (.box (.t 2)),
  A1 6 (.mv (.c (.bool false))),
  A1 7 (.mv (.c .nili))])
 ((.seq (.block 0 ((.seq (.reg [A1 11 (.mv (.t 1)),
  A1 12 (.ari .geq (.t 11) (.c (.int .u64 8192))),
  A1 10 (.mv (.t 12))])
 (.cond (.t 10) ((.seq (.reg [A1 13 (.mkif 74 (.c (.int .i64 2))),
  A1 6 (.mv (.c (.bool false))),
  A1 7 (.mv (.t 13))])
 (.ret))) ((.seq (.reg [A1 15 (.fadr 1 (.t 5)),
  A1 16 (.load false 1 (.t 15)),
  A1 17 (.len 0 (.t 16)),
  A1 18 (.ari .neq (.t 17) (.c (.int .i64 13))),
  A1 14 (.mv (.t 18))])
 (.cond (.t 14) ((.seq (.reg [A1 19 (.mkif 74 (.c (.int .i64 3))),
  A1 6 (.mv (.c (.bool false))),
  A1 7 (.mv (.t 19))])
 (.ret))) (.skip))))))))
 ((.seq (.regd [⟨2, 0, A1 23 (.fadr 0 (.t 5))⟩,
  ⟨3, 1, A1 24 (.load false 1 (.t 23))⟩,
  ⟨4, 3, ⟨(some 25), .call 202 [(.t 24)], none⟩⟩,
  ⟨0, 0, A1 21 (.mv (.t 1))⟩,
  ⟨1, 8, A1 22 (.conv .i64 (.t 21))⟩,
  ⟨5, 0, A1 26 (.fadr 1 (.t 5))⟩,
  ⟨6, 32, A1 27 (.load false 1 (.t 26))⟩,
  ⟨7, 127, ⟨(some 28), .call 201 [(.t 22), (.t 25), (.t 27)], none⟩⟩,
  ⟨8, 255, A1 20 (.mv (.t 28))⟩,
  ⟨9, 511, A1 29 (.ext (.t 20) 0)⟩,
  ⟨11, 0, A1 8 (.alloc (.ar 32 (.int .u8)))⟩,
  ⟨12, 2047, A0 (.store 32 (.t 8) (.t 29))⟩,
  ⟨10, 511, A1 30 (.ext (.t 20) 1)⟩,
  ⟨13, 8191, A1 9 (.mv (.t 30))⟩])
 ((.seq (.reg [A1 31 (.load true 32 (.t 8)),
  A1 32 (.load true 32 (.t 3)),
  A1 33 (.eq false false (.ar 32 1 false .int) (.t 31) (.t 32)),
  A1 34 (.mv (.t 33)),
  A2 35 34 true (.mv (.t 9)),
  A2 36 34 true (.eq false true (.iface [74]) (.t 35) (.c .nili)),
  A1 37 (.pick (.t 34) (.t 36) (.c (.bool false))),
  A1 38 (.mv (.t 9)),
  A1 6 (.mv (.t 37)),
  A1 7 (.mv (.t 38))])
 (.ret))))))))
def f53 : LF := ⟨c53, 3, 0, 39, [.tmp 6, .tmp 7]⟩

/-- moot/vm.Load -/
def c74 : LC := (.seq (.reg [A1 2 (.mv (.c .nilp)),
  A1 3 (.mv (.c .nili))])
 ((.seq ((.seq (.reg [A1 5 (.mv (.t 0)),
  A1 6 (.len 0 (.t 5)),
  A1 7 (.ari .gtr (.t 6) (.c (.int .i64 8192)))])
 (.cond (.t 7) ((.seq (.reg [A1 8 (.mkif 74 (.c (.int .i64 5))),
  A1 2 (.mv (.c .nilp)),
  A1 3 (.mv (.t 8))])
 (.ret))) (.skip))))
 ((.seq (.reg [A1 9 (.build (.st (.cons (.ar 8192 (.int .u64)) (.cons (.ar 16 (.int .u64)) (.cons (.int .u64) (.cons .bool (.cons (.int .u64) .nil)))))) []),
  A1 10 (.box (.t 9)),
  A1 4 (.mv (.t 10))])
 ((.seq (.reg [A1 11 (.mv (.t 4)),
  A1 12 (.nilc (.t 11)),
  A1 13 (.fadr 0 (.t 12)),
  A1 14 (.slarr 8192 1 (.t 13) none none),
  A1 15 (.mv (.t 0)),
  A1 16 (.copy 1 (.t 14) (.t 15))])
 ((.seq (.reg [A1 17 (.mv (.t 4)),
  A1 2 (.mv (.t 17)),
  A1 3 (.mv (.c .nili))])
 (.ret))))))))))
def f74 : LF := ⟨c74, 1, 0, 18, [.tmp 2, .tmp 3]⟩

/-- moot/merkle.Zero -/
def c197 : LC := (.seq (.reg [A1 2 (.alloc (.ar 32 (.int .u8))),
  A1 3 (.mv (.c .nili))])
 ((.seq ((.seq (.reg [A1 4 (.mv (.t 0)),
  A1 5 (.ari .lss (.t 4) (.c (.int .i64 0))),
  A1 6 (.mv (.t 5)),
  A2 7 6 false (.mv (.t 0)),
  A2 8 6 false (.ari .gtr (.t 7) (.c (.int .i64 16))),
  A1 9 (.pick (.t 6) (.c (.bool true)) (.t 8))])
 (.cond (.t 9) ((.seq (.reg [A1 10 (.build (.ar 32 (.int .u8)) []),
  A1 11 (.mkif 74 (.c (.int .i64 2))),
  A0 (.store 32 (.t 2) (.t 10)),
  A1 3 (.mv (.t 11))])
 (.ret))) (.skip))))
 ((.seq (.reg [⟨(some 12), .call 315 [], none⟩,
  A1 13 (.mv (.t 0)),
  A1 14 (.idx 17 32 true (.t 12) (.t 13)),
  A0 (.store 32 (.t 2) (.t 14)),
  A1 3 (.mv (.c .nili))])
 (.ret))))))
def f197 : LF := ⟨c197, 1, 0, 15, [.cell 2 true 32, .tmp 3]⟩

/-- moot/merkle.Path -/
def c198 : LC := (.seq (.reg [A1 6 (.mv (.c .nils)),
  A1 7 (.mv (.c .nili))])
 ((.seq (.reg [A1 16 (.mv (.t 0)),
  A1 17 (.mv (.t 1)),
  ⟨(some 18), .call 316 [(.t 16), (.t 17)], none⟩,
  A1 15 (.mv (.t 18)),
  A1 19 (.ext (.t 15) 0),
  A1 20 (.ext (.t 15) 1),
  A1 21 (.ext (.t 15) 2),
  A1 9 (.alloc (.ar 17 (.ar 32 (.int .u8)))),
  A1 8 (.mv (.t 19)),
  A0 (.store 544 (.t 9) (.t 20)),
  A1 10 (.mv (.t 21))])
 ((.seq ((.seq (.reg [A1 22 (.mv (.t 10)),
  A1 23 (.eq true true (.iface [74]) (.t 22) (.c .nili))])
 (.cond (.t 23) ((.seq (.reg [A1 24 (.mv (.t 10)),
  A1 6 (.mv (.c .nils)),
  A1 7 (.mv (.t 24))])
 (.ret))) (.skip))))
 ((.seq ((.seq (.reg [A1 25 (.mv (.t 2)),
  A1 26 (.ari .lss (.t 25) (.c (.int .i64 0))),
  A1 27 (.mv (.t 26)),
  A2 28 27 false (.mv (.t 2)),
  A2 29 27 false (.mv (.t 0)),
  A2 30 27 false (.ari .shl (.c (.int .i64 1)) (.t 29)),
  A2 31 27 false (.ari .geq (.t 28) (.t 30)),
  A1 32 (.pick (.t 27) (.c (.bool true)) (.t 31))])
 (.cond (.t 32) ((.seq (.reg [A1 33 (.mkif 74 (.c (.int .i64 2))),
  A1 6 (.mv (.c .nils)),
  A1 7 (.mv (.t 33))])
 (.ret))) (.skip))))
 ((.seq (.reg [A1 11 (.mv (.c .nils))])
 ((.seq ((.seq (.reg [A1 34 (.mv (.t 0)),
  A1 35 (.mv (.c (.int .i64 0)))])
 (.block 0 (.loop ((.seq (.reg [A1 36 (.ari .lss (.t 35) (.t 34))])
 ((.seq (.cond (.t 36) (.skip) (.exit 0))
 ((.seq (.block 1 ((.seq (.reg [A1 37 (.mv (.t 35)),
  A1 12 (.mv (.t 37))])
 ((.seq (.reg [A1 38 (.mv (.t 12)),
  A1 39 (.iarr 17 32 (.t 9) (.t 38)),
  A1 40 (.load true 32 (.t 39)),
  A1 13 (.alloc (.ar 32 (.int .u8))),
  A0 (.store 32 (.t 13) (.t 40))])
 ((.seq ((.seq (.reg [A1 41 (.mv (.t 2)),
  A1 42 (.ari .xor (.t 41) (.c (.int .i64 1))),
  A1 14 (.mv (.t 42))])
 ((.seq (.reg [A1 43 (.mv (.t 14)),
  A1 44 (.mv (.t 8)),
  A1 45 (.mv (.t 12)),
  A1 46 (.isl 1 (.t 44) (.t 45)),
  A1 47 (.load false 1 (.t 46)),
  A1 48 (.len 0 (.t 47)),
  A1 49 (.ari .lss (.t 43) (.t 48))])
 (.cond (.t 49) (.reg [A1 50 (.mv (.t 8)),
  A1 51 (.mv (.t 12)),
  A1 52 (.isl 1 (.t 50) (.t 51)),
  A1 53 (.load false 1 (.t 52)),
  A1 54 (.mv (.t 14)),
  A1 55 (.isl 32 (.t 53) (.t 54)),
  A1 56 (.load true 32 (.t 55)),
  A0 (.store 32 (.t 13) (.t 56))]) (.skip))))))
 ((.seq (.reg [A1 57 (.mv (.t 11)),
  A1 58 (.load true 32 (.t 13)),
  A1 59 (.bsl 32 1 (.ar 32 (.int .u8)) [(.i 32 0, 32, (.t 58))]),
  A1 60 (.app 32 32 (.t 57) (.t 59)),
  A1 11 (.mv (.t 60))])
 (.reg [A1 61 (.mv (.t 2)),
  A1 62 (.ari .quo (.t 61) (.c (.int .i64 2))),
  A1 2 (.mv (.t 62))]))))))))))
 (.reg [A1 63 (.ari .add (.t 35) (.c (.int .i64 1))),
  A1 35 (.mv (.t 63))])))))))))))
 ((.seq (.reg [A1 64 (.mv (.t 11)),
  A1 6 (.mv (.t 64)),
  A1 7 (.mv (.c .nili))])
 (.ret))))))))))))))
def f198 : LF := ⟨c198, 3, 0, 65, [.tmp 6, .tmp 7]⟩

/-- moot/merkle.Root -/
def c200 : LC := (.seq (.reg [A1 4 (.alloc (.ar 32 (.int .u8))),
  A1 5 (.mv (.c .nili))])
 ((.seq (.reg [A1 10 (.mv (.t 0)),
  A1 11 (.mv (.t 1)),
  ⟨(some 12), .call 316 [(.t 10), (.t 11)], none⟩,
  A1 9 (.mv (.t 12)),
  A1 13 (.ext (.t 9) 0),
  A1 14 (.ext (.t 9) 1),
  A1 15 (.ext (.t 9) 2),
  A1 7 (.alloc (.ar 17 (.ar 32 (.int .u8)))),
  A1 6 (.mv (.t 13)),
  A0 (.store 544 (.t 7) (.t 14)),
  A1 8 (.mv (.t 15))])
 ((.seq (.block 0 ((.seq (.reg [A1 17 (.mv (.t 8)),
  A1 18 (.eq true true (.iface [74]) (.t 17) (.c .nili)),
  A1 16 (.mv (.t 18))])
 (.cond (.t 16) ((.seq (.reg [A1 19 (.build (.ar 32 (.int .u8)) []),
  A1 20 (.mv (.t 8)),
  A0 (.store 32 (.t 4) (.t 19)),
  A1 5 (.mv (.t 20))])
 (.ret))) ((.seq (.reg [A1 22 (.mv (.t 1)),
  A1 23 (.len 0 (.t 22)),
  A1 24 (.ari .eql (.t 23) (.c (.int .i64 0))),
  A1 21 (.mv (.t 24))])
 (.cond (.t 21) ((.seq (.reg [A1 25 (.mv (.t 0)),
  A1 26 (.iarr 17 32 (.t 7) (.t 25)),
  A1 27 (.load true 32 (.t 26)),
  A0 (.store 32 (.t 4) (.t 27)),
  A1 5 (.mv (.c .nili))])
 (.ret))) (.skip))))))))
 ((.seq (.reg [A1 28 (.mv (.t 6)),
  A1 29 (.mv (.t 0)),
  A1 30 (.isl 1 (.t 28) (.t 29)),
  A1 31 (.load false 1 (.t 30)),
  A1 32 (.isl 32 (.t 31) (.c (.int .i64 0))),
  A1 33 (.load true 32 (.t 32)),
  A0 (.store 32 (.t 4) (.t 33)),
  A1 5 (.mv (.c .nili))])
 (.ret))))))))
def f200 : LF := ⟨c200, 2, 0, 34, [.cell 4 true 32, .tmp 5]⟩

/-- moot/merkle.Fold -/
def c201 : LC := (.seq (.reg [A1 4 (.box (.t 1)),
  A1 6 (.alloc (.ar 32 (.int .u8))),
  A1 7 (.mv (.c .nili))])
 ((.seq ((.seq (.reg [A1 10 (.mv (.t 2)),
  A1 11 (.len 0 (.t 10)),
  A1 12 (.ari .gtr (.t 11) (.c (.int .i64 16))),
  A1 13 (.mv (.t 12)),
  A2 14 13 false (.mv (.t 0)),
  A2 15 13 false (.ari .lss (.t 14) (.c (.int .i64 0))),
  A1 16 (.pick (.t 13) (.c (.bool true)) (.t 15)),
  A1 17 (.mv (.t 16)),
  A2 18 17 false (.mv (.t 0)),
  A2 19 17 false (.mv (.t 2)),
  A2 20 17 false (.len 0 (.t 19)),
  A2 21 17 false (.ari .shl (.c (.int .i64 1)) (.t 20)),
  A2 22 17 false (.ari .geq (.t 18) (.t 21)),
  A1 23 (.pick (.t 17) (.c (.bool true)) (.t 22))])
 (.cond (.t 23) ((.seq (.reg [A1 24 (.build (.ar 32 (.int .u8)) []),
  A1 25 (.mkif 74 (.c (.int .i64 2))),
  A0 (.store 32 (.t 6) (.t 24)),
  A1 7 (.mv (.t 25))])
 (.ret))) (.skip))))
 ((.seq ((.seq (.reg [A1 26 (.mv (.t 2)),
  A1 27 (.len 0 (.t 26)),
  A1 28 (.mv (.c (.int .i64 0)))])
 (.block 0 (.loop ((.seq (.reg [A1 29 (.ari .lss (.t 28) (.t 27))])
 ((.seq (.cond (.t 29) (.skip) (.exit 0))
 ((.seq (.block 1 ((.seq (.reg [A1 30 (.isl 32 (.t 26) (.t 28)),
  A1 31 (.load true 32 (.t 30)),
  A1 9 (.alloc (.ar 32 (.int .u8))),
  A0 (.store 32 (.t 9) (.t 31))])
 ((.seq ((.seq (.reg [A1 32 (.mv (.t 0)),
  A1 33 (.ari .rem (.t 32) (.c (.int .i64 2))),
  A1 34 (.ari .eql (.t 33) (.c (.int .i64 0)))])
 (.cond (.t 34) (.reg [A1 35 (.load true 32 (.t 4)),
  A1 36 (.load true 32 (.t 9)),
  ⟨(some 37), .call 207 [(.t 35), (.t 36)], none⟩,
  A0 (.store 32 (.t 4) (.t 37))]) (.reg [A1 38 (.load true 32 (.t 9)),
  A1 39 (.load true 32 (.t 4)),
  ⟨(some 40), .call 207 [(.t 38), (.t 39)], none⟩,
  A0 (.store 32 (.t 4) (.t 40))]))))
 (.reg [A1 41 (.mv (.t 0)),
  A1 42 (.ari .quo (.t 41) (.c (.int .i64 2))),
  A1 0 (.mv (.t 42))]))))))
 (.reg [A1 43 (.ari .add (.t 28) (.c (.int .i64 1))),
  A1 28 (.mv (.t 43))])))))))))))
 ((.seq (.reg [A1 44 (.load true 32 (.t 4)),
  A0 (.store 32 (.t 6) (.t 44)),
  A1 7 (.mv (.c .nili))])
 (.ret))))))))
def f201 : LF := ⟨c201, 3, 0, 45, [.cell 6 true 32, .tmp 7]⟩

/-- moot/commit.leaves -/
def c199 : LC := (.seq (.reg [A1 2 (.mv (.c .nils))])
 ((.seq (.reg [A1 3 (.mv (.c (.int .i64 8192)))])
 ((.seq (.block 0 (.loop ((.seq ((.seq (.reg [A1 6 (.mv (.t 3)),
  A1 7 (.ari .gtr (.t 6) (.c (.int .i64 0))),
  A1 8 (.mv (.t 7)),
  A2 9 8 true (.mv (.t 0)),
  A2 10 8 true (.mv (.t 3)),
  A2 11 8 true (.ari .sub (.t 10) (.c (.int .i64 1))),
  A2 12 8 true (.nilc (.t 9)),
  A2 13 8 true (.fadr 0 (.t 12)),
  A2 14 8 true (.iarr 8192 1 (.t 13) (.t 11)),
  A2 15 8 true (.load false 1 (.t 14)),
  A2 16 8 true (.ari .eql (.t 15) (.c (.int .u64 0))),
  A1 17 (.pick (.t 8) (.t 16) (.c (.bool false)))])
 (.cond (.t 17) (.skip) (.exit 0))))
 (.block 1 (.reg [A1 18 (.mv (.t 3)),
  A1 19 (.ari .sub (.t 18) (.c (.int .i64 1))),
  A1 3 (.mv (.t 19))]))))))
 ((.seq (.reg [A1 20 (.mv (.t 3)),
  A1 21 (.mksl 32 32 (.ar 32 (.int .u8)) (.t 20) (.t 20)),
  A1 4 (.mv (.t 21))])
 ((.seq ((.seq (.reg [A1 22 (.mv (.t 4)),
  A1 23 (.len 0 (.t 22)),
  A1 24 (.mv (.c (.int .i64 0)))])
 (.block 2 (.loop ((.seq (.reg [A1 25 (.ari .lss (.t 24) (.t 23))])
 ((.seq (.cond (.t 25) (.skip) (.exit 2))
 ((.seq (.block 3 ((.seq (.reg [A1 26 (.mv (.t 24)),
  A1 5 (.mv (.t 26))])
 (.reg [A1 27 (.mv (.t 4)),
  A1 28 (.mv (.t 5)),
  A1 29 (.mv (.t 0)),
  A1 30 (.mv (.t 5)),
  A1 31 (.nilc (.t 29)),
  A1 32 (.fadr 0 (.t 31)),
  A1 33 (.iarr 8192 1 (.t 32) (.t 30)),
  A1 34 (.load false 1 (.t 33)),
  ⟨(some 35), .call 202 [(.t 34)], none⟩,
  A1 36 (.isl 32 (.t 27) (.t 28)),
  A0 (.store 32 (.t 36) (.t 35))]))))
 (.reg [A1 37 (.ari .add (.t 24) (.c (.int .i64 1))),
  A1 24 (.mv (.t 37))])))))))))))
 ((.seq (.reg [A1 38 (.mv (.t 4)),
  A1 2 (.mv (.t 38))])
 (.ret))))))))))))
def f199 : LF := ⟨c199, 1, 0, 39, [.tmp 2]⟩

/-- moot/commit.leaf -/
def c202 : LC := (.seq (.reg [A1 2 (.alloc (.ar 32 (.int .u8)))])
 ((.seq (.reg [A1 3 (.alloc (.ar 32 (.int .u8)))])
 ((.seq (.reg [A1 4 (.slarr 32 1 (.t 3) (some (.c (.int .i64 24))) none),
  A1 5 (.mv (.t 0)),
  ⟨(some 6), .call 312 [(.t 4), (.t 5)], none⟩])
 ((.seq (.reg [A1 7 (.load true 32 (.t 3)),
  A0 (.store 32 (.t 2) (.t 7))])
 (.ret))))))))
def f202 : LF := ⟨c202, 1, 0, 8, [.cell 2 true 32]⟩

/-- moot/keccak.Pair -/
def c207 : LC := (.seq (.reg [A1 2 (.box (.t 0)),
  A1 3 (.box (.t 1)),
  A1 4 (.alloc (.ar 32 (.int .u8)))])
 ((.seq (.reg [A1 5 (.alloc (.ar 136 (.int .u8)))])
 ((.seq (.regd [⟨0, 0, A1 6 (.slarr 136 1 (.t 5) none none)⟩,
  ⟨1, 0, A1 7 (.slarr 32 1 (.t 2) none none)⟩,
  ⟨2, 3, A1 8 (.copy 1 (.t 6) (.t 7))⟩])
 ((.seq (.regd [⟨0, 0, A1 9 (.slarr 136 1 (.t 5) (some (.c (.int .i64 32))) none)⟩,
  ⟨1, 0, A1 10 (.slarr 32 1 (.t 3) none none)⟩,
  ⟨2, 3, A1 11 (.copy 1 (.t 9) (.t 10))⟩])
 ((.seq (.reg [A1 12 (.iarr 136 1 (.t 5) (.c (.int .i64 64))),
  A0 (.store 1 (.t 12) (.c (.int .u8 1))),
  A1 13 (.iarr 136 1 (.t 5) (.c (.int .i64 135))),
  A0 (.store 1 (.t 13) (.c (.int .u8 128)))])
 ((.seq (.reg [A1 14 (.build (.ar 25 (.int .u64)) []),
  A1 15 (.slarr 136 1 (.t 5) none none),
  ⟨(some 16), .call 318 [(.t 14), (.t 15)], none⟩,
  ⟨(some 17), .call 317 [(.t 16)], none⟩,
  A0 (.store 32 (.t 4) (.t 17))])
 (.ret))))))))))))
def f207 : LF := ⟨c207, 2, 0, 18, [.cell 4 true 32]⟩

/-- moot/merkle.noughts -/
def c315 : LC := (.seq (.reg [A1 0 (.alloc (.ar 17 (.ar 32 (.int .u8))))])
 ((.seq (.reg [A1 1 (.alloc (.ar 17 (.ar 32 (.int .u8))))])
 ((.seq ((.seq (.reg [A1 2 (.mv (.c (.int .i64 1)))])
 (.block 0 (.loop ((.seq ((.seq (.reg [A1 3 (.mv (.t 2)),
  A1 4 (.ari .leq (.t 3) (.c (.int .i64 16)))])
 (.cond (.t 4) (.skip) (.exit 0))))
 ((.seq (.block 1 (.regd [⟨1, 0, A1 8 (.mv (.t 2))⟩,
  ⟨2, 1, A1 9 (.ari .sub (.t 8) (.c (.int .i64 1)))⟩,
  ⟨3, 3, A1 10 (.iarr 17 32 (.t 1) (.t 9))⟩,
  ⟨4, 7, A1 11 (.load true 32 (.t 10))⟩,
  ⟨5, 0, A1 12 (.mv (.t 2))⟩,
  ⟨6, 16, A1 13 (.ari .sub (.t 12) (.c (.int .i64 1)))⟩,
  ⟨7, 48, A1 14 (.iarr 17 32 (.t 1) (.t 13))⟩,
  ⟨8, 112, A1 15 (.load true 32 (.t 14))⟩,
  ⟨9, 255, ⟨(some 16), .call 207 [(.t 11), (.t 15)], none⟩⟩,
  ⟨0, 0, A1 7 (.mv (.t 2))⟩,
  ⟨10, 1023, A1 17 (.iarr 17 32 (.t 1) (.t 7))⟩,
  ⟨11, 2047, A0 (.store 32 (.t 17) (.t 16))⟩]))
 (.reg [A1 5 (.mv (.t 2)),
  A1 6 (.ari .add (.t 5) (.c (.int .i64 1))),
  A1 2 (.mv (.t 6))])))))))))
 ((.seq (.reg [A1 18 (.load true 544 (.t 1)),
  A0 (.store 544 (.t 0) (.t 18))])
 (.ret))))))))
def f315 : LF := ⟨c315, 0, 0, 19, [.cell 0 true 544]⟩

/-- moot/merkle.levels -/
def c316 : LC := (.seq (.reg [A1 4 (.mv (.c .nils)),
  A1 5 (.alloc (.ar 17 (.ar 32 (.int .u8)))),
  A1 6 (.mv (.c .nili))])
 ((.seq (.reg [⟨(some 14), .call 315 [], none⟩,
  A1 7 (.alloc (.ar 17 (.ar 32 (.int .u8)))),
  A0 (.store 544 (.t 7) (.t 14))])
 ((.seq (.block 0 ((.seq (.reg [A1 16 (.mv (.t 0)),
  A1 17 (.ari .lss (.t 16) (.c (.int .i64 0))),
  A1 18 (.mv (.t 17)),
  A2 19 18 false (.mv (.t 0)),
  A2 20 18 false (.ari .gtr (.t 19) (.c (.int .i64 16))),
  A1 21 (.pick (.t 18) (.c (.bool true)) (.t 20)),
  A1 15 (.mv (.t 21))])
 (.cond (.t 15) ((.seq (.regd [⟨0, 0, A1 22 (.load true 544 (.t 7))⟩,
  ⟨2, 0, A1 4 (.mv (.c .nils))⟩,
  ⟨3, 3, A0 (.store 544 (.t 5) (.t 22))⟩,
  ⟨1, 0, A1 23 (.mkif 74 (.c (.int .i64 2)))⟩,
  ⟨4, 15, A1 6 (.mv (.t 23))⟩])
 (.ret))) ((.seq (.reg [A1 25 (.mv (.t 1)),
  A1 26 (.len 0 (.t 25)),
  A1 27 (.mv (.t 0)),
  A1 28 (.ari .shl (.c (.int .i64 1)) (.t 27)),
  A1 29 (.ari .gtr (.t 26) (.t 28)),
  A1 24 (.mv (.t 29))])
 (.cond (.t 24) ((.seq (.regd [⟨0, 0, A1 30 (.load true 544 (.t 7))⟩,
  ⟨2, 0, A1 4 (.mv (.c .nils))⟩,
  ⟨3, 3, A0 (.store 544 (.t 5) (.t 30))⟩,
  ⟨1, 0, A1 31 (.mkif 74 (.c (.int .i64 5)))⟩,
  ⟨4, 15, A1 6 (.mv (.t 31))⟩])
 (.ret))) (.skip))))))))
 ((.seq (.reg [A1 32 (.mv (.t 1)),
  A1 33 (.bsl 1 1 .slice [(.i 1 0, 1, (.t 32))]),
  A1 8 (.mv (.t 33))])
 ((.seq ((.seq (.reg [A1 34 (.mv (.t 0)),
  A1 35 (.mv (.c (.int .i64 0)))])
 (.block 1 (.loop ((.seq (.reg [A1 36 (.ari .lss (.t 35) (.t 34))])
 ((.seq (.cond (.t 36) (.skip) (.exit 1))
 ((.seq (.block 2 ((.seq (.reg [A1 37 (.mv (.t 35)),
  A1 9 (.mv (.t 37))])
 ((.seq (.reg [A1 10 (.mv (.c .nils))])
 ((.seq (.reg [A1 38 (.mv (.t 8)),
  A1 39 (.mv (.t 9)),
  A1 40 (.isl 1 (.t 38) (.t 39)),
  A1 41 (.load false 1 (.t 40)),
  A1 11 (.mv (.t 41))])
 ((.seq ((.seq (.reg [A1 12 (.mv (.c (.int .i64 0)))])
 (.block 3 (.loop ((.seq ((.seq (.reg [A1 42 (.mv (.t 12)),
  A1 43 (.mv (.t 11)),
  A1 44 (.len 0 (.t 43)),
  A1 45 (.ari .lss (.t 42) (.t 44))])
 (.cond (.t 45) (.skip) (.exit 3))))
 ((.seq (.block 4 ((.seq (.reg [A1 48 (.mv (.t 9)),
  A1 49 (.iarr 17 32 (.t 7) (.t 48)),
  A1 50 (.load true 32 (.t 49)),
  A1 13 (.alloc (.ar 32 (.int .u8))),
  A0 (.store 32 (.t 13) (.t 50))])
 ((.seq ((.seq (.reg [A1 51 (.mv (.t 12)),
  A1 52 (.ari .add (.t 51) (.c (.int .i64 1))),
  A1 53 (.mv (.t 11)),
  A1 54 (.len 0 (.t 53)),
  A1 55 (.ari .lss (.t 52) (.t 54))])
 (.cond (.t 55) (.reg [A1 56 (.mv (.t 11)),
  A1 57 (.mv (.t 12)),
  A1 58 (.ari .add (.t 57) (.c (.int .i64 1))),
  A1 59 (.isl 32 (.t 56) (.t 58)),
  A1 60 (.load true 32 (.t 59)),
  A0 (.store 32 (.t 13) (.t 60))]) (.skip))))
 ((.seq (.regd [⟨0, 0, A1 61 (.mv (.t 11))⟩,
  ⟨1, 0, A1 62 (.mv (.t 12))⟩,
  ⟨2, 3, A1 63 (.isl 32 (.t 61) (.t 62))⟩,
  ⟨3, 7, A1 64 (.load true 32 (.t 63))⟩,
  ⟨4, 0, A1 65 (.mv (.t 9))⟩,
  ⟨5, 16, A1 66 (.iarr 17 32 (.t 7) (.t 65))⟩,
  ⟨6, 48, A1 67 (.load true 32 (.t 66))⟩,
  ⟨7, 127, A1 68 (.eq false false (.ar 32 1 false .int) (.t 64) (.t 67))⟩,
  ⟨8, 255, A1 69 (.mv (.t 68))⟩,
  ⟨9, 511, A2 70 69 true (.load true 32 (.t 13))⟩,
  ⟨10, 511, A2 71 69 true (.mv (.t 9))⟩,
  ⟨11, 1535, A2 72 69 true (.iarr 17 32 (.t 7) (.t 71))⟩,
  ⟨12, 3583, A2 73 69 true (.load true 32 (.t 72))⟩,
  ⟨13, 8191, A2 74 69 true (.eq false false (.ar 32 1 false .int) (.t 70) (.t 73))⟩,
  ⟨14, 16383, A1 75 (.pick (.t 69) (.t 74) (.c (.bool false)))⟩])
 (.cond (.t 75) (.reg [A1 76 (.mv (.t 10)),
  A1 77 (.mv (.t 9)),
  A1 78 (.ari .add (.t 77) (.c (.int .i64 1))),
  A1 79 (.iarr 17 32 (.t 7) (.t 78)),
  A1 80 (.load true 32 (.t 79)),
  A1 81 (.bsl 32 1 (.ar 32 (.int .u8)) [(.i 32 0, 32, (.t 80))]),
  A1 82 (.app 32 32 (.t 76) (.t 81)),
  A1 10 (.mv (.t 82))]) (.regd [⟨1, 0, A1 84 (.mv (.t 11))⟩,
  ⟨2, 0, A1 85 (.mv (.t 12))⟩,
  ⟨3, 3, A1 86 (.isl 32 (.t 84) (.t 85))⟩,
  ⟨4, 7, A1 87 (.load true 32 (.t 86))⟩,
  ⟨5, 0, A1 88 (.load true 32 (.t 13))⟩,
  ⟨6, 31, ⟨(some 89), .call 207 [(.t 87), (.t 88)], none⟩⟩,
  ⟨0, 0, A1 83 (.mv (.t 10))⟩,
  ⟨7, 63, A1 90 (.bsl 32 1 (.ar 32 (.int .u8)) [(.i 32 0, 32, (.t 89))])⟩,
  ⟨8, 255, A1 91 (.app 32 32 (.t 83) (.t 90))⟩,
  ⟨9, 511, A1 10 (.mv (.t 91))⟩])))))))))
 (.reg [A1 46 (.mv (.t 12)),
  A1 47 (.ari .add (.t 46) (.c (.int .i64 2))),
  A1 12 (.mv (.t 47))])))))))))
 (.reg [A1 92 (.mv (.t 8)),
  A1 93 (.mv (.t 10)),
  A1 94 (.bsl 1 1 .slice [(.i 1 0, 1, (.t 93))]),
  A1 95 (.app 1 24 (.t 92) (.t 94)),
  A1 8 (.mv (.t 95))]))))))))))
 (.reg [A1 96 (.ari .add (.t 35) (.c (.int .i64 1))),
  A1 35 (.mv (.t 96))])))))))))))
 ((.seq (.regd [⟨0, 0, A1 97 (.mv (.t 8))⟩,
  ⟨1, 0, A1 98 (.load true 544 (.t 7))⟩,
  ⟨2, 1, A1 4 (.mv (.t 97))⟩,
  ⟨3, 7, A0 (.store 544 (.t 5) (.t 98))⟩,
  ⟨4, 15, A1 6 (.mv (.c .nili))⟩])
 (.ret))))))))))))
def f316 : LF := ⟨c316, 2, 0, 99, [.tmp 4, .cell 5 true 544, .tmp 6]⟩

/-- moot/keccak.digest -/
def c317 : LC := (.seq (.reg [A1 1 (.box (.t 0)),
  A1 2 (.alloc (.ar 32 (.int .u8)))])
 ((.seq (.reg [A1 3 (.alloc (.ar 32 (.int .u8)))])
 ((.seq ((.seq (.reg [A1 5 (.mv (.c (.int .i64 0)))])
 (.block 0 (.loop ((.seq (.reg [A1 6 (.ari .lss (.t 5) (.c (.int .i64 32)))])
 ((.seq (.cond (.t 6) (.skip) (.exit 0))
 ((.seq (.block 1 ((.seq (.reg [A1 7 (.mv (.t 5)),
  A1 4 (.mv (.t 7))])
 (.reg [A1 8 (.mv (.t 4)),
  A1 9 (.mv (.t 4)),
  A1 10 (.ari .quo (.t 9) (.c (.int .i64 8))),
  A1 11 (.iarr 25 1 (.t 1) (.t 10)),
  A1 12 (.load false 1 (.t 11)),
  A1 13 (.mv (.t 4)),
  A1 14 (.ari .rem (.t 13) (.c (.int .i64 8))),
  A1 15 (.ari .mul (.c (.int .i64 8)) (.t 14)),
  A1 16 (.ari .shr (.t 12) (.t 15)),
  A1 17 (.conv .u8 (.t 16)),
  A1 18 (.iarr 32 1 (.t 3) (.t 8)),
  A0 (.store 1 (.t 18) (.t 17))]))))
 (.reg [A1 19 (.ari .add (.t 5) (.c (.int .i64 1))),
  A1 5 (.mv (.t 19))])))))))))))
 ((.seq (.reg [A1 20 (.load true 32 (.t 3)),
  A0 (.store 32 (.t 2) (.t 20))])
 (.ret))))))))
def f317 : LF := ⟨c317, 1, 0, 21, [.cell 2 true 32]⟩

/-- moot/keccak.absorbed -/
def c318 : LC := (.seq (.reg [A1 2 (.box (.t 0)),
  A1 4 (.alloc (.ar 25 (.int .u64)))])
 ((.seq ((.seq (.reg [A1 8 (.mv (.c (.int .i64 0)))])
 (.block 0 (.loop ((.seq (.reg [A1 9 (.ari .lss (.t 8) (.c (.int .i64 17)))])
 ((.seq (.cond (.t 9) (.skip) (.exit 0))
 ((.seq (.block 1 ((.seq (.reg [A1 10 (.mv (.t 8)),
  A1 5 (.mv (.t 10))])
 ((.seq (.reg [A1 11 (.mv (.t 1)),
  A1 12 (.mv (.t 5)),
  A1 13 (.ari .mul (.c (.int .i64 8)) (.t 12)),
  A1 14 (.mv (.t 5)),
  A1 15 (.ari .mul (.c (.int .i64 8)) (.t 14)),
  A1 16 (.ari .add (.t 15) (.c (.int .i64 8))),
  A1 17 (.slsl 1 (.t 11) (some (.t 13)) (some (.t 16))),
  A1 18 (.len 0 (.t 17)),
  A1 19 (.mv (.c (.int .i64 0)))])
 (.block 2 (.loop ((.seq (.reg [A1 20 (.ari .lss (.t 19) (.t 18))])
 ((.seq (.cond (.t 20) (.skip) (.exit 2))
 ((.seq (.block 3 ((.seq (.reg [A1 21 (.mv (.t 19)),
  A1 22 (.isl 1 (.t 17) (.t 19)),
  A1 23 (.load false 1 (.t 22)),
  A1 6 (.mv (.t 21)),
  A1 7 (.mv (.t 23))])
 (.regd [⟨0, 0, A1 24 (.mv (.t 5))⟩,
  ⟨1, 1, A1 25 (.iarr 25 1 (.t 2) (.t 24))⟩,
  ⟨2, 3, A1 26 (.load false 1 (.t 25))⟩,
  ⟨3, 0, A1 27 (.mv (.t 7))⟩,
  ⟨4, 8, A1 28 (.conv .u64 (.t 27))⟩,
  ⟨5, 0, A1 29 (.mv (.t 6))⟩,
  ⟨6, 32, A1 30 (.ari .mul (.c (.int .i64 8)) (.t 29))⟩,
  ⟨7, 120, A1 31 (.ari .shl (.t 28) (.t 30))⟩,
  ⟨8, 255, A1 32 (.ari .xor (.t 26) (.t 31))⟩,
  ⟨9, 511, A1 33 (.iarr 25 1 (.t 2) (.t 24))⟩,
  ⟨10, 1023, A0 (.store 1 (.t 33) (.t 32))⟩]))))
 (.reg [A1 34 (.ari .add (.t 19) (.c (.int .i64 1))),
  A1 19 (.mv (.t 34))]))))))))))))))
 (.reg [A1 35 (.ari .add (.t 8) (.c (.int .i64 1))),
  A1 8 (.mv (.t 35))])))))))))))
 ((.seq (.reg [A1 36 (.load true 25 (.t 2)),
  ⟨(some 37), .call 417 [(.t 36)], none⟩,
  A0 (.store 25 (.t 4) (.t 37))])
 (.ret))))))
def f318 : LF := ⟨c318, 2, 0, 38, [.cell 4 true 25]⟩

/-- moot/octets.Put -/
def c312 : LC := (.seq (.reg [A1 5 (.mv (.c (.int .i64 0)))])
 (.block 0 (.loop ((.seq (.reg [A1 6 (.ari .lss (.t 5) (.c (.int .i64 8)))])
 ((.seq (.cond (.t 6) (.skip) (.exit 0))
 ((.seq (.block 1 ((.seq (.reg [A1 7 (.mv (.t 5)),
  A1 4 (.mv (.t 7))])
 (.reg [A1 8 (.mv (.t 0)),
  A1 9 (.mv (.t 4)),
  A1 10 (.mv (.t 1)),
  A1 11 (.mv (.t 4)),
  A1 12 (.ari .mul (.c (.int .i64 8)) (.t 11)),
  A1 13 (.ari .sub (.c (.int .i64 56)) (.t 12)),
  A1 14 (.ari .shr (.t 10) (.t 13)),
  A1 15 (.conv .u8 (.t 14)),
  A1 16 (.isl 1 (.t 8) (.t 9)),
  A0 (.store 1 (.t 16) (.t 15))]))))
 (.reg [A1 17 (.ari .add (.t 5) (.c (.int .i64 1))),
  A1 5 (.mv (.t 17))]))))))))))
def f312 : LF := ⟨c312, 2, 0, 18, []⟩

/-- moot/keccak.Permute -/
def c417 : LC := (.seq (.reg [A1 1 (.box (.t 0)),
  A1 2 (.alloc (.ar 25 (.int .u64)))])
 ((.seq ((.seq (.reg [A1 27 (.load true 24 (.g 1)),
  A1 28 (.mv (.c (.int .i64 0)))])
 (.block 0 (.loop ((.seq (.reg [A1 29 (.ari .lss (.t 28) (.c (.int .i64 24)))])
 ((.seq (.cond (.t 29) (.skip) (.exit 0))
 ((.seq (.block 1 ((.seq (.reg [A1 30 (.idx 24 1 false (.t 27) (.t 28)),
  A1 4 (.mv (.t 30))])
 ((.seq (.regd [⟨0, 0, A1 31 (.iarr 25 1 (.t 1) (.c (.int .i64 0)))⟩,
  ⟨1, 1, A1 32 (.load false 1 (.t 31))⟩,
  ⟨2, 0, A1 33 (.iarr 25 1 (.t 1) (.c (.int .i64 5)))⟩,
  ⟨3, 4, A1 34 (.load false 1 (.t 33))⟩,
  ⟨4, 15, A1 35 (.ari .xor (.t 32) (.t 34))⟩,
  ⟨5, 0, A1 36 (.iarr 25 1 (.t 1) (.c (.int .i64 10)))⟩,
  ⟨6, 32, A1 37 (.load false 1 (.t 36))⟩,
  ⟨7, 127, A1 38 (.ari .xor (.t 35) (.t 37))⟩,
  ⟨8, 0, A1 39 (.iarr 25 1 (.t 1) (.c (.int .i64 15)))⟩,
  ⟨9, 256, A1 40 (.load false 1 (.t 39))⟩,
  ⟨10, 1023, A1 41 (.ari .xor (.t 38) (.t 40))⟩,
  ⟨11, 0, A1 42 (.iarr 25 1 (.t 1) (.c (.int .i64 20)))⟩,
  ⟨12, 2048, A1 43 (.load false 1 (.t 42))⟩,
  ⟨13, 8191, A1 44 (.ari .xor (.t 41) (.t 43))⟩,
  ⟨14, 0, A1 45 (.iarr 25 1 (.t 1) (.c (.int .i64 1)))⟩,
  ⟨15, 16384, A1 46 (.load false 1 (.t 45))⟩,
  ⟨16, 0, A1 47 (.iarr 25 1 (.t 1) (.c (.int .i64 6)))⟩,
  ⟨17, 65536, A1 48 (.load false 1 (.t 47))⟩,
  ⟨18, 245760, A1 49 (.ari .xor (.t 46) (.t 48))⟩,
  ⟨19, 0, A1 50 (.iarr 25 1 (.t 1) (.c (.int .i64 11)))⟩,
  ⟨20, 524288, A1 51 (.load false 1 (.t 50))⟩,
  ⟨21, 2080768, A1 52 (.ari .xor (.t 49) (.t 51))⟩,
  ⟨22, 0, A1 53 (.iarr 25 1 (.t 1) (.c (.int .i64 16)))⟩,
  ⟨23, 4194304, A1 54 (.load false 1 (.t 53))⟩,
  ⟨24, 16760832, A1 55 (.ari .xor (.t 52) (.t 54))⟩,
  ⟨25, 0, A1 56 (.iarr 25 1 (.t 1) (.c (.int .i64 21)))⟩,
  ⟨26, 33554432, A1 57 (.load false 1 (.t 56))⟩,
  ⟨27, 134201344, A1 58 (.ari .xor (.t 55) (.t 57))⟩,
  ⟨28, 0, A1 59 (.iarr 25 1 (.t 1) (.c (.int .i64 2)))⟩,
  ⟨29, 268435456, A1 60 (.load false 1 (.t 59))⟩,
  ⟨30, 0, A1 61 (.iarr 25 1 (.t 1) (.c (.int .i64 7)))⟩,
  ⟨31, 1073741824, A1 62 (.load false 1 (.t 61))⟩,
  ⟨32, 4026531840, A1 63 (.ari .xor (.t 60) (.t 62))⟩,
  ⟨33, 0, A1 64 (.iarr 25 1 (.t 1) (.c (.int .i64 12)))⟩,
  ⟨34, 8589934592, A1 65 (.load false 1 (.t 64))⟩,
  ⟨35, 34091302912, A1 66 (.ari .xor (.t 63) (.t 65))⟩,
  ⟨36, 0, A1 67 (.iarr 25 1 (.t 1) (.c (.int .i64 17)))⟩,
  ⟨37, 68719476736, A1 68 (.load false 1 (.t 67))⟩,
  ⟨38, 274609471488, A1 69 (.ari .xor (.t 66) (.t 68))⟩,
  ⟨39, 0, A1 70 (.iarr 25 1 (.t 1) (.c (.int .i64 22)))⟩,
  ⟨40, 549755813888, A1 71 (.load false 1 (.t 70))⟩,
  ⟨41, 2198754820096, A1 72 (.ari .xor (.t 69) (.t 71))⟩,
  ⟨42, 0, A1 73 (.iarr 25 1 (.t 1) (.c (.int .i64 3)))⟩,
  ⟨43, 4398046511104, A1 74 (.load false 1 (.t 73))⟩,
  ⟨44, 0, A1 75 (.iarr 25 1 (.t 1) (.c (.int .i64 8)))⟩,
  ⟨45, 17592186044416, A1 76 (.load false 1 (.t 75))⟩,
  ⟨46, 65970697666560, A1 77 (.ari .xor (.t 74) (.t 76))⟩,
  ⟨47, 0, A1 78 (.iarr 25 1 (.t 1) (.c (.int .i64 13)))⟩,
  ⟨48, 140737488355328, A1 79 (.load false 1 (.t 78))⟩,
  ⟨49, 558551906910208, A1 80 (.ari .xor (.t 77) (.t 79))⟩,
  ⟨50, 0, A1 81 (.iarr 25 1 (.t 1) (.c (.int .i64 18)))⟩,
  ⟨51, 1125899906842624, A1 82 (.load false 1 (.t 81))⟩,
  ⟨52, 4499201580859392, A1 83 (.ari .xor (.t 80) (.t 82))⟩,
  ⟨53, 0, A1 84 (.iarr 25 1 (.t 1) (.c (.int .i64 23)))⟩,
  ⟨54, 9007199254740992, A1 85 (.load false 1 (.t 84))⟩,
  ⟨55, 36024398972452864, A1 86 (.ari .xor (.t 83) (.t 85))⟩,
  ⟨56, 0, A1 87 (.iarr 25 1 (.t 1) (.c (.int .i64 4)))⟩,
  ⟨57, 72057594037927936, A1 88 (.load false 1 (.t 87))⟩,
  ⟨58, 0, A1 89 (.iarr 25 1 (.t 1) (.c (.int .i64 9)))⟩,
  ⟨59, 288230376151711744, A1 90 (.load false 1 (.t 89))⟩,
  ⟨60, 1080863910568919040, A1 91 (.ari .xor (.t 88) (.t 90))⟩,
  ⟨61, 0, A1 92 (.iarr 25 1 (.t 1) (.c (.int .i64 14)))⟩,
  ⟨62, 2305843009213693952, A1 93 (.load false 1 (.t 92))⟩,
  ⟨63, 9151314442816847872, A1 94 (.ari .xor (.t 91) (.t 93))⟩,
  ⟨64, 0, A1 95 (.iarr 25 1 (.t 1) (.c (.int .i64 19)))⟩,
  ⟨65, 18446744073709551616, A1 96 (.load false 1 (.t 95))⟩,
  ⟨66, 73714918700800278528, A1 97 (.ari .xor (.t 94) (.t 96))⟩,
  ⟨67, 0, A1 98 (.iarr 25 1 (.t 1) (.c (.int .i64 24)))⟩,
  ⟨68, 147573952589676412928, A1 99 (.load false 1 (.t 98))⟩,
  ⟨69, 590223752764667723776, A1 100 (.ari .xor (.t 97) (.t 99))⟩,
  ⟨70, 16383, A1 5 (.mv (.t 44))⟩,
  ⟨71, 1180591620717679738879, A1 6 (.mv (.t 58))⟩,
  ⟨72, 3541774866550280421375, A1 7 (.mv (.t 72))⟩,
  ⟨73, 8264213402615917051903, A1 8 (.mv (.t 86))⟩,
  ⟨74, 18889465931478580854783, A1 9 (.mv (.t 100))⟩])
 ((.seq (.reg [A1 101 (.mv (.t 9)),
  A1 102 (.mv (.t 6)),
  ⟨(some 103), .call 462 [(.t 102), (.c (.int .i64 1))], none⟩,
  A1 104 (.ari .xor (.t 101) (.t 103)),
  A1 105 (.mv (.t 5)),
  A1 106 (.mv (.t 7)),
  ⟨(some 107), .call 462 [(.t 106), (.c (.int .i64 1))], none⟩,
  A1 108 (.ari .xor (.t 105) (.t 107)),
  A1 109 (.mv (.t 6)),
  A1 110 (.mv (.t 8)),
  ⟨(some 111), .call 462 [(.t 110), (.c (.int .i64 1))], none⟩,
  A1 112 (.ari .xor (.t 109) (.t 111)),
  A1 113 (.mv (.t 7)),
  A1 114 (.mv (.t 9)),
  ⟨(some 115), .call 462 [(.t 114), (.c (.int .i64 1))], none⟩,
  A1 116 (.ari .xor (.t 113) (.t 115)),
  A1 117 (.mv (.t 8)),
  A1 118 (.mv (.t 5)),
  ⟨(some 119), .call 462 [(.t 118), (.c (.int .i64 1))], none⟩,
  A1 120 (.ari .xor (.t 117) (.t 119)),
  A1 10 (.mv (.t 104)),
  A1 11 (.mv (.t 108)),
  A1 12 (.mv (.t 112)),
  A1 13 (.mv (.t 116)),
  A1 14 (.mv (.t 120))])
 ((.seq ((.seq (.reg [A1 15 (.mv (.c (.int .i64 0)))])
 (.block 2 (.loop ((.seq ((.seq (.reg [A1 121 (.mv (.t 15)),
  A1 122 (.ari .lss (.t 121) (.c (.int .i64 25)))])
 (.cond (.t 122) (.skip) (.exit 2))))
 ((.seq (.block 3 ((.seq (.reg [A1 125 (.mv (.t 15)),
  A1 126 (.slarr 25 1 (.t 1) (some (.t 125)) none),
  A1 127 (.s2a 5 1 (.t 126)),
  A1 16 (.mv (.t 127))])
 (.regd [⟨0, 0, A1 128 (.mv (.t 16))⟩,
  ⟨5, 0, A1 133 (.mv (.t 16))⟩,
  ⟨6, 2, A1 134 (.nilc (.t 133))⟩,
  ⟨7, 6, A1 135 (.iarr 5 1 (.t 134) (.c (.int .i64 0)))⟩,
  ⟨8, 14, A1 136 (.load false 1 (.t 135))⟩,
  ⟨9, 0, A1 137 (.mv (.t 10))⟩,
  ⟨10, 62, A1 138 (.ari .xor (.t 136) (.t 137))⟩,
  ⟨11, 0, A1 139 (.mv (.t 16))⟩,
  ⟨12, 128, A1 140 (.nilc (.t 139))⟩,
  ⟨13, 384, A1 141 (.iarr 5 1 (.t 140) (.c (.int .i64 1)))⟩,
  ⟨14, 896, A1 142 (.load false 1 (.t 141))⟩,
  ⟨17, 0, A1 145 (.mv (.t 16))⟩,
  ⟨18, 2048, A1 146 (.nilc (.t 145))⟩,
  ⟨19, 6144, A1 147 (.iarr 5 1 (.t 146) (.c (.int .i64 2)))⟩,
  ⟨20, 14336, A1 148 (.load false 1 (.t 147))⟩,
  ⟨23, 0, A1 151 (.mv (.t 16))⟩,
  ⟨24, 32768, A1 152 (.nilc (.t 151))⟩,
  ⟨25, 98304, A1 153 (.iarr 5 1 (.t 152) (.c (.int .i64 3)))⟩,
  ⟨26, 229376, A1 154 (.load false 1 (.t 153))⟩,
  ⟨29, 0, A1 157 (.mv (.t 16))⟩,
  ⟨30, 524288, A1 158 (.nilc (.t 157))⟩,
  ⟨31, 1572864, A1 159 (.iarr 5 1 (.t 158) (.c (.int .i64 4)))⟩,
  ⟨32, 3670016, A1 160 (.load false 1 (.t 159))⟩,
  ⟨35, 1, A1 163 (.nilc (.t 128))⟩,
  ⟨36, 16777215, A1 164 (.iarr 5 1 (.t 163) (.c (.int .i64 0)))⟩,
  ⟨37, 33554431, A0 (.store 1 (.t 164) (.t 138))⟩,
  ⟨1, 0, A1 129 (.mv (.t 16))⟩,
  ⟨15, 0, A1 143 (.mv (.t 11))⟩,
  ⟨16, 134219648, A1 144 (.ari .xor (.t 142) (.t 143))⟩,
  ⟨38, 67108864, A1 165 (.nilc (.t 129))⟩,
  ⟨39, 1073741823, A1 166 (.iarr 5 1 (.t 165) (.c (.int .i64 1)))⟩,
  ⟨40, 2147483647, A0 (.store 1 (.t 166) (.t 144))⟩,
  ⟨2, 0, A1 130 (.mv (.t 16))⟩,
  ⟨21, 0, A1 149 (.mv (.t 12))⟩,
  ⟨22, 8589965312, A1 150 (.ari .xor (.t 148) (.t 149))⟩,
  ⟨41, 4294967296, A1 167 (.nilc (.t 130))⟩,
  ⟨42, 68719476735, A1 168 (.iarr 5 1 (.t 167) (.c (.int .i64 2)))⟩,
  ⟨43, 137438953471, A0 (.store 1 (.t 168) (.t 150))⟩,
  ⟨3, 0, A1 131 (.mv (.t 16))⟩,
  ⟨27, 0, A1 155 (.mv (.t 13))⟩,
  ⟨28, 549756305408, A1 156 (.ari .xor (.t 154) (.t 155))⟩,
  ⟨44, 274877906944, A1 169 (.nilc (.t 131))⟩,
  ⟨45, 4398046511103, A1 170 (.iarr 5 1 (.t 169) (.c (.int .i64 3)))⟩,
  ⟨46, 8796093022207, A0 (.store 1 (.t 170) (.t 156))⟩,
  ⟨4, 0, A1 132 (.mv (.t 16))⟩,
  ⟨33, 0, A1 161 (.mv (.t 14))⟩,
  ⟨34, 35184379953152, A1 162 (.ari .xor (.t 160) (.t 161))⟩,
  ⟨47, 17592186044416, A1 171 (.nilc (.t 132))⟩,
  ⟨48, 281474976710655, A1 172 (.iarr 5 1 (.t 171) (.c (.int .i64 4)))⟩,
  ⟨49, 562949953421311, A0 (.store 1 (.t 172) (.t 162))⟩]))))
 (.reg [A1 123 (.mv (.t 15)),
  A1 124 (.ari .add (.t 123) (.c (.int .i64 5))),
  A1 15 (.mv (.t 124))])))))))))
 ((.seq (.reg [A1 173 (.iarr 25 1 (.t 1) (.c (.int .i64 1))),
  A1 174 (.load false 1 (.t 173)),
  A1 17 (.mv (.t 174))])
 ((.seq ((.seq (.reg [A1 175 (.load true 24 (.g 2)),
  A1 176 (.mv (.c (.int .i64 0)))])
 (.block 4 (.loop ((.seq (.reg [A1 177 (.ari .lss (.t 176) (.c (.int .i64 24)))])
 ((.seq (.cond (.t 177) (.skip) (.exit 4))
 ((.seq (.block 5 ((.seq (.reg [A1 178 (.mv (.t 176)),
  A1 179 (.idx 24 1 false (.t 175) (.t 176)),
  A1 18 (.mv (.t 178)),
  A1 19 (.mv (.t 179))])
 (.regd [⟨4, 0, A1 184 (.mv (.t 17))⟩,
  ⟨5, 0, A1 185 (.mv (.t 18))⟩,
  ⟨6, 2, A1 186 (.iarr 24 1 (.g 3) (.t 185))⟩,
  ⟨7, 6, A1 187 (.load false 1 (.t 186))⟩,
  ⟨8, 15, ⟨(some 188), .call 462 [(.t 184), (.t 187)], none⟩⟩,
  ⟨0, 0, A1 180 (.mv (.t 19))⟩,
  ⟨1, 0, A1 181 (.mv (.t 19))⟩,
  ⟨2, 64, A1 182 (.iarr 25 1 (.t 1) (.t 181))⟩,
  ⟨3, 192, A1 183 (.load false 1 (.t 182))⟩,
  ⟨9, 479, A1 17 (.mv (.t 183))⟩,
  ⟨10, 1023, A1 189 (.iarr 25 1 (.t 1) (.t 180))⟩,
  ⟨11, 2047, A0 (.store 1 (.t 189) (.t 188))⟩]))))
 (.reg [A1 190 (.ari .add (.t 176) (.c (.int .i64 1))),
  A1 176 (.mv (.t 190))])))))))))))
 ((.seq ((.seq (.reg [A1 20 (.mv (.c (.int .i64 0)))])
 (.block 6 (.loop ((.seq ((.seq (.reg [A1 191 (.mv (.t 20)),
  A1 192 (.ari .lss (.t 191) (.c (.int .i64 25)))])
 (.cond (.t 192) (.skip) (.exit 6))))
 ((.seq (.block 7 ((.seq (.reg [A1 195 (.mv (.t 20)),
  A1 196 (.slarr 25 1 (.t 1) (some (.t 195)) none),
  A1 197 (.s2a 5 1 (.t 196)),
  A1 21 (.mv (.t 197))])
 ((.seq (.regd [⟨0, 0, A1 198 (.mv (.t 21))⟩,
  ⟨1, 1, A1 199 (.nilc (.t 198))⟩,
  ⟨2, 3, A1 200 (.iarr 5 1 (.t 199) (.c (.int .i64 0)))⟩,
  ⟨3, 7, A1 201 (.load false 1 (.t 200))⟩,
  ⟨4, 0, A1 202 (.mv (.t 21))⟩,
  ⟨5, 16, A1 203 (.nilc (.t 202))⟩,
  ⟨6, 48, A1 204 (.iarr 5 1 (.t 203) (.c (.int .i64 1)))⟩,
  ⟨7, 112, A1 205 (.load false 1 (.t 204))⟩,
  ⟨8, 0, A1 206 (.mv (.t 21))⟩,
  ⟨9, 256, A1 207 (.nilc (.t 206))⟩,
  ⟨10, 768, A1 208 (.iarr 5 1 (.t 207) (.c (.int .i64 2)))⟩,
  ⟨11, 1792, A1 209 (.load false 1 (.t 208))⟩,
  ⟨12, 0, A1 210 (.mv (.t 21))⟩,
  ⟨13, 4096, A1 211 (.nilc (.t 210))⟩,
  ⟨14, 12288, A1 212 (.iarr 5 1 (.t 211) (.c (.int .i64 3)))⟩,
  ⟨15, 28672, A1 213 (.load false 1 (.t 212))⟩,
  ⟨16, 0, A1 214 (.mv (.t 21))⟩,
  ⟨17, 65536, A1 215 (.nilc (.t 214))⟩,
  ⟨18, 196608, A1 216 (.iarr 5 1 (.t 215) (.c (.int .i64 4)))⟩,
  ⟨19, 458752, A1 217 (.load false 1 (.t 216))⟩,
  ⟨20, 15, A1 22 (.mv (.t 201))⟩,
  ⟨21, 1048831, A1 23 (.mv (.t 205))⟩,
  ⟨22, 3149823, A1 24 (.mv (.t 209))⟩,
  ⟨23, 7405567, A1 25 (.mv (.t 213))⟩,
  ⟨24, 16777215, A1 26 (.mv (.t 217))⟩])
 (.regd [⟨0, 0, A1 218 (.mv (.t 21))⟩,
  ⟨5, 0, A1 223 (.mv (.t 22))⟩,
  ⟨6, 0, A1 224 (.mv (.t 23))⟩,
  ⟨7, 4, A1 225 (.un .xor (.t 224))⟩,
  ⟨8, 0, A1 226 (.mv (.t 24))⟩,
  ⟨9, 28, A1 227 (.ari .and (.t 225) (.t 226))⟩,
  ⟨10, 62, A1 228 (.ari .xor (.t 223) (.t 227))⟩,
  ⟨35, 1, A1 253 (.nilc (.t 218))⟩,
  ⟨36, 255, A1 254 (.iarr 5 1 (.t 253) (.c (.int .i64 0)))⟩,
  ⟨37, 511, A0 (.store 1 (.t 254) (.t 228))⟩,
  ⟨1, 0, A1 219 (.mv (.t 21))⟩,
  ⟨11, 0, A1 229 (.mv (.t 23))⟩,
  ⟨12, 0, A1 230 (.mv (.t 24))⟩,
  ⟨13, 4096, A1 231 (.un .xor (.t 230))⟩,
  ⟨14, 0, A1 232 (.mv (.t 25))⟩,
  ⟨15, 28672, A1 233 (.ari .and (.t 231) (.t 232))⟩,
  ⟨16, 63488, A1 234 (.ari .xor (.t 229) (.t 233))⟩,
  ⟨38, 1024, A1 255 (.nilc (.t 219))⟩,
  ⟨39, 262143, A1 256 (.iarr 5 1 (.t 255) (.c (.int .i64 1)))⟩,
  ⟨40, 524287, A0 (.store 1 (.t 256) (.t 234))⟩,
  ⟨2, 0, A1 220 (.mv (.t 21))⟩,
  ⟨17, 0, A1 235 (.mv (.t 24))⟩,
  ⟨18, 0, A1 236 (.mv (.t 25))⟩,
  ⟨19, 4194304, A1 237 (.un .xor (.t 236))⟩,
  ⟨20, 0, A1 238 (.mv (.t 26))⟩,
  ⟨21, 29360128, A1 239 (.ari .and (.t 237) (.t 238))⟩,
  ⟨22, 65011712, A1 240 (.ari .xor (.t 235) (.t 239))⟩,
  ⟨41, 1048576, A1 257 (.nilc (.t 220))⟩,
  ⟨42, 268435455, A1 258 (.iarr 5 1 (.t 257) (.c (.int .i64 2)))⟩,
  ⟨43, 536870911, A0 (.store 1 (.t 258) (.t 240))⟩,
  ⟨3, 0, A1 221 (.mv (.t 21))⟩,
  ⟨23, 0, A1 241 (.mv (.t 25))⟩,
  ⟨24, 0, A1 242 (.mv (.t 26))⟩,
  ⟨25, 4294967296, A1 243 (.un .xor (.t 242))⟩,
  ⟨26, 0, A1 244 (.mv (.t 22))⟩,
  ⟨27, 30064771072, A1 245 (.ari .and (.t 243) (.t 244))⟩,
  ⟨28, 66571993088, A1 246 (.ari .xor (.t 241) (.t 245))⟩,
  ⟨44, 1073741824, A1 259 (.nilc (.t 221))⟩,
  ⟨45, 274877906943, A1 260 (.iarr 5 1 (.t 259) (.c (.int .i64 3)))⟩,
  ⟨46, 549755813887, A0 (.store 1 (.t 260) (.t 246))⟩,
  ⟨4, 0, A1 222 (.mv (.t 21))⟩,
  ⟨29, 0, A1 247 (.mv (.t 26))⟩,
  ⟨30, 0, A1 248 (.mv (.t 22))⟩,
  ⟨31, 4398046511104, A1 249 (.un .xor (.t 248))⟩,
  ⟨32, 0, A1 250 (.mv (.t 23))⟩,
  ⟨33, 30786325577728, A1 251 (.ari .and (.t 249) (.t 250))⟩,
  ⟨34, 68169720922112, A1 252 (.ari .xor (.t 247) (.t 251))⟩,
  ⟨47, 1099511627776, A1 261 (.nilc (.t 222))⟩,
  ⟨48, 281474976710655, A1 262 (.iarr 5 1 (.t 261) (.c (.int .i64 4)))⟩,
  ⟨49, 562949953421311, A0 (.store 1 (.t 262) (.t 252))⟩]))))))
 (.reg [A1 193 (.mv (.t 20)),
  A1 194 (.ari .add (.t 193) (.c (.int .i64 5))),
  A1 20 (.mv (.t 194))])))))))))
 (.reg [A1 263 (.iarr 25 1 (.t 1) (.c (.int .i64 0))),
  A1 264 (.load false 1 (.t 263)),
  A1 265 (.mv (.t 4)),
  A1 266 (.ari .xor (.t 264) (.t 265)),
  A1 267 (.iarr 25 1 (.t 1) (.c (.int .i64 0))),
  A0 (.store 1 (.t 267) (.t 266))]))))))))))))))))
 (.reg [A1 268 (.ari .add (.t 28) (.c (.int .i64 1))),
  A1 28 (.mv (.t 268))])))))))))))
 ((.seq (.reg [A1 269 (.load true 25 (.t 1)),
  A0 (.store 25 (.t 2) (.t 269))])
 (.ret))))))
def f417 : LF := ⟨c417, 1, 0, 270, [.cell 2 true 25]⟩

/-- math/bits.RotateLeft64 -/
def c462 : LC := (.seq (.reg [A1 4 (.mv (.c (.int .u64 0)))])
 ((.seq (.reg [A1 6 (.mv (.t 1)),
  A1 7 (.conv .u64 (.t 6)),
  A1 8 (.ari .and (.t 7) (.c (.int .u64 63))),
  A1 5 (.mv (.t 8))])
 ((.seq (.reg [A1 9 (.mv (.t 0)),
  A1 10 (.mv (.t 5)),
  A1 11 (.ari .shl (.t 9) (.t 10)),
  A1 12 (.mv (.t 0)),
  A1 13 (.mv (.t 5)),
  A1 14 (.ari .sub (.c (.int .u64 64)) (.t 13)),
  A1 15 (.ari .shr (.t 12) (.t 14)),
  A1 16 (.ari .or (.t 11) (.t 15)),
  A1 4 (.mv (.t 16))])
 (.ret))))))
def f462 : LF := ⟨c462, 2, 0, 17, [.tmp 4]⟩

end Mv
namespace Mv
open Go
/-- The seat has these functions. -/
structure OkM (M : Seat) : Prop where
  k49 : chkF M 49 f49 = true
  k50 : chkF M 50 f50 = true
  k51 : chkF M 51 f51 = true
  k52 : chkF M 52 f52 = true
  k53 : chkF M 53 f53 = true
  k74 : chkF M 74 f74 = true
  k197 : chkF M 197 f197 = true
  k198 : chkF M 198 f198 = true
  k200 : chkF M 200 f200 = true
  k201 : chkF M 201 f201 = true
  k207 : chkF M 207 f207 = true
  k315 : chkF M 315 f315 = true
  k316 : chkF M 316 f316 = true
  k317 : chkF M 317 f317 = true
  k318 : chkF M 318 f318 = true
  k312 : chkF M 312 f312 = true
  k417 : chkF M 417 f417 = true
  k462 : chkF M 462 f462 = true
  k199 : chkF M 199 f199 = true
  k202 : chkF M 202 f202 = true
/-- The same, and CommitOrder's own, and the document's machine. -/
structure OkA (M : Seat) : Prop extends OkM M where
instance {M : Seat} : Coe (OkA M) (OkM M) := ⟨OkA.toOkM⟩
end Mv
