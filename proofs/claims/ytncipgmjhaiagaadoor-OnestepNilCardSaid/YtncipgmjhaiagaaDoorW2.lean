/- keccak.Sum of 64 bytes. -/
import Derived.Test.YtncipgmjhaiagaaDoorT
import Derived.Test.YtncipgmjhaiagaaDoorW1
set_option linter.unusedSimpArgs false
set_option linter.unusedVariables false
namespace Mv
open Go
/-- moot/keccak.Sum -/
def c319 : LC := (.seq (.reg [A1 2 (.alloc (.ar 32 (.int .u8)))])
 ((.seq (.reg [⟨(some 6), .call 418 [], none⟩,
  A1 3 (.mv (.t 6))])
 ((.seq (.reg [A1 7 (.mv (.t 3)),
  A1 8 (.mv (.t 0)),
  ⟨(some 9), .call 419 [(.t 7), (.t 8)], none⟩])
 ((.seq (.reg [A1 11 (.mv (.t 3)),
  ⟨(some 12), .call 420 [(.t 11)], none⟩,
  A1 10 (.mv (.t 12)),
  A1 13 (.ext (.t 10) 0),
  A1 14 (.ext (.t 10) 1),
  A1 4 (.alloc (.ar 32 (.int .u8))),
  A0 (.store 32 (.t 4) (.t 13)),
  A1 5 (.mv (.t 14))])
 ((.seq (.reg [A1 15 (.load true 32 (.t 4)),
  A0 (.store 32 (.t 2) (.t 15))])
 (.ret))))))))))
def f319 : LF := ⟨c319, 1, 0, 16, [.cell 2 true 32]⟩

/-- moot/keccak.New -/
def c418 : LC := (.seq (.reg [A1 0 (.mv (.c .nilp))])
 ((.seq (.reg [A1 1 (.build (.st (.cons (.ar 25 (.int .u64)) (.cons .slice .nil))) []),
  A1 2 (.box (.t 1)),
  A1 0 (.mv (.t 2))])
 (.ret))))
def f418 : LF := ⟨c418, 0, 0, 3, [.tmp 0]⟩

/-- (*moot/keccak.Hasher).Add -/
def c419 : LC := (.seq (.reg [A1 4 (.mv (.c .nili))])
 ((.seq ((.seq (.reg [A1 5 (.mv (.t 0)),
  A1 6 (.eq false true .ptr (.t 5) (.c .nilp))])
 (.cond (.t 6) ((.seq (.reg [A1 7 (.mkif 74 (.c (.int .i64 1))),
  A1 4 (.mv (.t 7))])
 (.ret))) (.skip))))
 ((.seq (.reg [A1 8 (.mv (.t 0)),
  A1 9 (.mv (.t 0)),
  A1 10 (.nilc (.t 9)),
  A1 11 (.fadr 25 (.t 10)),
  A1 12 (.load false 1 (.t 11)),
  A1 13 (.mv (.t 1)),
  A1 14 (.app 1 1 (.t 12) (.t 13)),
  A1 15 (.nilc (.t 8)),
  A1 16 (.fadr 25 (.t 15)),
  A0 (.store 1 (.t 16) (.t 14))])
 ((.seq (.block 0 (.loop ((.seq ((.seq (.reg [A1 17 (.mv (.t 0)),
  A1 18 (.nilc (.t 17)),
  A1 19 (.fadr 25 (.t 18)),
  A1 20 (.load false 1 (.t 19)),
  A1 21 (.len 0 (.t 20)),
  A1 22 (.ari .geq (.t 21) (.c (.int .i64 136)))])
 (.cond (.t 22) (.skip) (.exit 0))))
 (.block 1 ((.seq (.regd [⟨1, 0, A1 24 (.mv (.t 0))⟩,
  ⟨2, 1, A1 25 (.nilc (.t 24))⟩,
  ⟨3, 3, A1 26 (.fadr 0 (.t 25))⟩,
  ⟨4, 7, A1 27 (.load true 25 (.t 26))⟩,
  ⟨5, 0, A1 28 (.mv (.t 0))⟩,
  ⟨6, 16, A1 29 (.nilc (.t 28))⟩,
  ⟨7, 48, A1 30 (.fadr 25 (.t 29))⟩,
  ⟨8, 112, A1 31 (.load false 1 (.t 30))⟩,
  ⟨9, 240, A1 32 (.slsl 1 (.t 31) none (some (.c (.int .i64 136))))⟩,
  ⟨10, 511, ⟨(some 33), .call 318 [(.t 27), (.t 32)], none⟩⟩,
  ⟨0, 0, A1 23 (.mv (.t 0))⟩,
  ⟨11, 2047, A1 34 (.nilc (.t 23))⟩,
  ⟨12, 4095, A1 35 (.fadr 0 (.t 34))⟩,
  ⟨13, 8191, A0 (.store 25 (.t 35) (.t 33))⟩])
 (.reg [A1 36 (.mv (.t 0)),
  A1 37 (.mv (.t 0)),
  A1 38 (.nilc (.t 37)),
  A1 39 (.fadr 25 (.t 38)),
  A1 40 (.load false 1 (.t 39)),
  A1 41 (.slsl 1 (.t 40) (some (.c (.int .i64 136))) none),
  ⟨(some 42), .call 277 [(.t 41)], none⟩,
  A1 43 (.nilc (.t 36)),
  A1 44 (.fadr 25 (.t 43)),
  A0 (.store 1 (.t 44) (.t 42))]))))))))
 ((.seq (.reg [A1 4 (.mv (.c .nili))])
 (.ret))))))))))
def f419 : LF := ⟨c419, 2, 0, 45, [.tmp 4]⟩

/-- (*moot/keccak.Hasher).Sum -/
def c420 : LC := (.seq (.reg [A1 2 (.alloc (.ar 32 (.int .u8))),
  A1 3 (.mv (.c .nili))])
 ((.seq ((.seq (.reg [A1 5 (.mv (.t 0)),
  A1 6 (.eq false true .ptr (.t 5) (.c .nilp))])
 (.cond (.t 6) ((.seq (.reg [A1 7 (.build (.ar 32 (.int .u8)) []),
  A1 8 (.mkif 74 (.c (.int .i64 1))),
  A0 (.store 32 (.t 2) (.t 7)),
  A1 3 (.mv (.t 8))])
 (.ret))) (.skip))))
 ((.seq (.reg [A1 9 (.mksl 1 1 (.int .u8) (.c (.int .i64 136)) (.c (.int .i64 136))),
  A1 4 (.mv (.t 9))])
 ((.seq (.reg [A1 10 (.mv (.t 4)),
  A1 11 (.mv (.t 0)),
  A1 12 (.nilc (.t 11)),
  A1 13 (.fadr 25 (.t 12)),
  A1 14 (.load false 1 (.t 13)),
  A1 15 (.copy 1 (.t 10) (.t 14))])
 ((.seq (.reg [A1 16 (.mv (.t 4)),
  A1 17 (.mv (.t 0)),
  A1 18 (.nilc (.t 17)),
  A1 19 (.fadr 25 (.t 18)),
  A1 20 (.load false 1 (.t 19)),
  A1 21 (.len 0 (.t 20)),
  A1 22 (.isl 1 (.t 16) (.t 21)),
  A1 23 (.load false 1 (.t 22)),
  A1 24 (.ari .xor (.t 23) (.c (.int .u8 1))),
  A1 25 (.isl 1 (.t 16) (.t 21)),
  A0 (.store 1 (.t 25) (.t 24))])
 ((.seq (.reg [A1 26 (.mv (.t 4)),
  A1 27 (.isl 1 (.t 26) (.c (.int .i64 135))),
  A1 28 (.load false 1 (.t 27)),
  A1 29 (.ari .xor (.t 28) (.c (.int .u8 128))),
  A1 30 (.isl 1 (.t 26) (.c (.int .i64 135))),
  A0 (.store 1 (.t 30) (.t 29))])
 ((.seq (.reg [A1 31 (.mv (.t 0)),
  A1 32 (.nilc (.t 31)),
  A1 33 (.fadr 0 (.t 32)),
  A1 34 (.load true 25 (.t 33)),
  A1 35 (.mv (.t 4)),
  ⟨(some 36), .call 318 [(.t 34), (.t 35)], none⟩,
  ⟨(some 37), .call 317 [(.t 36)], none⟩,
  A0 (.store 32 (.t 2) (.t 37)),
  A1 3 (.mv (.c .nili))])
 (.ret))))))))))))))
def f420 : LF := ⟨c420, 1, 0, 38, [.cell 2 true 32, .tmp 3]⟩

/-- moot/octets.Word -/
def c308 : LC := (.seq (.reg [A1 2 (.mv (.c (.int .u64 0)))])
 ((.seq (.reg [A1 3 (.mv (.c (.int .u64 0)))])
 ((.seq ((.seq (.reg [A1 6 (.mv (.t 0)),
  A1 7 (.slsl 1 (.t 6) none (some (.c (.int .i64 8)))),
  A1 8 (.len 0 (.t 7)),
  A1 9 (.mv (.c (.int .i64 0)))])
 (.block 0 (.loop ((.seq (.reg [A1 10 (.ari .lss (.t 9) (.t 8))])
 ((.seq (.cond (.t 10) (.skip) (.exit 0))
 ((.seq (.block 1 ((.seq (.reg [A1 11 (.isl 1 (.t 7) (.t 9)),
  A1 12 (.load false 1 (.t 11)),
  A1 5 (.mv (.t 12))])
 (.reg [A1 13 (.mv (.t 3)),
  A1 14 (.ari .shl (.t 13) (.c (.int .u64 8))),
  A1 15 (.mv (.t 5)),
  A1 16 (.conv .u64 (.t 15)),
  A1 17 (.ari .or (.t 14) (.t 16)),
  A1 3 (.mv (.t 17))]))))
 (.reg [A1 18 (.ari .add (.t 9) (.c (.int .i64 1))),
  A1 9 (.mv (.t 18))])))))))))))
 ((.seq (.reg [A1 19 (.mv (.t 3)),
  A1 2 (.mv (.t 19))])
 (.ret))))))))
def f308 : LF := ⟨c308, 1, 0, 20, [.tmp 2]⟩

/-- moot/octets.Add -/
def c327 : LC := (.seq (.reg [A1 4 (.mv (.c .nils))])
 ((.seq (.reg [A1 5 (.alloc (.ar 8 (.int .u8)))])
 ((.seq (.reg [A1 6 (.slarr 8 1 (.t 5) none none),
  A1 7 (.mv (.t 1)),
  ⟨(some 8), .call 312 [(.t 6), (.t 7)], none⟩])
 ((.seq (.reg [A1 9 (.mv (.t 0)),
  A1 10 (.slarr 8 1 (.t 5) none none),
  A1 11 (.app 1 1 (.t 9) (.t 10)),
  A1 4 (.mv (.t 11))])
 (.ret))))))))
def f327 : LF := ⟨c327, 2, 0, 12, [.tmp 4]⟩

/-- moot/witness.New -/
def c68 : LC := (.seq (.reg [A1 0 (.mv (.c .nilp))])
 ((.seq (.reg [A1 5 (.mkmap (.ar 32 (.int .u8)) (.ar 64 (.int .u8))),
  A1 6 (.mkmap (.ar 32 (.int .u8)) (.ar 64 (.int .u8))),
  A1 7 (.build (.st (.cons .map (.cons (.ar 64 (.int .u8)) (.cons (.ar 64 (.int .u8)) (.cons .bool .nil))))) [(.f 0, 1, (.t 6))]),
  A1 8 (.box (.t 7)),
  A1 9 (.mkmap (.ar 32 (.int .u8)) .bool),
  A1 10 (.build (.st (.cons .map (.cons .ptr (.cons .map (.cons .slice .nil))))) [(.f 0, 1, (.t 5)), (.f 1, 1, (.t 8)), (.f 2, 1, (.t 9))]),
  A1 11 (.box (.t 10)),
  A1 1 (.mv (.t 11))])
 ((.seq ((.seq (.reg [A1 12 (.mv (.c (.int .i64 0)))])
 (.block 0 (.loop ((.seq (.reg [A1 13 (.ari .lss (.t 12) (.c (.int .i64 16)))])
 ((.seq (.cond (.t 13) (.skip) (.exit 0))
 ((.seq (.block 1 ((.seq (.reg [A1 14 (.mv (.t 12)),
  A1 2 (.mv (.t 14))])
 ((.seq (.reg [A1 16 (.mv (.t 2)),
  ⟨(some 17), .call 197 [(.t 16)], none⟩,
  A1 15 (.mv (.t 17)),
  A1 18 (.ext (.t 15) 0),
  A1 19 (.ext (.t 15) 1),
  A1 3 (.alloc (.ar 32 (.int .u8))),
  A0 (.store 32 (.t 3) (.t 18)),
  A1 4 (.mv (.t 19))])
 (.reg [A1 20 (.mv (.t 1)),
  A1 21 (.load true 32 (.t 3)),
  A1 22 (.load true 32 (.t 3)),
  ⟨(some 23), .call 213 [(.t 21), (.t 22)], none⟩,
  ⟨(some 24), .call 212 [(.t 20), (.t 23)], none⟩]))))))
 (.reg [A1 25 (.ari .add (.t 12) (.c (.int .i64 1))),
  A1 12 (.mv (.t 25))])))))))))))
 ((.seq (.reg [A1 26 (.mv (.t 1)),
  A1 0 (.mv (.t 26))])
 (.ret))))))))
def f68 : LF := ⟨c68, 0, 0, 27, [.tmp 0]⟩

/-- (*moot/witness.Store).Add -/
def c212 : LC := (.seq (.reg [A1 3 (.box (.t 1)),
  A1 4 (.alloc (.ar 32 (.int .u8))),
  A1 5 (.mv (.c .nili))])
 ((.seq ((.seq (.reg [A1 7 (.mv (.t 0)),
  A1 8 (.eq false true .ptr (.t 7) (.c .nilp))])
 (.cond (.t 8) ((.seq (.reg [A1 9 (.build (.ar 32 (.int .u8)) []),
  A1 10 (.mkif 74 (.c (.int .i64 1))),
  A0 (.store 32 (.t 4) (.t 9)),
  A1 5 (.mv (.t 10))])
 (.ret))) (.skip))))
 ((.seq (.reg [A1 11 (.slarr 64 1 (.t 3) none none),
  ⟨(some 12), .call 319 [(.t 11)], none⟩,
  A1 6 (.alloc (.ar 32 (.int .u8))),
  A0 (.store 32 (.t 6) (.t 12))])
 ((.seq (.regd [⟨0, 0, A1 13 (.mv (.t 0))⟩,
  ⟨1, 1, A1 14 (.nilc (.t 13))⟩,
  ⟨2, 3, A1 15 (.fadr 0 (.t 14))⟩,
  ⟨3, 7, A1 16 (.load false 1 (.t 15))⟩,
  ⟨4, 0, A1 17 (.load true 32 (.t 6))⟩,
  ⟨5, 0, A1 18 (.load true 64 (.t 3))⟩,
  ⟨6, 63, A0 (.mupd (.ar 32 1 false .int) (.t 16) (.t 17) (.t 18))⟩])
 ((.seq (.regd [⟨0, 0, A1 19 (.mv (.t 0))⟩,
  ⟨1, 1, A1 20 (.nilc (.t 19))⟩,
  ⟨2, 3, A1 21 (.fadr 1 (.t 20))⟩,
  ⟨3, 7, A1 22 (.load false 1 (.t 21))⟩,
  ⟨4, 0, A1 23 (.load true 32 (.t 6))⟩,
  ⟨5, 0, A1 24 (.load true 64 (.t 3))⟩,
  ⟨6, 63, ⟨(some 25), .call 320 [(.t 22), (.t 23), (.t 24)], none⟩⟩])
 ((.seq (.reg [A1 26 (.load true 32 (.t 6)),
  A0 (.store 32 (.t 4) (.t 26)),
  A1 5 (.mv (.c .nili))])
 (.ret))))))))))))
def f212 : LF := ⟨c212, 2, 0, 27, [.cell 4 true 32, .tmp 5]⟩

/-- moot/witness.joined -/
def c213 : LC := (.seq (.reg [A1 2 (.box (.t 0)),
  A1 3 (.box (.t 1)),
  A1 4 (.alloc (.ar 64 (.int .u8)))])
 ((.seq (.reg [A1 5 (.alloc (.ar 64 (.int .u8)))])
 ((.seq (.regd [⟨0, 0, A1 6 (.slarr 64 1 (.t 5) none (some (.c (.int .i64 32))))⟩,
  ⟨1, 0, A1 7 (.slarr 32 1 (.t 2) none none)⟩,
  ⟨2, 3, A1 8 (.copy 1 (.t 6) (.t 7))⟩])
 ((.seq (.regd [⟨0, 0, A1 9 (.slarr 64 1 (.t 5) (some (.c (.int .i64 32))) none)⟩,
  ⟨1, 0, A1 10 (.slarr 32 1 (.t 3) none none)⟩,
  ⟨2, 3, A1 11 (.copy 1 (.t 9) (.t 10))⟩])
 ((.seq (.reg [A1 12 (.load true 64 (.t 5)),
  A0 (.store 64 (.t 4) (.t 12))])
 (.ret))))))))))
def f213 : LF := ⟨c213, 2, 0, 13, [.cell 4 true 64]⟩

/-- (*moot/witness.kin).add -/
def c320 : LC := (.seq (.reg [A1 4 (.box (.t 1)),
  A1 5 (.box (.t 2))])
 ((.seq (.regd [⟨0, 0, A1 9 (.mv (.t 0))⟩,
  ⟨1, 1, A1 10 (.nilc (.t 9))⟩,
  ⟨2, 3, A1 11 (.fadr 0 (.t 10))⟩,
  ⟨3, 7, A1 12 (.load false 1 (.t 11))⟩,
  ⟨4, 0, A1 13 (.load true 32 (.t 4))⟩,
  ⟨5, 31, A1 14 (.mlook (.ar 32 1 false .int) (.ar 64 (.int .u8)) true (.t 12) (.t 13))⟩,
  ⟨6, 63, A1 8 (.mv (.t 14))⟩,
  ⟨7, 127, A1 15 (.ext (.t 8) 0)⟩,
  ⟨9, 0, A1 6 (.alloc (.ar 64 (.int .u8)))⟩,
  ⟨10, 511, A0 (.store 64 (.t 6) (.t 15))⟩,
  ⟨8, 127, A1 16 (.ext (.t 8) 1)⟩,
  ⟨11, 2047, A1 7 (.mv (.t 16))⟩])
 ((.seq (.reg [A1 17 (.mv (.t 7)),
  A1 18 (.un .not (.t 17))])
 (.cond (.t 18) (.regd [⟨0, 0, A1 19 (.mv (.t 0))⟩,
  ⟨1, 1, A1 20 (.nilc (.t 19))⟩,
  ⟨2, 3, A1 21 (.fadr 0 (.t 20))⟩,
  ⟨3, 7, A1 22 (.load false 1 (.t 21))⟩,
  ⟨4, 0, A1 23 (.load true 32 (.t 4))⟩,
  ⟨5, 0, A1 24 (.load true 64 (.t 5))⟩,
  ⟨6, 63, A0 (.mupd (.ar 32 1 false .int) (.t 22) (.t 23) (.t 24))⟩]) ((.seq (.reg [A1 25 (.load true 64 (.t 6)),
  A1 26 (.load true 64 (.t 5)),
  A1 27 (.eq true false (.ar 64 1 false .int) (.t 25) (.t 26)),
  A1 28 (.mv (.t 27)),
  A2 29 28 true (.mv (.t 0)),
  A2 30 28 true (.nilc (.t 29)),
  A2 31 28 true (.fadr 129 (.t 30)),
  A2 32 28 true (.load false 1 (.t 31)),
  A2 33 28 true (.un .not (.t 32)),
  A1 34 (.pick (.t 28) (.t 33) (.c (.bool false)))])
 (.cond (.t 34) (.regd [⟨0, 0, A1 35 (.mv (.t 0))⟩,
  ⟨3, 0, A1 38 (.load true 64 (.t 6))⟩,
  ⟨5, 3, A1 40 (.nilc (.t 35))⟩,
  ⟨6, 7, A1 41 (.fadr 1 (.t 40))⟩,
  ⟨7, 15, A0 (.store 64 (.t 41) (.t 38))⟩,
  ⟨1, 0, A1 36 (.mv (.t 0))⟩,
  ⟨4, 0, A1 39 (.load true 64 (.t 5))⟩,
  ⟨8, 127, A1 42 (.nilc (.t 36))⟩,
  ⟨9, 255, A1 43 (.fadr 65 (.t 42))⟩,
  ⟨10, 511, A0 (.store 64 (.t 43) (.t 39))⟩,
  ⟨2, 0, A1 37 (.mv (.t 0))⟩,
  ⟨11, 2047, A1 44 (.nilc (.t 37))⟩,
  ⟨12, 4095, A1 45 (.fadr 129 (.t 44))⟩,
  ⟨13, 8191, A0 (.store 1 (.t 45) (.c (.bool true)))⟩]) (.skip))))))))))
def f320 : LF := ⟨c320, 3, 0, 46, []⟩

/-- (*moot/witness.Store).Get -/
def c328 : LC := (.seq (.reg [A1 3 (.box (.t 1)),
  A1 4 (.alloc (.ar 64 (.int .u8))),
  A1 5 (.mv (.c .nili))])
 ((.seq ((.seq (.reg [A1 8 (.mv (.t 0)),
  A1 9 (.eq false true .ptr (.t 8) (.c .nilp))])
 (.cond (.t 9) ((.seq (.reg [A1 10 (.build (.ar 64 (.int .u8)) []),
  A1 11 (.mkif 74 (.c (.int .i64 1))),
  A0 (.store 64 (.t 4) (.t 10)),
  A1 5 (.mv (.t 11))])
 (.ret))) (.skip))))
 ((.seq ((.seq (.regd [⟨0, 0, A1 12 (.mv (.t 0))⟩,
  ⟨1, 1, A1 13 (.nilc (.t 12))⟩,
  ⟨2, 3, A1 14 (.fadr 2 (.t 13))⟩,
  ⟨3, 7, A1 15 (.load false 1 (.t 14))⟩,
  ⟨4, 0, A1 16 (.load true 32 (.t 3))⟩,
  ⟨5, 31, A1 17 (.mlook (.ar 32 1 false .int) .bool false (.t 15) (.t 16))⟩,
  ⟨6, 63, A1 18 (.un .not (.t 17))⟩])
 (.cond (.t 18) ((.seq (.regd [⟨0, 0, A1 19 (.mv (.t 0))⟩,
  ⟨1, 1, A1 20 (.nilc (.t 19))⟩,
  ⟨2, 3, A1 21 (.fadr 2 (.t 20))⟩,
  ⟨3, 7, A1 22 (.load false 1 (.t 21))⟩,
  ⟨4, 0, A1 23 (.load true 32 (.t 3))⟩,
  ⟨5, 31, A0 (.mupd (.ar 32 1 false .int) (.t 22) (.t 23) (.c (.bool true)))⟩])
 (.regd [⟨1, 0, A1 25 (.mv (.t 0))⟩,
  ⟨2, 1, A1 26 (.nilc (.t 25))⟩,
  ⟨3, 3, A1 27 (.fadr 3 (.t 26))⟩,
  ⟨4, 7, A1 28 (.load false 1 (.t 27))⟩,
  ⟨5, 0, A1 29 (.load true 32 (.t 3))⟩,
  ⟨6, 16, A1 30 (.bsl 32 1 (.ar 32 (.int .u8)) [(.i 32 0, 32, (.t 29))])⟩,
  ⟨7, 63, A1 31 (.app 32 32 (.t 28) (.t 30))⟩,
  ⟨0, 0, A1 24 (.mv (.t 0))⟩,
  ⟨8, 255, A1 32 (.nilc (.t 24))⟩,
  ⟨9, 511, A1 33 (.fadr 3 (.t 32))⟩,
  ⟨10, 1023, A0 (.store 1 (.t 33) (.t 31))⟩]))) (.skip))))
 ((.seq (.regd [⟨0, 0, A1 35 (.mv (.t 0))⟩,
  ⟨1, 1, A1 36 (.nilc (.t 35))⟩,
  ⟨2, 3, A1 37 (.fadr 0 (.t 36))⟩,
  ⟨3, 7, A1 38 (.load false 1 (.t 37))⟩,
  ⟨4, 0, A1 39 (.load true 32 (.t 3))⟩,
  ⟨5, 31, A1 40 (.mlook (.ar 32 1 false .int) (.ar 64 (.int .u8)) true (.t 38) (.t 39))⟩,
  ⟨6, 63, A1 34 (.mv (.t 40))⟩,
  ⟨7, 127, A1 41 (.ext (.t 34) 0)⟩,
  ⟨9, 0, A1 6 (.alloc (.ar 64 (.int .u8)))⟩,
  ⟨10, 511, A0 (.store 64 (.t 6) (.t 41))⟩,
  ⟨8, 127, A1 42 (.ext (.t 34) 1)⟩,
  ⟨11, 2047, A1 7 (.mv (.t 42))⟩])
 ((.seq ((.seq (.reg [A1 43 (.mv (.t 7)),
  A1 44 (.un .not (.t 43))])
 (.cond (.t 44) ((.seq (.reg [A1 45 (.build (.ar 64 (.int .u8)) []),
  A1 46 (.mkif 74 (.c (.int .i64 14))),
  A0 (.store 64 (.t 4) (.t 45)),
  A1 5 (.mv (.t 46))])
 (.ret))) (.skip))))
 ((.seq (.reg [A1 47 (.load true 64 (.t 6)),
  A0 (.store 64 (.t 4) (.t 47)),
  A1 5 (.mv (.c .nili))])
 (.ret))))))))))))
def f328 : LF := ⟨c328, 2, 0, 48, [.cell 4 true 64, .tmp 5]⟩

end Mv
namespace Mv
open Go
set_option maxRecDepth 20000
set_option maxHeartbeats 4000000
set_option linter.unusedSimpArgs false

structure OkH (M : Seat) : Prop where
  k319 : chkF M 319 f319 = true
  k418 : chkF M 418 f418 = true
  k419 : chkF M 419 f419 = true
  k420 : chkF M 420 f420 = true

def pad64 (p : Nat → BitVec 8) (j : Nat) : BitVec 8 := if j < 64 then p j else if j = 64 then 1 else if j = 135 then 128 else 0
def hshV (s : List (BitVec 64)) (rest : V) : V := .st 26 (.fcons 0 (.ar 1 25 (ws s)) (.fcons 25 rest .fnil))
def zst : List (BitVec 64) := List.replicate 25 0
theorem zst_at (j : Nat) : zst.getD j 0 = 0 := by
  simp only [zst, List.getD, List.getElem?_replicate]; split <;> rfl
def sum64 (p : Nat → BitVec 8) : Dg := dig (absd zst (pad64 p))

theorem runs_hNew {M : Seat} (ok : OkH M) : Runs M 418 [] [] 0 (fun r H' k' => r = .ptr 0 [] ∧ H' = [(0, hshV zst .nils)] ∧ k' = 1) := by
  refine runs_fr ok.k418 rfl fun x hx => ?_
  refine ex_sound 2000 _ _ _ _ ?_; (simp (maxSteps := 4000000) only [f418, c418, LZ, seval, reduceCtorEq, forall_const])
  refine RetS.mk hx [32] [] (.ptr 0 []) ([(0, hshV zst .nils)]) 1 (by decide) (by (simp only [LV, LZ, seval, reduceCtorEq, forall_const])) (by ((try simp only [LV, LZ, seval, reduceCtorEq, forall_const, LY, seval, reduceCtorEq, implies_true]); first | done | exact True.intro | (intros; rfl))) ?_ ⟨rfl, rfl, rfl⟩
  simp only [hshV, LY, seval, reduceCtorEq, implies_true]
  exact fun i _ => (zst_at i).symm

theorem runs_hAdd {M : Seat} (ok : OkH M) (s : List (BitVec 64)) (p : Nat → BitVec 8) :
    Runs M 419 [.ptr 0 [], .lst 1 64 (fun j => B (p j))] [(0, hshV s .nils)] 1 (fun r H' k' => r = .nili ∧ H' = [(0, hshV s (.sl 1 [] 0 64 1)), (1, .ar 1 64 (fun j => B (p j)))] ∧ k' = 2) := by
  refine runs_fr ok.k419 rfl fun x hx => ?_
  refine ex_sound 2000 _ _ _ _ ?_; (simp (maxSteps := 4000000) only [f419, c419, hshV, LZ, seval, reduceCtorEq, forall_const])
  refine loop_once ?_
  refine ex_sound 2000 _ _ _ _ ?_
  (simp (maxSteps := 4000000) only [LZ, seval, reduceCtorEq, forall_const])
  refine RetS.mk hx [0, 145] [] (.nili) ([(0, hshV s (.sl 1 [] 0 64 1)), (1, .ar 1 64 (fun j => B (p j)))]) 2 (by decide) (by (simp only [LV, LZ, seval, reduceCtorEq, forall_const])) (by ((try simp only [LV, LZ, seval, reduceCtorEq, forall_const, LY, seval, reduceCtorEq, implies_true]); first | done | exact True.intro | (intros; rfl))) ?_ ⟨rfl, rfl, rfl⟩
  simp only [hshV, LY, seval, reduceCtorEq, implies_true]

theorem runs_hSum {M : Seat} (okA : OkM M) (ok : OkH M) (s : List (BitVec 64)) (p : Nat → BitVec 8) :
    Runs M 420 [.imm (hshV s (.lst 1 64 (fun j => B (p j))))] [] 0 (fun r H' k' => r = tup2 (dg (dig (absd s (pad64 p)))) .nili ∧ H' = [] ∧ k' = 0) := by
  refine runs_fr ok.k420 rfl fun x hx => ?_
  have m1 : min 64 136 = 64 := rfl
  have m2 : ∀ i : Nat, (0 ≤ i) = True := fun i => eq_true (Nat.zero_le i)
  refine ex_sound 2000 _ _ _ _ ?_; (simp (maxSteps := 4000000) only [f420, c420, hshV, m1, m2, LZ, seval, reduceCtorEq, forall_const])
  refine call_pA (runs_absorbed okA s (pad64 p)) (by ((try simp only [ite_B, LY, seval, reduceCtorEq, implies_true]); first | done | exact True.intro | rfl | ((intro j hj; simp only [pad64]; repeat' split <;> first | omega | rfl | simp_all | (subst_vars; rfl))))) (by first | rfl | (simp only [LN, LP, V.ren, tup2, tup3])) (by simp only [ite_B, LX, implies_true]) ?_
  (simp (maxSteps := 4000000) only [LZ, seval, reduceCtorEq, forall_const])
  refine call_pZ (runs_digest okA (absd s (pad64 p))) ?_
  (simp (maxSteps := 4000000) only [LZ, seval, reduceCtorEq, forall_const])
  refine RetS.mk hx [] [] (tup2 (dg (dig (absd s (pad64 p)))) .nili) [] 0 (by decide) (by (simp only [LV, LZ, seval, reduceCtorEq, forall_const])) (by ((try simp only [LV, LZ, seval, reduceCtorEq, forall_const, LY, seval, reduceCtorEq, implies_true]); first | done | exact True.intro | (intros; rfl))) trivial ⟨rfl, rfl, rfl⟩

theorem runs_Sum64 {M : Seat} (okA : OkM M) (ok : OkH M) (p : Nat → BitVec 8) :
    Runs M 319 [.lst 1 64 (fun j => B (p j))] [] 0 (fun r H' k' => r = dg (sum64 p) ∧ H' = [] ∧ k' = 0) := by
  refine runs_fr ok.k319 rfl fun x hx => ?_
  refine ex_sound 2000 _ _ _ _ ?_; (simp (maxSteps := 4000000) only [f319, c319, LZ, seval, reduceCtorEq, forall_const])
  refine call_fA (runs_hNew ok) (by decide) (by ((try simp only [hshV, LY, seval, reduceCtorEq, implies_true]); first | done | exact True.intro | rfl)) (by simp only [hshV, LX, implies_true]) (by simp only [hshV, LX, implies_true]) ?_
  (simp (maxSteps := 4000000) only [hshV, LZ, seval, reduceCtorEq, forall_const])
  refine call_mA [16] (runs_hAdd ok zst p) (by decide) (by rfl) (by ((try simp only [hshV, LY, seval, reduceCtorEq, implies_true]); first | done | exact True.intro | rfl)) (by ((try simp only [hshV, LY, seval, reduceCtorEq, implies_true]); first | done | exact True.intro | rfl)) (by simp only [hshV, LX, implies_true]) (by simp only [hshV, LX, implies_true]) ?_
  (simp (maxSteps := 4000000) only [hshV, LZ, seval, reduceCtorEq, forall_const])
  refine call_pA (runs_hSum okA ok zst p) (by ((try simp only [hshV, LY, seval, reduceCtorEq, implies_true]); first | done | exact True.intro | rfl)) (by first | rfl | (simp only [LN, LP, V.ren, tup2, tup3])) (by simp only [hshV, LX, implies_true]) ?_
  (simp (maxSteps := 4000000) only [tup2, LZ, seval, reduceCtorEq, forall_const])
  refine RetS.mk hx [] [] (dg (dig (absd zst (pad64 p)))) [] 0 (by decide) (by (simp only [LV, LZ, seval, reduceCtorEq, forall_const])) (by ((try simp only [LV, LZ, seval, reduceCtorEq, forall_const, LY, seval, reduceCtorEq, implies_true]); first | done | exact True.intro | (intros; rfl))) trivial ⟨rfl, rfl, rfl⟩
end Mv
namespace Mv
open Go
set_option maxRecDepth 20000
set_option maxHeartbeats 4000000
set_option linter.unusedSimpArgs false

structure OkS (M : Seat) : Prop extends OkH M where
  k68 : chkF M 68 f68 = true
  k212 : chkF M 212 f212 = true
  k213 : chkF M 213 f213 = true
  k320 : chkF M 320 f320 = true
  k328 : chkF M 328 f328 = true

def joinP (a b : Dg) : Pr := Pr.mk' fun j => if j < 32 then a.at j else b.at (j - 32)

theorem runs_joined {M : Seat} (ok : OkS M) (a b : Dg) : Runs M 213 [dg a, dg b] [] 0 (fun r H' k' => r = prV (joinP a b) ∧ H' = [] ∧ k' = 0) := by
  refine runs_fr ok.k213 rfl fun x hx => ?_
  have m1 : min 32 32 = 32 := rfl
  have m2 : ∀ i : Nat, (0 ≤ i) = True := fun i => eq_true (Nat.zero_le i)
  refine ex_sound 2000 _ _ _ _ ?_; (simp (maxSteps := 4000000) only [f213, c213, LM, m1, m2, ite_B, LZ, seval, reduceCtorEq, forall_const])
  refine RetS.mk hx [] [] (prV (joinP a b)) [] 0 (by decide) (by simp only [res, resP, resV, LZ, seval, reduceCtorEq, forall_const]) ?_ trivial ⟨rfl, rfl, rfl⟩
  simp only [res, resV, prV, LZ, seval, reduceCtorEq, forall_const, LY, seval, reduceCtorEq, implies_true]
  intro j hj
  rw [joinP, Pr.at_mk' _ _ hj]
  by_cases h : j < 32
  · rw [if_neg (by omega), if_pos h, if_pos h]
  · rw [if_pos (by omega), if_neg h]

def kinV (ev : Nat) (a b : Pr) (met : Bool) : V := .st 130 (.fcons 0 (.map ev) (.fcons 1 (prV a) (.fcons 65 (prV b) (.fcons 129 (.bool met) .fnil))))
/-- What a store holds. -/
structure WS where
  pres : List (Dg × Pr)
  ever : List (Dg × Pr)
  a : Pr
  b : Pr
  met : Bool
def WS.kin (w : WS) (h : Dg) (p : Pr) : WS := match lkp h w.ever with
  | none => { w with ever := updL h p w.ever }
  | some q => if ¬ q = p ∧ w.met = false then { w with a := q, b := p, met := true } else w

theorem runs_kin {M : Seat} (ok : OkS M) (w : WS) (h : Dg) (p : Pr) :
    Runs M 320 [.ptr 0 [], dg h, prV p] [(0, kinV 1 w.a w.b w.met), (1, mpV prV Pr.zero w.ever)] 2
      (fun r H' k' => r = .tup .fnil ∧ H' = [(0, kinV 1 (w.kin h p).a (w.kin h p).b (w.kin h p).met), (1, mpV prV Pr.zero (w.kin h p).ever)] ∧ k' = 2) := by
  refine runs_fr ok.k320 rfl fun x hx => ?_
  cases hl : lkp h w.ever with
  | none =>
    refine ex_sound 2000 _ _ _ _ ?_; (simp (maxSteps := 4000000) only [f320, c320, kinV, hl, LM, LZ, seval, reduceCtorEq, forall_const])
    have e : w.kin h p = { w with ever := updL h p w.ever } := by simp only [WS.kin, hl]
    rw [e]
    refine RetS.mk hx [0, 1] [] (.tup .fnil) ([(0, kinV 1 w.a w.b w.met), (1, mpV prV Pr.zero (updL h p w.ever))]) 2 (by decide) (by (simp only [LV, LZ, seval, reduceCtorEq, forall_const])) (by ((try simp only [LV, LZ, seval, reduceCtorEq, forall_const, LY, seval, reduceCtorEq, implies_true]); first | done | exact True.intro | (intros; rfl))) ?_ ⟨rfl, rfl, rfl⟩
    simp only [kinV, LMS, LY, seval, reduceCtorEq, implies_true]
  | some q =>
    by_cases hq : q = p
    · have e : w.kin h p = w := by simp only [WS.kin, hl, hq, not_true_eq_false, false_and, if_false]
      refine ex_sound 2000 _ _ _ _ ?_; (simp (maxSteps := 4000000) only [f320, c320, kinV, hl, hq, LM, LZ, seval, reduceCtorEq, forall_const])
      rw [e]
      refine RetS.mk hx [0, 1] [] (.tup .fnil) ([(0, kinV 1 w.a w.b w.met), (1, mpV prV Pr.zero w.ever)]) 2 (by decide) (by (simp only [LV, LZ, seval, reduceCtorEq, forall_const])) (by ((try simp only [LV, LZ, seval, reduceCtorEq, forall_const, LY, seval, reduceCtorEq, implies_true]); first | done | exact True.intro | (intros; rfl))) ?_ ⟨rfl, rfl, rfl⟩
      simp only [kinV, LMS, LY, seval, reduceCtorEq, implies_true]
    · cases hm : w.met with
      | true =>
        have e : w.kin h p = w := by simp [WS.kin, hl, hm]
        refine ex_sound 2000 _ _ _ _ ?_; (simp (maxSteps := 4000000) only [f320, c320, kinV, hl, hq, LM, hm, LZ, seval, reduceCtorEq, forall_const])
        rw [e]
        refine RetS.mk hx [0, 1] [] (.tup .fnil) ([(0, kinV 1 w.a w.b w.met), (1, mpV prV Pr.zero w.ever)]) 2 (by decide) (by (simp only [LV, LZ, seval, reduceCtorEq, forall_const])) (by ((try simp only [LV, LZ, seval, reduceCtorEq, forall_const, LY, seval, reduceCtorEq, implies_true]); first | done | exact True.intro | (intros; rfl))) ?_ ⟨rfl, rfl, rfl⟩
        simp only [kinV, hm, LMS, LY, seval, reduceCtorEq, implies_true]
      | false =>
        have e : w.kin h p = { w with a := q, b := p, met := true } := by simp [WS.kin, hl, hm, hq]
        refine ex_sound 2000 _ _ _ _ ?_; (simp (maxSteps := 4000000) only [f320, c320, kinV, hl, hq, LM, hm, LZ, seval, reduceCtorEq, forall_const])
        rw [e]
        refine RetS.mk hx [0, 1] [] (.tup .fnil) ([(0, kinV 1 q p true), (1, mpV prV Pr.zero w.ever)]) 2 (by decide) (by (simp only [LV, LZ, seval, reduceCtorEq, forall_const])) (by ((try simp only [LV, LZ, seval, reduceCtorEq, forall_const, LY, seval, reduceCtorEq, implies_true]); first | done | exact True.intro | (intros; rfl))) ?_ ⟨rfl, rfl, rfl⟩
        simp only [kinV, hm, LMS, LY, seval, reduceCtorEq, implies_true]

/-- A store, its blocks: itself, what it has, its kin, what was ever there; 4: what was asked; va: the list of it. -/
def stoV (va : V) : V := .st 4 (.fcons 0 (.map 1) (.fcons 1 (.ptr 2 []) (.fcons 2 (.map 4) (.fcons 3 va .fnil))))
def stoH (w : WS) (va : V) : Hp := [(0, stoV va), (1, mpV prV Pr.zero w.pres), (2, kinV 3 w.a w.b w.met), (3, mpV prV Pr.zero w.ever)]
def WS.add (w : WS) (p : Pr) : WS := ({ w with pres := updL (sum64 p.at) p w.pres } : WS).kin (sum64 p.at) p
theorem kin_pres (w : WS) (h : Dg) (p : Pr) : (w.kin h p).pres = w.pres := by
  unfold WS.kin; split <;> (try split) <;> rfl
theorem kin_eq (w : WS) (l : List (Dg × Pr)) (h : Dg) (p : Pr) : ({ w with pres := l } : WS).kin h p = { w.kin h p with pres := l } := by
  unfold WS.kin; dsimp only; split <;> (try split) <;> rfl
theorem runs_AddN {M : Seat} (okA : OkM M) (ok : OkS M) (w : WS) (p : Pr)  :
    Runs M 212 [.ptr 0 [], prV p] (stoH w (.nils)) 5 (fun r H' k' => r = tup2 (dg (sum64 p.at)) .nili ∧ H' = stoH (w.add p) (.nils) ∧ k' = 5) := by
  refine runs_fr ok.k212 rfl fun x hx => ?_
  have e : w.add p = { w.kin (sum64 p.at) p with pres := updL (sum64 p.at) p w.pres } := by rw [WS.add, kin_eq]
  refine ex_sound 2000 _ _ _ _ ?_; (simp (maxSteps := 4000000) only [f212, c212, stoH, stoV, LM, LZ, seval, reduceCtorEq, forall_const])
  refine call_pA (runs_Sum64 okA ok.toOkH p.at) (by ((try simp only [prV, LY, seval, reduceCtorEq, implies_true]); first | done | exact True.intro | rfl)) (by first | rfl | (simp only [LN, LP, V.ren, tup2, tup3])) (by simp only [prV, LX, implies_true]) ?_
  (simp (maxSteps := 4000000) only [LM, LZ, seval, reduceCtorEq, forall_const])
  refine opd_mA [2, 3] (runs_kin ok w (sum64 p.at) p) (by decide) (by rfl) (by ((try simp only [LMS, kinV, LY, seval, reduceCtorEq, implies_true]); first | done | exact True.intro | rfl)) (by ((try simp only [LMS, kinV, LY, seval, reduceCtorEq, implies_true]); first | done | exact True.intro | rfl)) (by simp only [LMS, kinV, LX, implies_true]) (by simp only [LMS, kinV, LX, implies_true]) ?_
  (simp (maxSteps := 4000000) only [LM, kinV, LZ, seval, reduceCtorEq, forall_const])
  refine RetS.mk hx [0, 1, 2, 3, 4] [] (tup2 (dg (sum64 p.at)) .nili) (stoH (w.add p) (.nils)) 5 (by decide) (by (simp only [LV, LZ, seval, reduceCtorEq, forall_const])) (by ((try simp only [LV, LZ, seval, reduceCtorEq, forall_const, LY, seval, reduceCtorEq, implies_true]); first | done | exact True.intro | (intros; rfl))) ?_ ⟨rfl, rfl, rfl⟩
  all_goals simp only [stoH, stoV, e, kinV, LMS, LY, seval, reduceCtorEq, implies_true]
def wNew : Nat → WS
  | 0 => ⟨[], [], Pr.zero, Pr.zero, false⟩
  | n + 1 => (wNew n).add (joinP (nought n) (nought n))
def seenV (l : List (Dg × Bool)) : V := mpV V.bool false l
def stoH' (w : WS) (va : V) (l : List (Dg × Bool)) : Hp := [(0, stoV va), (1, mpV prV Pr.zero w.pres), (2, kinV 3 w.a w.b w.met), (3, mpV prV Pr.zero w.ever), (4, seenV l)]
theorem Sim_seen (H : Hp) (m z : List Nat) (l : List (Dg × Bool)) : Sim H m z (seenV l) (seenV l) = True := eq_true (Sim_mpV H m z V.bool (fun _ => rfl) false l)
theorem NoIm_seen (l : List (Dg × Bool)) : NoIm (seenV l) = True := eq_true (NoIm_mpV V.bool (fun _ => trivial) false l)
theorem ren_seen (m : List Nat) (l : List (Dg × Bool)) : (seenV l).ren m = seenV l := ren_mpV m V.bool (fun _ => rfl) false l

theorem runs_New {M : Seat} (okA : OkM M) (ok : OkS M) : Runs M 68 [] [] 0 (fun r H' k' => r = .ptr 0 [] ∧ H' = stoH' (wNew 16) .nils [] ∧ k' = 5) := by
  refine runs_fr ok.k68 rfl fun x hx => ?_
  refine ex_sound 2000 _ _ _ _ ?_; (simp (maxSteps := 4000000) only [f68, c68, LM, LZ, seval, reduceCtorEq, forall_const])
  refine loop_rule (σ := Nat) (fun n => n ≤ 16) (fun n => fr 27 [(1, .ptr 0 []), (12, .int .i64 n)]) (fun n => stoH' (wNew n) .nils []) (fun _ => 5) (fun n => 16 - n) 0 (by omega) ?_ ?_
  · refine Weak.fr [112, 16, 64, 32, 80] [] hx (by simp only [fr_length]) (by decide) ?_ ?_
    · simp only [LY, seval, reduceCtorEq, implies_true]
    · simp only [stoH', stoV, kinV, wNew, seenV, pr0, LMS, LY, seval, reduceCtorEq, implies_true]
  · intro n hn
    refine ex_sound 2000 _ _ _ _ ?_
    by_cases h16 : n = 16
    · subst h16
      (simp (maxSteps := 4000000) only [LZ, seval, reduceCtorEq, forall_const])
      refine RetS.mk hx [0, 1, 2, 3, 4] [] (.ptr 0 []) (stoH' (wNew 16) .nils []) 5 (by decide) (by (simp only [LV, LZ, seval, reduceCtorEq, forall_const])) (by ((try simp only [LV, LZ, seval, reduceCtorEq, forall_const, LY, seval, reduceCtorEq, implies_true]); first | done | exact True.intro | (intros; rfl))) ?_ ⟨rfl, rfl, rfl⟩
      all_goals simp only [stoH', stoV, kinV, Sim_seen, LMS, LY, seval, reduceCtorEq, implies_true]
    · have d0 : ((n : Int) < 16) = True := eq_true (by omega)
      have w0 : IntKind.i64.wrap ((n : Int) + 1) = ((n + 1 : Nat) : Int) := by rw [wrap_i64 (by omega)]; omega
      (simp (maxSteps := 4000000) only [d0, stoH', LZ, seval, reduceCtorEq, forall_const])
      refine call_pZ (runs_Zero okA n (by omega)) ?_
      (simp (maxSteps := 4000000) only [tup2, LZ, seval, reduceCtorEq, forall_const])
      refine call_pA (runs_joined ok (nought n) (nought n)) (by ((try simp only [LMS, LY, seval, reduceCtorEq, implies_true]); first | done | exact True.intro | rfl)) (by first | rfl | (simp only [LN, LP, V.ren, tup2, tup3])) (by simp only [LMS, LX, implies_true]) ?_
      (simp (maxSteps := 4000000) only [LM, LZ, seval, reduceCtorEq, forall_const])
      refine call_mB [0, 1, 2, 3, 4] [0, 1, 2, 3] (runs_AddN okA ok (wNew n) (joinP (nought n) (nought n))) (by rfl) (by rfl) (by decide) (by rfl) (by rfl) (by ((try simp only [LMS, stoH, stoV, kinV, LY, seval, reduceCtorEq, implies_true]); first | done | exact True.intro | rfl)) (by ((try simp only [LMS, stoH, stoV, kinV, LY, seval, reduceCtorEq, implies_true]); first | done | exact True.intro | rfl)) (by simp only [LMS, stoH, stoV, kinV, LX, implies_true]) (by simp only [LMS, stoH, stoV, kinV, LX, implies_true]) ?_
      (simp (maxSteps := 4000000) only [tup2, stoH, stoV, kinV, Sim_seen, ren_seen, LM, w0, LZ, seval, reduceCtorEq, forall_const])
      refine ⟨n + 1, by omega, by omega, ?_⟩
      refine Weak.fr [0, 1, 2, 3, 4] [] hx (by simp only [fr_length]) (by decide) ?_ ?_
      · simp only [LY, seval, reduceCtorEq, implies_true]
      · simp only [stoH', stoV, kinV, wNew, Sim_seen, LMS, LY, seval, reduceCtorEq, implies_true]
end Mv
