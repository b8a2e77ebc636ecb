/- A part of the tool. -/
import Derived.Test.YtfoaeafobdamcaaDoorT
set_option linter.unusedSimpArgs false
set_option linter.unusedVariables false
namespace Mv
open Go
/-- moot/keccak.Sum -/
def c319 : LC := (.seq (.reg [⟨(some 2), .lo (.alloc (.ar 32 (.int .u8))), none⟩])
 ((.seq (.reg [⟨(some 6), .call 418 [], none⟩,
  ⟨(some 3), .lo (.mv (.t 6)), none⟩])
 ((.seq (.reg [⟨(some 7), .lo (.mv (.t 3)), none⟩,
  ⟨(some 8), .lo (.mv (.t 0)), none⟩,
  ⟨(some 9), .call 419 [(.t 7), (.t 8)], none⟩])
 ((.seq (.reg [⟨(some 11), .lo (.mv (.t 3)), none⟩,
  ⟨(some 12), .call 420 [(.t 11)], none⟩,
  ⟨(some 10), .lo (.mv (.t 12)), none⟩,
  ⟨(some 13), .lo (.ext (.t 10) 0), none⟩,
  ⟨(some 14), .lo (.ext (.t 10) 1), none⟩,
  ⟨(some 4), .lo (.alloc (.ar 32 (.int .u8))), none⟩,
  ⟨none, .lo (.store 32 (.t 4) (.t 13)), none⟩,
  ⟨(some 5), .lo (.mv (.t 14)), none⟩])
 ((.seq (.reg [⟨(some 15), .lo (.load true 32 (.t 4)), none⟩,
  ⟨none, .lo (.store 32 (.t 2) (.t 15)), none⟩])
 (.ret))))))))))
def f319 : LF := ⟨c319, 1, 0, 16, [.cell 2 true 32]⟩

/-- moot/keccak.New -/
def c418 : LC := (.seq (.reg [⟨(some 0), .lo (.mv (.c .nilp)), none⟩])
 ((.seq (.reg [⟨(some 1), .lo (.build (.st (.cons (.ar 25 (.int .u64)) (.cons .slice .nil))) []), none⟩,
  ⟨(some 2), .lo (.box (.t 1)), none⟩,
  ⟨(some 0), .lo (.mv (.t 2)), none⟩])
 (.ret))))
def f418 : LF := ⟨c418, 0, 0, 3, [.tmp 0]⟩

/-- (*moot/keccak.Hasher).Add -/
def c419 : LC := (.seq (.reg [⟨(some 4), .lo (.mv (.c .nili)), none⟩])
 ((.seq ((.seq (.reg [⟨(some 5), .lo (.mv (.t 0)), none⟩,
  ⟨(some 6), .lo (.eq false true .ptr (.t 5) (.c .nilp)), none⟩])
 (.cond (.t 6) ((.seq (.reg [⟨(some 7), .lo (.mkif 74 (.c (.int .i64 1))), none⟩,
  ⟨(some 4), .lo (.mv (.t 7)), none⟩])
 (.ret))) (.skip))))
 ((.seq (.reg [⟨(some 8), .lo (.mv (.t 0)), none⟩,
  ⟨(some 9), .lo (.mv (.t 0)), none⟩,
  ⟨(some 10), .lo (.nilc (.t 9)), none⟩,
  ⟨(some 11), .lo (.fadr 25 (.t 10)), none⟩,
  ⟨(some 12), .lo (.load false 1 (.t 11)), none⟩,
  ⟨(some 13), .lo (.mv (.t 1)), none⟩,
  ⟨(some 14), .lo (.app 1 1 (.t 12) (.t 13)), none⟩,
  ⟨(some 15), .lo (.nilc (.t 8)), none⟩,
  ⟨(some 16), .lo (.fadr 25 (.t 15)), none⟩,
  ⟨none, .lo (.store 1 (.t 16) (.t 14)), none⟩])
 ((.seq (.block 0 (.loop ((.seq ((.seq (.reg [⟨(some 17), .lo (.mv (.t 0)), none⟩,
  ⟨(some 18), .lo (.nilc (.t 17)), none⟩,
  ⟨(some 19), .lo (.fadr 25 (.t 18)), none⟩,
  ⟨(some 20), .lo (.load false 1 (.t 19)), none⟩,
  ⟨(some 21), .lo (.len 0 (.t 20)), none⟩,
  ⟨(some 22), .lo (.ari .geq (.t 21) (.c (.int .i64 136))), none⟩])
 (.cond (.t 22) (.skip) (.exit 0))))
 (.block 1 ((.seq (.regd [⟨1, 0, ⟨(some 24), .lo (.mv (.t 0)), none⟩⟩,
  ⟨2, 1, ⟨(some 25), .lo (.nilc (.t 24)), none⟩⟩,
  ⟨3, 3, ⟨(some 26), .lo (.fadr 0 (.t 25)), none⟩⟩,
  ⟨4, 7, ⟨(some 27), .lo (.load true 25 (.t 26)), none⟩⟩,
  ⟨5, 0, ⟨(some 28), .lo (.mv (.t 0)), none⟩⟩,
  ⟨6, 16, ⟨(some 29), .lo (.nilc (.t 28)), none⟩⟩,
  ⟨7, 48, ⟨(some 30), .lo (.fadr 25 (.t 29)), none⟩⟩,
  ⟨8, 112, ⟨(some 31), .lo (.load false 1 (.t 30)), none⟩⟩,
  ⟨9, 240, ⟨(some 32), .lo (.slsl 1 (.t 31) none (some (.c (.int .i64 136)))), none⟩⟩,
  ⟨10, 511, ⟨(some 33), .call 318 [(.t 27), (.t 32)], none⟩⟩,
  ⟨0, 0, ⟨(some 23), .lo (.mv (.t 0)), none⟩⟩,
  ⟨11, 2047, ⟨(some 34), .lo (.nilc (.t 23)), none⟩⟩,
  ⟨12, 4095, ⟨(some 35), .lo (.fadr 0 (.t 34)), none⟩⟩,
  ⟨13, 8191, ⟨none, .lo (.store 25 (.t 35) (.t 33)), none⟩⟩])
 (.reg [⟨(some 36), .lo (.mv (.t 0)), none⟩,
  ⟨(some 37), .lo (.mv (.t 0)), none⟩,
  ⟨(some 38), .lo (.nilc (.t 37)), none⟩,
  ⟨(some 39), .lo (.fadr 25 (.t 38)), none⟩,
  ⟨(some 40), .lo (.load false 1 (.t 39)), none⟩,
  ⟨(some 41), .lo (.slsl 1 (.t 40) (some (.c (.int .i64 136))) none), none⟩,
  ⟨(some 42), .call 277 [(.t 41)], none⟩,
  ⟨(some 43), .lo (.nilc (.t 36)), none⟩,
  ⟨(some 44), .lo (.fadr 25 (.t 43)), none⟩,
  ⟨none, .lo (.store 1 (.t 44) (.t 42)), none⟩]))))))))
 ((.seq (.reg [⟨(some 4), .lo (.mv (.c .nili)), none⟩])
 (.ret))))))))))
def f419 : LF := ⟨c419, 2, 0, 45, [.tmp 4]⟩

/-- (*moot/keccak.Hasher).Sum -/
def c420 : LC := (.seq (.reg [⟨(some 2), .lo (.alloc (.ar 32 (.int .u8))), none⟩,
  ⟨(some 3), .lo (.mv (.c .nili)), none⟩])
 ((.seq ((.seq (.reg [⟨(some 5), .lo (.mv (.t 0)), none⟩,
  ⟨(some 6), .lo (.eq false true .ptr (.t 5) (.c .nilp)), none⟩])
 (.cond (.t 6) ((.seq (.reg [⟨(some 7), .lo (.build (.ar 32 (.int .u8)) []), none⟩,
  ⟨(some 8), .lo (.mkif 74 (.c (.int .i64 1))), none⟩,
  ⟨none, .lo (.store 32 (.t 2) (.t 7)), none⟩,
  ⟨(some 3), .lo (.mv (.t 8)), none⟩])
 (.ret))) (.skip))))
 ((.seq (.reg [⟨(some 9), .lo (.mksl 1 1 (.int .u8) (.c (.int .i64 136)) (.c (.int .i64 136))), none⟩,
  ⟨(some 4), .lo (.mv (.t 9)), none⟩])
 ((.seq (.reg [⟨(some 10), .lo (.mv (.t 4)), none⟩,
  ⟨(some 11), .lo (.mv (.t 0)), none⟩,
  ⟨(some 12), .lo (.nilc (.t 11)), none⟩,
  ⟨(some 13), .lo (.fadr 25 (.t 12)), none⟩,
  ⟨(some 14), .lo (.load false 1 (.t 13)), none⟩,
  ⟨(some 15), .lo (.copy 1 (.t 10) (.t 14)), none⟩])
 ((.seq (.reg [⟨(some 16), .lo (.mv (.t 4)), none⟩,
  ⟨(some 17), .lo (.mv (.t 0)), none⟩,
  ⟨(some 18), .lo (.nilc (.t 17)), none⟩,
  ⟨(some 19), .lo (.fadr 25 (.t 18)), none⟩,
  ⟨(some 20), .lo (.load false 1 (.t 19)), none⟩,
  ⟨(some 21), .lo (.len 0 (.t 20)), none⟩,
  ⟨(some 22), .lo (.isl 1 (.t 16) (.t 21)), none⟩,
  ⟨(some 23), .lo (.load false 1 (.t 22)), none⟩,
  ⟨(some 24), .lo (.ari .xor (.t 23) (.c (.int .u8 1))), none⟩,
  ⟨(some 25), .lo (.isl 1 (.t 16) (.t 21)), none⟩,
  ⟨none, .lo (.store 1 (.t 25) (.t 24)), none⟩])
 ((.seq (.reg [⟨(some 26), .lo (.mv (.t 4)), none⟩,
  ⟨(some 27), .lo (.isl 1 (.t 26) (.c (.int .i64 135))), none⟩,
  ⟨(some 28), .lo (.load false 1 (.t 27)), none⟩,
  ⟨(some 29), .lo (.ari .xor (.t 28) (.c (.int .u8 128))), none⟩,
  ⟨(some 30), .lo (.isl 1 (.t 26) (.c (.int .i64 135))), none⟩,
  ⟨none, .lo (.store 1 (.t 30) (.t 29)), none⟩])
 ((.seq (.reg [⟨(some 31), .lo (.mv (.t 0)), none⟩,
  ⟨(some 32), .lo (.nilc (.t 31)), none⟩,
  ⟨(some 33), .lo (.fadr 0 (.t 32)), none⟩,
  ⟨(some 34), .lo (.load true 25 (.t 33)), none⟩,
  ⟨(some 35), .lo (.mv (.t 4)), none⟩,
  ⟨(some 36), .call 318 [(.t 34), (.t 35)], none⟩,
  ⟨(some 37), .call 317 [(.t 36)], none⟩,
  ⟨none, .lo (.store 32 (.t 2) (.t 37)), none⟩,
  ⟨(some 3), .lo (.mv (.c .nili)), none⟩])
 (.ret))))))))))))))
def f420 : LF := ⟨c420, 1, 0, 38, [.cell 2 true 32, .tmp 3]⟩

/-- slices.Clone[[]byte,byte] -/
def c277 : LC := (.seq (.reg [⟨(some 2), .lo (.mv (.c .nils)), none⟩])
 ((.seq ((.seq (.reg [⟨(some 3), .lo (.mv (.t 0)), none⟩,
  ⟨(some 4), .lo (.eq false true (.nils 0) (.t 3) (.c .nils)), none⟩])
 (.cond (.t 4) ((.seq (.reg [⟨(some 2), .lo (.mv (.c .nils)), none⟩])
 (.ret))) (.skip))))
 ((.seq (.reg [⟨(some 5), .lo (.bsl 1 0 (.int .u8) []), none⟩,
  ⟨(some 6), .lo (.mv (.t 0)), none⟩,
  ⟨(some 7), .lo (.app 1 1 (.t 5) (.t 6)), none⟩,
  ⟨(some 2), .lo (.mv (.t 7)), none⟩])
 (.ret))))))
def f277 : LF := ⟨c277, 1, 0, 8, [.tmp 2]⟩

/-- moot/octets.Word -/
def c308 : LC := (.seq (.reg [⟨(some 2), .lo (.mv (.c (.int .u64 0))), none⟩])
 ((.seq (.reg [⟨(some 3), .lo (.mv (.c (.int .u64 0))), none⟩])
 ((.seq ((.seq (.reg [⟨(some 6), .lo (.mv (.t 0)), none⟩,
  ⟨(some 7), .lo (.slsl 1 (.t 6) none (some (.c (.int .i64 8)))), none⟩,
  ⟨(some 8), .lo (.len 0 (.t 7)), none⟩,
  ⟨(some 9), .lo (.mv (.c (.int .i64 0))), none⟩])
 (.block 0 (.loop ((.seq (.reg [⟨(some 10), .lo (.ari .lss (.t 9) (.t 8)), none⟩])
 ((.seq (.cond (.t 10) (.skip) (.exit 0))
 ((.seq (.block 1 ((.seq (.reg [⟨(some 11), .lo (.isl 1 (.t 7) (.t 9)), none⟩,
  ⟨(some 12), .lo (.load false 1 (.t 11)), none⟩,
  ⟨(some 5), .lo (.mv (.t 12)), none⟩])
 (.reg [⟨(some 13), .lo (.mv (.t 3)), none⟩,
  ⟨(some 14), .lo (.ari .shl (.t 13) (.c (.int .u64 8))), none⟩,
  ⟨(some 15), .lo (.mv (.t 5)), none⟩,
  ⟨(some 16), .lo (.conv .u64 (.t 15)), none⟩,
  ⟨(some 17), .lo (.ari .or (.t 14) (.t 16)), none⟩,
  ⟨(some 3), .lo (.mv (.t 17)), none⟩]))))
 (.reg [⟨(some 18), .lo (.ari .add (.t 9) (.c (.int .i64 1))), none⟩,
  ⟨(some 9), .lo (.mv (.t 18)), none⟩])))))))))))
 ((.seq (.reg [⟨(some 19), .lo (.mv (.t 3)), none⟩,
  ⟨(some 2), .lo (.mv (.t 19)), none⟩])
 (.ret))))))))
def f308 : LF := ⟨c308, 1, 0, 20, [.tmp 2]⟩

/-- moot/octets.Add -/
def c327 : LC := (.seq (.reg [⟨(some 4), .lo (.mv (.c .nils)), none⟩])
 ((.seq (.reg [⟨(some 5), .lo (.alloc (.ar 8 (.int .u8))), none⟩])
 ((.seq (.reg [⟨(some 6), .lo (.slarr 8 1 (.t 5) none none), none⟩,
  ⟨(some 7), .lo (.mv (.t 1)), none⟩,
  ⟨(some 8), .call 312 [(.t 6), (.t 7)], none⟩])
 ((.seq (.reg [⟨(some 9), .lo (.mv (.t 0)), none⟩,
  ⟨(some 10), .lo (.slarr 8 1 (.t 5) none none), none⟩,
  ⟨(some 11), .lo (.app 1 1 (.t 9) (.t 10)), none⟩,
  ⟨(some 4), .lo (.mv (.t 11)), none⟩])
 (.ret))))))))
def f327 : LF := ⟨c327, 2, 0, 12, [.tmp 4]⟩

/-- moot/witness.New -/
def c68 : LC := (.seq (.reg [⟨(some 0), .lo (.mv (.c .nilp)), none⟩])
 ((.seq (.reg [⟨(some 5), .lo (.mkmap (.ar 32 (.int .u8)) (.ar 64 (.int .u8))), none⟩,
  ⟨(some 6), .lo (.mkmap (.ar 32 (.int .u8)) (.ar 64 (.int .u8))), none⟩,
  ⟨(some 7), .lo (.build (.st (.cons .map (.cons (.ar 64 (.int .u8)) (.cons (.ar 64 (.int .u8)) (.cons .bool .nil))))) [(.f 0, 1, (.t 6))]), none⟩,
  ⟨(some 8), .lo (.box (.t 7)), none⟩,
  ⟨(some 9), .lo (.mkmap (.ar 32 (.int .u8)) .bool), none⟩,
  ⟨(some 10), .lo (.build (.st (.cons .map (.cons .ptr (.cons .map (.cons .slice .nil))))) [(.f 0, 1, (.t 5)), (.f 1, 1, (.t 8)), (.f 2, 1, (.t 9))]), none⟩,
  ⟨(some 11), .lo (.box (.t 10)), none⟩,
  ⟨(some 1), .lo (.mv (.t 11)), none⟩])
 ((.seq ((.seq (.reg [⟨(some 12), .lo (.mv (.c (.int .i64 0))), none⟩])
 (.block 0 (.loop ((.seq (.reg [⟨(some 13), .lo (.ari .lss (.t 12) (.c (.int .i64 16))), none⟩])
 ((.seq (.cond (.t 13) (.skip) (.exit 0))
 ((.seq (.block 1 ((.seq (.reg [⟨(some 14), .lo (.mv (.t 12)), none⟩,
  ⟨(some 2), .lo (.mv (.t 14)), none⟩])
 ((.seq (.reg [⟨(some 16), .lo (.mv (.t 2)), none⟩,
  ⟨(some 17), .call 197 [(.t 16)], none⟩,
  ⟨(some 15), .lo (.mv (.t 17)), none⟩,
  ⟨(some 18), .lo (.ext (.t 15) 0), none⟩,
  ⟨(some 19), .lo (.ext (.t 15) 1), none⟩,
  ⟨(some 3), .lo (.alloc (.ar 32 (.int .u8))), none⟩,
  ⟨none, .lo (.store 32 (.t 3) (.t 18)), none⟩,
  ⟨(some 4), .lo (.mv (.t 19)), none⟩])
 (.reg [⟨(some 20), .lo (.mv (.t 1)), none⟩,
  ⟨(some 21), .lo (.load true 32 (.t 3)), none⟩,
  ⟨(some 22), .lo (.load true 32 (.t 3)), none⟩,
  ⟨(some 23), .call 213 [(.t 21), (.t 22)], none⟩,
  ⟨(some 24), .call 212 [(.t 20), (.t 23)], none⟩]))))))
 (.reg [⟨(some 25), .lo (.ari .add (.t 12) (.c (.int .i64 1))), none⟩,
  ⟨(some 12), .lo (.mv (.t 25)), none⟩])))))))))))
 ((.seq (.reg [⟨(some 26), .lo (.mv (.t 1)), none⟩,
  ⟨(some 0), .lo (.mv (.t 26)), none⟩])
 (.ret))))))))
def f68 : LF := ⟨c68, 0, 0, 27, [.tmp 0]⟩

/-- (*moot/witness.Store).Add -/
def c212 : LC := (.seq (.reg [⟨(some 3), .lo (.box (.t 1)), none⟩,
  ⟨(some 4), .lo (.alloc (.ar 32 (.int .u8))), none⟩,
  ⟨(some 5), .lo (.mv (.c .nili)), none⟩])
 ((.seq ((.seq (.reg [⟨(some 7), .lo (.mv (.t 0)), none⟩,
  ⟨(some 8), .lo (.eq false true .ptr (.t 7) (.c .nilp)), none⟩])
 (.cond (.t 8) ((.seq (.reg [⟨(some 9), .lo (.build (.ar 32 (.int .u8)) []), none⟩,
  ⟨(some 10), .lo (.mkif 74 (.c (.int .i64 1))), none⟩,
  ⟨none, .lo (.store 32 (.t 4) (.t 9)), none⟩,
  ⟨(some 5), .lo (.mv (.t 10)), none⟩])
 (.ret))) (.skip))))
 ((.seq (.reg [⟨(some 11), .lo (.slarr 64 1 (.t 3) none none), none⟩,
  ⟨(some 12), .call 319 [(.t 11)], none⟩,
  ⟨(some 6), .lo (.alloc (.ar 32 (.int .u8))), none⟩,
  ⟨none, .lo (.store 32 (.t 6) (.t 12)), none⟩])
 ((.seq (.regd [⟨0, 0, ⟨(some 13), .lo (.mv (.t 0)), none⟩⟩,
  ⟨1, 1, ⟨(some 14), .lo (.nilc (.t 13)), none⟩⟩,
  ⟨2, 3, ⟨(some 15), .lo (.fadr 0 (.t 14)), none⟩⟩,
  ⟨3, 7, ⟨(some 16), .lo (.load false 1 (.t 15)), none⟩⟩,
  ⟨4, 0, ⟨(some 17), .lo (.load true 32 (.t 6)), none⟩⟩,
  ⟨5, 0, ⟨(some 18), .lo (.load true 64 (.t 3)), none⟩⟩,
  ⟨6, 63, ⟨none, .lo (.mupd (.ar 32 1 false .int) (.t 16) (.t 17) (.t 18)), none⟩⟩])
 ((.seq (.regd [⟨0, 0, ⟨(some 19), .lo (.mv (.t 0)), none⟩⟩,
  ⟨1, 1, ⟨(some 20), .lo (.nilc (.t 19)), none⟩⟩,
  ⟨2, 3, ⟨(some 21), .lo (.fadr 1 (.t 20)), none⟩⟩,
  ⟨3, 7, ⟨(some 22), .lo (.load false 1 (.t 21)), none⟩⟩,
  ⟨4, 0, ⟨(some 23), .lo (.load true 32 (.t 6)), none⟩⟩,
  ⟨5, 0, ⟨(some 24), .lo (.load true 64 (.t 3)), none⟩⟩,
  ⟨6, 63, ⟨(some 25), .call 320 [(.t 22), (.t 23), (.t 24)], none⟩⟩])
 ((.seq (.reg [⟨(some 26), .lo (.load true 32 (.t 6)), none⟩,
  ⟨none, .lo (.store 32 (.t 4) (.t 26)), none⟩,
  ⟨(some 5), .lo (.mv (.c .nili)), none⟩])
 (.ret))))))))))))
def f212 : LF := ⟨c212, 2, 0, 27, [.cell 4 true 32, .tmp 5]⟩

/-- moot/witness.joined -/
def c213 : LC := (.seq (.reg [⟨(some 2), .lo (.box (.t 0)), none⟩,
  ⟨(some 3), .lo (.box (.t 1)), none⟩,
  ⟨(some 4), .lo (.alloc (.ar 64 (.int .u8))), none⟩])
 ((.seq (.reg [⟨(some 5), .lo (.alloc (.ar 64 (.int .u8))), none⟩])
 ((.seq (.regd [⟨0, 0, ⟨(some 6), .lo (.slarr 64 1 (.t 5) none (some (.c (.int .i64 32)))), none⟩⟩,
  ⟨1, 0, ⟨(some 7), .lo (.slarr 32 1 (.t 2) none none), none⟩⟩,
  ⟨2, 3, ⟨(some 8), .lo (.copy 1 (.t 6) (.t 7)), none⟩⟩])
 ((.seq (.regd [⟨0, 0, ⟨(some 9), .lo (.slarr 64 1 (.t 5) (some (.c (.int .i64 32))) none), none⟩⟩,
  ⟨1, 0, ⟨(some 10), .lo (.slarr 32 1 (.t 3) none none), none⟩⟩,
  ⟨2, 3, ⟨(some 11), .lo (.copy 1 (.t 9) (.t 10)), none⟩⟩])
 ((.seq (.reg [⟨(some 12), .lo (.load true 64 (.t 5)), none⟩,
  ⟨none, .lo (.store 64 (.t 4) (.t 12)), none⟩])
 (.ret))))))))))
def f213 : LF := ⟨c213, 2, 0, 13, [.cell 4 true 64]⟩

/-- (*moot/witness.kin).add -/
def c320 : LC := (.seq (.reg [⟨(some 4), .lo (.box (.t 1)), none⟩,
  ⟨(some 5), .lo (.box (.t 2)), none⟩])
 ((.seq (.regd [⟨0, 0, ⟨(some 9), .lo (.mv (.t 0)), none⟩⟩,
  ⟨1, 1, ⟨(some 10), .lo (.nilc (.t 9)), none⟩⟩,
  ⟨2, 3, ⟨(some 11), .lo (.fadr 0 (.t 10)), none⟩⟩,
  ⟨3, 7, ⟨(some 12), .lo (.load false 1 (.t 11)), none⟩⟩,
  ⟨4, 0, ⟨(some 13), .lo (.load true 32 (.t 4)), none⟩⟩,
  ⟨5, 31, ⟨(some 14), .lo (.mlook (.ar 32 1 false .int) (.ar 64 (.int .u8)) true (.t 12) (.t 13)), none⟩⟩,
  ⟨6, 63, ⟨(some 8), .lo (.mv (.t 14)), none⟩⟩,
  ⟨7, 127, ⟨(some 15), .lo (.ext (.t 8) 0), none⟩⟩,
  ⟨9, 0, ⟨(some 6), .lo (.alloc (.ar 64 (.int .u8))), none⟩⟩,
  ⟨10, 511, ⟨none, .lo (.store 64 (.t 6) (.t 15)), none⟩⟩,
  ⟨8, 127, ⟨(some 16), .lo (.ext (.t 8) 1), none⟩⟩,
  ⟨11, 2047, ⟨(some 7), .lo (.mv (.t 16)), none⟩⟩])
 ((.seq (.reg [⟨(some 17), .lo (.mv (.t 7)), none⟩,
  ⟨(some 18), .lo (.un .not (.t 17)), none⟩])
 (.cond (.t 18) (.regd [⟨0, 0, ⟨(some 19), .lo (.mv (.t 0)), none⟩⟩,
  ⟨1, 1, ⟨(some 20), .lo (.nilc (.t 19)), none⟩⟩,
  ⟨2, 3, ⟨(some 21), .lo (.fadr 0 (.t 20)), none⟩⟩,
  ⟨3, 7, ⟨(some 22), .lo (.load false 1 (.t 21)), none⟩⟩,
  ⟨4, 0, ⟨(some 23), .lo (.load true 32 (.t 4)), none⟩⟩,
  ⟨5, 0, ⟨(some 24), .lo (.load true 64 (.t 5)), none⟩⟩,
  ⟨6, 63, ⟨none, .lo (.mupd (.ar 32 1 false .int) (.t 22) (.t 23) (.t 24)), none⟩⟩]) ((.seq (.reg [⟨(some 25), .lo (.load true 64 (.t 6)), none⟩,
  ⟨(some 26), .lo (.load true 64 (.t 5)), none⟩,
  ⟨(some 27), .lo (.eq true false (.ar 64 1 false .int) (.t 25) (.t 26)), none⟩,
  ⟨(some 28), .lo (.mv (.t 27)), none⟩,
  ⟨(some 29), .lo (.mv (.t 0)), (some (28, true))⟩,
  ⟨(some 30), .lo (.nilc (.t 29)), (some (28, true))⟩,
  ⟨(some 31), .lo (.fadr 129 (.t 30)), (some (28, true))⟩,
  ⟨(some 32), .lo (.load false 1 (.t 31)), (some (28, true))⟩,
  ⟨(some 33), .lo (.un .not (.t 32)), (some (28, true))⟩,
  ⟨(some 34), .lo (.pick (.t 28) (.t 33) (.c (.bool false))), none⟩])
 (.cond (.t 34) (.regd [⟨0, 0, ⟨(some 35), .lo (.mv (.t 0)), none⟩⟩,
  ⟨3, 0, ⟨(some 38), .lo (.load true 64 (.t 6)), none⟩⟩,
  ⟨5, 3, ⟨(some 40), .lo (.nilc (.t 35)), none⟩⟩,
  ⟨6, 7, ⟨(some 41), .lo (.fadr 1 (.t 40)), none⟩⟩,
  ⟨7, 15, ⟨none, .lo (.store 64 (.t 41) (.t 38)), none⟩⟩,
  ⟨1, 0, ⟨(some 36), .lo (.mv (.t 0)), none⟩⟩,
  ⟨4, 0, ⟨(some 39), .lo (.load true 64 (.t 5)), none⟩⟩,
  ⟨8, 127, ⟨(some 42), .lo (.nilc (.t 36)), none⟩⟩,
  ⟨9, 255, ⟨(some 43), .lo (.fadr 65 (.t 42)), none⟩⟩,
  ⟨10, 511, ⟨none, .lo (.store 64 (.t 43) (.t 39)), none⟩⟩,
  ⟨2, 0, ⟨(some 37), .lo (.mv (.t 0)), none⟩⟩,
  ⟨11, 2047, ⟨(some 44), .lo (.nilc (.t 37)), none⟩⟩,
  ⟨12, 4095, ⟨(some 45), .lo (.fadr 129 (.t 44)), none⟩⟩,
  ⟨13, 8191, ⟨none, .lo (.store 1 (.t 45) (.c (.bool true))), none⟩⟩]) (.skip))))))))))
def f320 : LF := ⟨c320, 3, 0, 46, []⟩

/-- (*moot/witness.Store).Get -/
def c328 : LC := (.seq (.reg [⟨(some 3), .lo (.box (.t 1)), none⟩,
  ⟨(some 4), .lo (.alloc (.ar 64 (.int .u8))), none⟩,
  ⟨(some 5), .lo (.mv (.c .nili)), none⟩])
 ((.seq ((.seq (.reg [⟨(some 8), .lo (.mv (.t 0)), none⟩,
  ⟨(some 9), .lo (.eq false true .ptr (.t 8) (.c .nilp)), none⟩])
 (.cond (.t 9) ((.seq (.reg [⟨(some 10), .lo (.build (.ar 64 (.int .u8)) []), none⟩,
  ⟨(some 11), .lo (.mkif 74 (.c (.int .i64 1))), none⟩,
  ⟨none, .lo (.store 64 (.t 4) (.t 10)), none⟩,
  ⟨(some 5), .lo (.mv (.t 11)), none⟩])
 (.ret))) (.skip))))
 ((.seq ((.seq (.regd [⟨0, 0, ⟨(some 12), .lo (.mv (.t 0)), none⟩⟩,
  ⟨1, 1, ⟨(some 13), .lo (.nilc (.t 12)), none⟩⟩,
  ⟨2, 3, ⟨(some 14), .lo (.fadr 2 (.t 13)), none⟩⟩,
  ⟨3, 7, ⟨(some 15), .lo (.load false 1 (.t 14)), none⟩⟩,
  ⟨4, 0, ⟨(some 16), .lo (.load true 32 (.t 3)), none⟩⟩,
  ⟨5, 31, ⟨(some 17), .lo (.mlook (.ar 32 1 false .int) .bool false (.t 15) (.t 16)), none⟩⟩,
  ⟨6, 63, ⟨(some 18), .lo (.un .not (.t 17)), none⟩⟩])
 (.cond (.t 18) ((.seq (.regd [⟨0, 0, ⟨(some 19), .lo (.mv (.t 0)), none⟩⟩,
  ⟨1, 1, ⟨(some 20), .lo (.nilc (.t 19)), none⟩⟩,
  ⟨2, 3, ⟨(some 21), .lo (.fadr 2 (.t 20)), none⟩⟩,
  ⟨3, 7, ⟨(some 22), .lo (.load false 1 (.t 21)), none⟩⟩,
  ⟨4, 0, ⟨(some 23), .lo (.load true 32 (.t 3)), none⟩⟩,
  ⟨5, 31, ⟨none, .lo (.mupd (.ar 32 1 false .int) (.t 22) (.t 23) (.c (.bool true))), none⟩⟩])
 (.regd [⟨1, 0, ⟨(some 25), .lo (.mv (.t 0)), none⟩⟩,
  ⟨2, 1, ⟨(some 26), .lo (.nilc (.t 25)), none⟩⟩,
  ⟨3, 3, ⟨(some 27), .lo (.fadr 3 (.t 26)), none⟩⟩,
  ⟨4, 7, ⟨(some 28), .lo (.load false 1 (.t 27)), none⟩⟩,
  ⟨5, 0, ⟨(some 29), .lo (.load true 32 (.t 3)), none⟩⟩,
  ⟨6, 16, ⟨(some 30), .lo (.bsl 32 1 (.ar 32 (.int .u8)) [(.i 32 0, 32, (.t 29))]), none⟩⟩,
  ⟨7, 63, ⟨(some 31), .lo (.app 32 32 (.t 28) (.t 30)), none⟩⟩,
  ⟨0, 0, ⟨(some 24), .lo (.mv (.t 0)), none⟩⟩,
  ⟨8, 255, ⟨(some 32), .lo (.nilc (.t 24)), none⟩⟩,
  ⟨9, 511, ⟨(some 33), .lo (.fadr 3 (.t 32)), none⟩⟩,
  ⟨10, 1023, ⟨none, .lo (.store 1 (.t 33) (.t 31)), none⟩⟩]))) (.skip))))
 ((.seq (.regd [⟨0, 0, ⟨(some 35), .lo (.mv (.t 0)), none⟩⟩,
  ⟨1, 1, ⟨(some 36), .lo (.nilc (.t 35)), none⟩⟩,
  ⟨2, 3, ⟨(some 37), .lo (.fadr 0 (.t 36)), none⟩⟩,
  ⟨3, 7, ⟨(some 38), .lo (.load false 1 (.t 37)), none⟩⟩,
  ⟨4, 0, ⟨(some 39), .lo (.load true 32 (.t 3)), none⟩⟩,
  ⟨5, 31, ⟨(some 40), .lo (.mlook (.ar 32 1 false .int) (.ar 64 (.int .u8)) true (.t 38) (.t 39)), none⟩⟩,
  ⟨6, 63, ⟨(some 34), .lo (.mv (.t 40)), none⟩⟩,
  ⟨7, 127, ⟨(some 41), .lo (.ext (.t 34) 0), none⟩⟩,
  ⟨9, 0, ⟨(some 6), .lo (.alloc (.ar 64 (.int .u8))), none⟩⟩,
  ⟨10, 511, ⟨none, .lo (.store 64 (.t 6) (.t 41)), none⟩⟩,
  ⟨8, 127, ⟨(some 42), .lo (.ext (.t 34) 1), none⟩⟩,
  ⟨11, 2047, ⟨(some 7), .lo (.mv (.t 42)), none⟩⟩])
 ((.seq ((.seq (.reg [⟨(some 43), .lo (.mv (.t 7)), none⟩,
  ⟨(some 44), .lo (.un .not (.t 43)), none⟩])
 (.cond (.t 44) ((.seq (.reg [⟨(some 45), .lo (.build (.ar 64 (.int .u8)) []), none⟩,
  ⟨(some 46), .lo (.mkif 74 (.c (.int .i64 14))), none⟩,
  ⟨none, .lo (.store 64 (.t 4) (.t 45)), none⟩,
  ⟨(some 5), .lo (.mv (.t 46)), none⟩])
 (.ret))) (.skip))))
 ((.seq (.reg [⟨(some 47), .lo (.load true 64 (.t 6)), none⟩,
  ⟨none, .lo (.store 64 (.t 4) (.t 47)), none⟩,
  ⟨(some 5), .lo (.mv (.c .nili)), none⟩])
 (.ret))))))))))))
def f328 : LF := ⟨c328, 2, 0, 48, [.cell 4 true 64, .tmp 5]⟩

/-- (*moot/witness.Store).Len -/
def c72 : LC := (.seq (.reg [⟨(some 2), .lo (.mv (.c (.int .i64 0))), none⟩])
 ((.seq ((.seq (.reg [⟨(some 3), .lo (.mv (.t 0)), none⟩,
  ⟨(some 4), .lo (.eq false true .ptr (.t 3) (.c .nilp)), none⟩])
 (.cond (.t 4) ((.seq (.reg [⟨(some 2), .lo (.mv (.c (.int .i64 0))), none⟩])
 (.ret))) (.skip))))
 ((.seq (.reg [⟨(some 5), .lo (.mv (.t 0)), none⟩,
  ⟨(some 6), .lo (.nilc (.t 5)), none⟩,
  ⟨(some 7), .lo (.fadr 0 (.t 6)), none⟩,
  ⟨(some 8), .lo (.load false 1 (.t 7)), none⟩,
  ⟨(some 9), .lo (.len 2 (.t 8)), none⟩,
  ⟨(some 2), .lo (.mv (.t 9)), none⟩])
 (.ret))))))
def f72 : LF := ⟨c72, 1, 0, 10, [.tmp 2]⟩

end Mv
