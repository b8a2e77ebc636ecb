/- The small language: what its programs mean. -/
import Derived.Test.YtdenaplelfkecaaDoorT
import Derived.Test.YtdenaplelfkecaaDoorW1
set_option linter.unusedSimpArgs false
set_option linter.unusedVariables false
namespace Mv
open Go
/-- (*moot/ir.runner).call -/
def c238 : LC := (.seq (.reg [A1 6 (.mv (.c (.int .u64 0)))])
 ((.seq (.reg [A1 10 (.mv (.t 0)),
  A1 11 (.nilc (.t 10)),
  A1 12 (.fadr 0 (.t 11)),
  A1 13 (.load false 1 (.t 12)),
  A1 14 (.mv (.t 1)),
  A1 15 (.isl 3 (.t 13) (.t 14)),
  A1 16 (.fadr 1 (.t 15)),
  A1 17 (.load false 1 (.t 16)),
  A1 18 (.mksl 1 8 (.int .u64) (.t 17) (.t 17)),
  A1 7 (.mv (.t 18))])
 ((.seq (.reg [A1 19 (.mv (.t 7)),
  A1 20 (.mv (.t 2)),
  A1 21 (.copy 1 (.t 19) (.t 20))])
 ((.seq (.reg [A1 23 (.mv (.t 0)),
  A1 24 (.mv (.t 0)),
  A1 25 (.nilc (.t 24)),
  A1 26 (.fadr 0 (.t 25)),
  A1 27 (.load false 1 (.t 26)),
  A1 28 (.mv (.t 1)),
  A1 29 (.isl 3 (.t 27) (.t 28)),
  A1 30 (.fadr 2 (.t 29)),
  A1 31 (.load false 1 (.t 30)),
  A1 32 (.mv (.t 7)),
  ⟨(some 33), .call 341 [(.t 23), (.t 31), (.t 32)], none⟩,
  A1 22 (.mv (.t 33)),
  A1 34 (.ext (.t 22) 0),
  A1 35 (.ext (.t 22) 1),
  A1 8 (.mv (.t 34)),
  A1 9 (.mv (.t 35))])
 ((.seq (.reg [A1 36 (.mv (.t 8)),
  A1 6 (.mv (.t 36))])
 (.ret))))))))))
def f238 : LF := ⟨c238, 3, 0, 37, [.tmp 6]⟩

/-- (*moot/ir.runner).end -/
def c239 : LC := (.seq (.reg [A1 4 (.mv (.c (.int .u64 0)))])
 ((.seq ((.seq (.reg [A1 5 (.mv (.t 0)),
  A1 6 (.nilc (.t 5)),
  A1 7 (.fadr 5 (.t 6)),
  A1 8 (.load false 1 (.t 7)),
  A1 9 (.un .not (.t 8))])
 (.cond (.t 9) (.reg [A1 10 (.mv (.t 0)),
  A1 11 (.mv (.t 0)),
  A1 12 (.mv (.t 1)),
  A1 13 (.nilc (.t 10)),
  A1 14 (.fadr 5 (.t 13)),
  A0 (.store 1 (.t 14) (.c (.bool true))),
  A1 15 (.nilc (.t 11)),
  A1 16 (.fadr 7 (.t 15)),
  A0 (.store 1 (.t 16) (.t 12))]) (.skip))))
 ((.seq (.reg [A1 4 (.mv (.c (.int .u64 0)))])
 (.ret))))))
def f239 : LF := ⟨c239, 2, 0, 17, [.tmp 4]⟩

/-- (*moot/ir.runner).block -/
def c341 : LC := (.seq (.reg [A1 6 (.mv (.c (.int .u64 0))),
  A1 7 (.mv (.c (.bool false)))])
 ((.seq ((.seq (.reg [A1 12 (.mv (.t 1)),
  A1 13 (.len 0 (.t 12)),
  A1 14 (.mv (.c (.int .i64 0)))])
 (.block 0 (.loop ((.seq (.reg [A1 15 (.ari .lss (.t 14) (.t 13))])
 ((.seq (.cond (.t 15) (.skip) (.exit 0))
 ((.seq (.block 1 ((.seq (.reg [A1 16 (.isl 10 (.t 12) (.t 14)),
  A1 17 (.load true 10 (.t 16)),
  A1 9 (.alloc (.st (.cons (.int .i64) (.cons (.int .i64) (.cons (.st (.cons (.int .i64) (.cons (.int .u64) (.cons .slice .nil)))) (.cons (.st (.cons (.int .i64) (.cons (.int .u64) (.cons .slice .nil)))) (.cons .slice (.cons .slice .nil)))))))),
  A0 (.store 10 (.t 9) (.t 17))])
 ((.seq (.reg [A1 19 (.mv (.t 0)),
  A1 20 (.load true 10 (.t 9)),
  A1 21 (.mv (.t 2)),
  ⟨(some 22), .call 447 [(.t 19), (.t 20), (.t 21)], none⟩,
  A1 18 (.mv (.t 22)),
  A1 23 (.ext (.t 18) 0),
  A1 24 (.ext (.t 18) 1),
  A1 10 (.mv (.t 23)),
  A1 11 (.mv (.t 24))])
 ((.seq (.reg [A1 25 (.mv (.t 11)),
  A1 26 (.mv (.t 25)),
  A2 27 26 false (.mv (.t 0)),
  A2 28 26 false (.nilc (.t 27)),
  A2 29 26 false (.fadr 5 (.t 28)),
  A2 30 26 false (.load false 1 (.t 29)),
  A1 31 (.pick (.t 26) (.c (.bool true)) (.t 30))])
 (.cond (.t 31) ((.seq (.reg [A1 32 (.mv (.t 10)),
  A1 6 (.mv (.t 32)),
  A1 7 (.mv (.c (.bool true)))])
 (.ret))) (.skip)))))))))
 (.reg [A1 33 (.ari .add (.t 14) (.c (.int .i64 1))),
  A1 14 (.mv (.t 33))])))))))))))
 ((.seq (.reg [A1 6 (.mv (.c (.int .u64 0))),
  A1 7 (.mv (.c (.bool false)))])
 (.ret))))))
def f341 : LF := ⟨c341, 3, 0, 34, [.tmp 6, .tmp 7]⟩

/-- (*moot/ir.runner).stmt -/
def c447 : LC := (.seq (.reg [A1 4 (.box (.t 1)),
  A1 6 (.mv (.c (.int .u64 0))),
  A1 7 (.mv (.c (.bool false)))])
 ((.seq ((.seq (.reg [A1 10 (.fadr 0 (.t 4)),
  A1 11 (.load false 1 (.t 10)),
  A1 12 (.ari .eql (.t 11) (.c (.int .i64 4)))])
 (.cond (.t 12) ((.seq (.reg [A1 13 (.mv (.t 0)),
  A1 14 (.load true 10 (.t 4)),
  A1 15 (.mv (.t 2)),
  ⟨(some 16), .call 483 [(.t 13), (.t 14), (.t 15)], none⟩,
  A1 17 (.ext (.t 16) 0),
  A1 18 (.ext (.t 16) 1),
  A1 6 (.mv (.t 17)),
  A1 7 (.mv (.t 18))])
 (.ret))) (.skip))))
 ((.seq ((.seq (.reg [A1 19 (.mv (.t 0)),
  ⟨(some 20), .call 484 [(.t 19)], none⟩,
  A1 21 (.un .not (.t 20))])
 (.cond (.t 21) ((.seq (.reg [A1 6 (.mv (.c (.int .u64 0))),
  A1 7 (.mv (.c (.bool true)))])
 (.ret))) (.skip))))
 ((.seq (.reg [A1 22 (.mv (.t 0)),
  A1 23 (.fadr 2 (.t 4)),
  A1 24 (.load true 3 (.t 23)),
  A1 25 (.mv (.t 2)),
  ⟨(some 26), .call 485 [(.t 22), (.t 24), (.t 25)], none⟩,
  A1 8 (.mv (.t 26))])
 ((.seq (.block 0 ((.seq (.reg [A1 28 (.mv (.t 0)),
  A1 29 (.nilc (.t 28)),
  A1 30 (.fadr 5 (.t 29)),
  A1 31 (.load false 1 (.t 30)),
  A1 27 (.mv (.t 31))])
 (.cond (.t 27) ((.seq (.reg [A1 6 (.mv (.c (.int .u64 0))),
  A1 7 (.mv (.c (.bool true)))])
 (.ret))) ((.seq (.reg [A1 33 (.fadr 0 (.t 4)),
  A1 34 (.load false 1 (.t 33)),
  A1 35 (.ari .eql (.t 34) (.c (.int .i64 1))),
  A1 32 (.mv (.t 35))])
 (.cond (.t 32) (.reg [A1 36 (.mv (.t 2)),
  A1 37 (.fadr 1 (.t 4)),
  A1 38 (.load false 1 (.t 37)),
  A1 39 (.mv (.t 8)),
  A1 40 (.isl 1 (.t 36) (.t 38)),
  A0 (.store 1 (.t 40) (.t 39))]) ((.seq (.reg [A1 42 (.fadr 0 (.t 4)),
  A1 43 (.load false 1 (.t 42)),
  A1 44 (.ari .eql (.t 43) (.c (.int .i64 2))),
  A1 41 (.mv (.t 44))])
 (.cond (.t 41) ((.seq (.reg [A1 45 (.mv (.t 0)),
  A1 46 (.fadr 5 (.t 4)),
  A1 47 (.load true 3 (.t 46)),
  A1 48 (.mv (.t 2)),
  ⟨(some 49), .call 485 [(.t 45), (.t 47), (.t 48)], none⟩,
  A1 9 (.mv (.t 49))])
 ((.seq ((.seq (.reg [A1 50 (.mv (.t 0)),
  A1 51 (.nilc (.t 50)),
  A1 52 (.fadr 5 (.t 51)),
  A1 53 (.load false 1 (.t 52))])
 (.cond (.t 53) ((.seq (.reg [A1 6 (.mv (.c (.int .u64 0))),
  A1 7 (.mv (.c (.bool true)))])
 (.ret))) (.skip))))
 ((.seq ((.seq (.reg [A1 54 (.mv (.t 8)),
  ⟨(some 55), .call 486 [(.t 54), (.c (.int .u64 1))], none⟩,
  A1 56 (.un .not (.t 55))])
 (.cond (.t 56) ((.seq (.reg [A1 57 (.mv (.t 0)),
  ⟨(some 58), .call 239 [(.t 57), (.c (.int .u64 18446744073709551614))], none⟩,
  A1 6 (.mv (.t 58)),
  A1 7 (.mv (.c (.bool true)))])
 (.ret))) (.skip))))
 (.reg [A1 59 (.mv (.t 0)),
  A1 60 (.nilc (.t 59)),
  A1 61 (.fadr 1 (.t 60)),
  A1 62 (.load false 1 (.t 61)),
  A1 63 (.mv (.t 8)),
  A1 64 (.mv (.t 9)),
  A1 65 (.isl 1 (.t 62) (.t 63)),
  A0 (.store 1 (.t 65) (.t 64))]))))))) ((.seq (.reg [A1 67 (.fadr 0 (.t 4)),
  A1 68 (.load false 1 (.t 67)),
  A1 69 (.ari .eql (.t 68) (.c (.int .i64 3))),
  A1 70 (.mv (.t 69)),
  A2 71 70 true (.mv (.t 8)),
  A2 72 70 true (.ari .neq (.t 71) (.c (.int .u64 0))),
  A1 73 (.pick (.t 70) (.t 72) (.c (.bool false))),
  A1 66 (.mv (.t 73))])
 (.cond (.t 66) ((.seq (.reg [A1 74 (.mv (.t 0)),
  A1 75 (.fadr 8 (.t 4)),
  A1 76 (.load false 1 (.t 75)),
  A1 77 (.mv (.t 2)),
  ⟨(some 78), .call 341 [(.t 74), (.t 76), (.t 77)], none⟩,
  A1 79 (.ext (.t 78) 0),
  A1 80 (.ext (.t 78) 1),
  A1 6 (.mv (.t 79)),
  A1 7 (.mv (.t 80))])
 (.ret))) ((.seq (.reg [A1 82 (.fadr 0 (.t 4)),
  A1 83 (.load false 1 (.t 82)),
  A1 84 (.ari .eql (.t 83) (.c (.int .i64 3))),
  A1 81 (.mv (.t 84))])
 (.cond (.t 81) ((.seq (.reg [A1 85 (.mv (.t 0)),
  A1 86 (.fadr 9 (.t 4)),
  A1 87 (.load false 1 (.t 86)),
  A1 88 (.mv (.t 2)),
  ⟨(some 89), .call 341 [(.t 85), (.t 87), (.t 88)], none⟩,
  A1 90 (.ext (.t 89) 0),
  A1 91 (.ext (.t 89) 1),
  A1 6 (.mv (.t 90)),
  A1 7 (.mv (.t 91))])
 (.ret))) ((.seq (.reg [A1 93 (.fadr 0 (.t 4)),
  A1 94 (.load false 1 (.t 93)),
  A1 95 (.ari .eql (.t 94) (.c (.int .i64 5))),
  A1 92 (.mv (.t 95))])
 (.cond (.t 92) ((.seq (.reg [A1 96 (.mv (.t 8)),
  A1 6 (.mv (.t 96)),
  A1 7 (.mv (.c (.bool true)))])
 (.ret))) ((.seq (.reg [A1 98 (.fadr 0 (.t 4)),
  A1 99 (.load false 1 (.t 98)),
  A1 100 (.ari .eql (.t 99) (.c (.int .i64 7))),
  A1 97 (.mv (.t 100))])
 (.cond (.t 97) ((.seq (.reg [A1 101 (.mv (.t 0)),
  A1 102 (.mv (.t 8)),
  ⟨(some 103), .call 239 [(.t 101), (.t 102)], none⟩,
  A1 6 (.mv (.t 103)),
  A1 7 (.mv (.c (.bool true)))])
 (.ret))) (.skip)))))))))))))))))))))))
 ((.seq (.reg [A1 6 (.mv (.c (.int .u64 0))),
  A1 7 (.mv (.c (.bool false)))])
 (.ret))))))))))))
def f447 : LF := ⟨c447, 3, 0, 104, [.tmp 6, .tmp 7]⟩

/-- (*moot/ir.runner).loop -/
def c483 : LC := (.seq (.reg [A1 4 (.box (.t 1)),
  A1 6 (.mv (.c (.int .u64 0))),
  A1 7 (.mv (.c (.bool false)))])
 ((.seq (.block 0 (.loop ((.seq ((.seq (.reg [A1 11 (.mv (.t 0)),
  ⟨(some 12), .call 484 [(.t 11)], none⟩])
 (.cond (.t 12) (.skip) (.exit 0))))
 (.block 1 ((.seq (.reg [A1 13 (.mv (.t 0)),
  A1 14 (.fadr 2 (.t 4)),
  A1 15 (.load true 3 (.t 14)),
  A1 16 (.mv (.t 2)),
  ⟨(some 17), .call 485 [(.t 13), (.t 15), (.t 16)], none⟩,
  A1 8 (.mv (.t 17))])
 ((.seq ((.seq (.reg [A1 18 (.mv (.t 0)),
  A1 19 (.nilc (.t 18)),
  A1 20 (.fadr 5 (.t 19)),
  A1 21 (.load false 1 (.t 20))])
 (.cond (.t 21) ((.seq (.reg [A1 6 (.mv (.c (.int .u64 0))),
  A1 7 (.mv (.c (.bool true)))])
 (.ret))) (.skip))))
 ((.seq ((.seq (.reg [A1 22 (.mv (.t 8)),
  A1 23 (.ari .eql (.t 22) (.c (.int .u64 0)))])
 (.cond (.t 23) ((.seq (.reg [A1 6 (.mv (.c (.int .u64 0))),
  A1 7 (.mv (.c (.bool false)))])
 (.ret))) (.skip))))
 ((.seq (.reg [A1 25 (.mv (.t 0)),
  A1 26 (.fadr 8 (.t 4)),
  A1 27 (.load false 1 (.t 26)),
  A1 28 (.mv (.t 2)),
  ⟨(some 29), .call 341 [(.t 25), (.t 27), (.t 28)], none⟩,
  A1 24 (.mv (.t 29)),
  A1 30 (.ext (.t 24) 0),
  A1 31 (.ext (.t 24) 1),
  A1 9 (.mv (.t 30)),
  A1 10 (.mv (.t 31))])
 ((.seq (.reg [A1 32 (.mv (.t 10))])
 (.cond (.t 32) ((.seq (.reg [A1 33 (.mv (.t 9)),
  A1 6 (.mv (.t 33)),
  A1 7 (.mv (.c (.bool true)))])
 (.ret))) (.skip)))))))))))))))))
 ((.seq (.reg [A1 6 (.mv (.c (.int .u64 0))),
  A1 7 (.mv (.c (.bool true)))])
 (.ret))))))
def f483 : LF := ⟨c483, 3, 0, 34, [.tmp 6, .tmp 7]⟩

/-- (*moot/ir.runner).burn -/
def c484 : LC := (.seq (.reg [A1 2 (.mv (.c (.bool false)))])
 ((.seq ((.seq (.reg [A1 3 (.mv (.t 0)),
  A1 4 (.nilc (.t 3)),
  A1 5 (.fadr 5 (.t 4)),
  A1 6 (.load false 1 (.t 5))])
 (.cond (.t 6) ((.seq (.reg [A1 2 (.mv (.c (.bool false)))])
 (.ret))) (.skip))))
 ((.seq ((.seq (.regd [⟨0, 0, A1 7 (.mv (.t 0))⟩,
  ⟨1, 1, A1 8 (.nilc (.t 7))⟩,
  ⟨2, 3, A1 9 (.fadr 4 (.t 8))⟩,
  ⟨3, 7, A1 10 (.load false 1 (.t 9))⟩,
  ⟨4, 0, A1 11 (.mv (.t 0))⟩,
  ⟨5, 16, A1 12 (.nilc (.t 11))⟩,
  ⟨6, 48, A1 13 (.fadr 3 (.t 12))⟩,
  ⟨7, 112, A1 14 (.load false 1 (.t 13))⟩,
  ⟨8, 255, A1 15 (.ari .eql (.t 10) (.t 14))⟩])
 (.cond (.t 15) ((.seq (.reg [A1 16 (.mv (.t 0)),
  A1 17 (.mv (.t 0)),
  A1 18 (.nilc (.t 16)),
  A1 19 (.fadr 5 (.t 18)),
  A0 (.store 1 (.t 19) (.c (.bool true))),
  A1 20 (.nilc (.t 17)),
  A1 21 (.fadr 6 (.t 20)),
  A0 (.store 1 (.t 21) (.c (.bool true)))])
 ((.seq (.reg [A1 2 (.mv (.c (.bool false)))])
 (.ret))))) (.skip))))
 ((.seq (.reg [A1 22 (.mv (.t 0)),
  A1 23 (.nilc (.t 22)),
  A1 24 (.fadr 4 (.t 23)),
  A1 25 (.load false 1 (.t 24)),
  A1 26 (.ari .add (.t 25) (.c (.int .i64 1))),
  A1 27 (.nilc (.t 22)),
  A1 28 (.fadr 4 (.t 27)),
  A0 (.store 1 (.t 28) (.t 26))])
 ((.seq (.reg [A1 2 (.mv (.c (.bool true)))])
 (.ret))))))))))
def f484 : LF := ⟨c484, 1, 0, 29, [.tmp 2]⟩

/-- (*moot/ir.runner).expr -/
def c485 : LC := (.seq (.reg [A1 4 (.box (.t 1)),
  A1 6 (.mv (.c (.int .u64 0)))])
 ((.seq ((.seq (.reg [A1 12 (.mv (.t 0)),
  ⟨(some 13), .call 484 [(.t 12)], none⟩,
  A1 14 (.un .not (.t 13))])
 (.cond (.t 14) ((.seq (.reg [A1 6 (.mv (.c (.int .u64 0)))])
 (.ret))) (.skip))))
 ((.seq ((.seq (.reg [A1 15 (.fadr 0 (.t 4)),
  A1 16 (.load false 1 (.t 15))])
 (.block 0 ((.seq (.reg [A1 18 (.ari .eql (.t 16) (.c (.int .i64 26))),
  A1 17 (.mv (.t 18))])
 (.cond (.t 17) ((.seq (.reg [A1 19 (.fadr 1 (.t 4)),
  A1 20 (.load false 1 (.t 19)),
  A1 6 (.mv (.t 20))])
 (.ret))) ((.seq (.reg [A1 22 (.ari .eql (.t 16) (.c (.int .i64 27))),
  A1 21 (.mv (.t 22))])
 (.cond (.t 21) ((.seq (.reg [A1 23 (.mv (.t 2)),
  A1 24 (.fadr 1 (.t 4)),
  A1 25 (.load false 1 (.t 24)),
  A1 26 (.isl 1 (.t 23) (.t 25)),
  A1 27 (.load false 1 (.t 26)),
  A1 6 (.mv (.t 27))])
 (.ret))) (.skip))))))))))
 ((.seq (.reg [A1 28 (.fadr 2 (.t 4)),
  A1 29 (.load false 1 (.t 28)),
  A1 30 (.len 0 (.t 29)),
  A1 31 (.mm true (.c (.int .i64 3)) (.t 30)),
  A1 32 (.mksl 1 8 (.int .u64) (.t 31) (.t 31)),
  A1 7 (.mv (.t 32))])
 ((.seq ((.seq (.reg [A1 33 (.fadr 2 (.t 4)),
  A1 34 (.load false 1 (.t 33)),
  A1 35 (.len 0 (.t 34)),
  A1 36 (.mv (.c (.int .i64 0)))])
 (.block 1 (.loop ((.seq (.reg [A1 37 (.ari .lss (.t 36) (.t 35))])
 ((.seq (.cond (.t 37) (.skip) (.exit 1))
 ((.seq (.block 2 ((.seq (.reg [A1 38 (.mv (.t 36)),
  A1 39 (.isl 3 (.t 34) (.t 36)),
  A1 40 (.load true 3 (.t 39)),
  A1 9 (.alloc (.st (.cons (.int .i64) (.cons (.int .u64) (.cons .slice .nil))))),
  A1 8 (.mv (.t 38)),
  A0 (.store 3 (.t 9) (.t 40))])
 (.reg [A1 41 (.mv (.t 7)),
  A1 42 (.mv (.t 8)),
  A1 43 (.mv (.t 0)),
  A1 44 (.load true 3 (.t 9)),
  A1 45 (.mv (.t 2)),
  ⟨(some 46), .call 485 [(.t 43), (.t 44), (.t 45)], none⟩,
  A1 47 (.isl 1 (.t 41) (.t 42)),
  A0 (.store 1 (.t 47) (.t 46))]))))
 (.reg [A1 48 (.ari .add (.t 36) (.c (.int .i64 1))),
  A1 36 (.mv (.t 48))])))))))))))
 ((.seq ((.seq (.reg [A1 49 (.mv (.t 0)),
  A1 50 (.nilc (.t 49)),
  A1 51 (.fadr 5 (.t 50)),
  A1 52 (.load false 1 (.t 51))])
 (.cond (.t 52) ((.seq (.reg [A1 6 (.mv (.c (.int .u64 0)))])
 (.ret))) (.skip))))
 ((.seq ((.seq (.reg [A1 53 (.fadr 0 (.t 4)),
  A1 54 (.load false 1 (.t 53))])
 (.block 3 ((.seq (.reg [A1 56 (.ari .eql (.t 54) (.c (.int .i64 28))),
  A1 55 (.mv (.t 56))])
 (.cond (.t 55) ((.seq ((.seq (.reg [A1 57 (.mv (.t 7)),
  A1 58 (.isl 1 (.t 57) (.c (.int .i64 0))),
  A1 59 (.load false 1 (.t 58)),
  ⟨(some 60), .call 486 [(.t 59), (.c (.int .u64 1))], none⟩,
  A1 61 (.un .not (.t 60))])
 (.cond (.t 61) ((.seq (.reg [A1 62 (.mv (.t 0)),
  ⟨(some 63), .call 239 [(.t 62), (.c (.int .u64 18446744073709551614))], none⟩,
  A1 6 (.mv (.t 63))])
 (.ret))) (.skip))))
 ((.seq (.regd [⟨0, 0, A1 64 (.mv (.t 0))⟩,
  ⟨1, 1, A1 65 (.nilc (.t 64))⟩,
  ⟨2, 3, A1 66 (.fadr 1 (.t 65))⟩,
  ⟨3, 7, A1 67 (.load false 1 (.t 66))⟩,
  ⟨4, 0, A1 68 (.mv (.t 7))⟩,
  ⟨5, 16, A1 69 (.isl 1 (.t 68) (.c (.int .i64 0)))⟩,
  ⟨6, 48, A1 70 (.load false 1 (.t 69))⟩,
  ⟨7, 127, A1 71 (.isl 1 (.t 67) (.t 70))⟩,
  ⟨8, 255, A1 72 (.load false 1 (.t 71))⟩,
  ⟨9, 511, A1 6 (.mv (.t 72))⟩])
 (.ret))))) ((.seq (.reg [A1 74 (.ari .eql (.t 54) (.c (.int .i64 29))),
  A1 73 (.mv (.t 74))])
 (.cond (.t 73) ((.seq (.regd [⟨0, 0, A1 75 (.mv (.t 0))⟩,
  ⟨1, 0, A1 76 (.fadr 1 (.t 4))⟩,
  ⟨2, 2, A1 77 (.load false 1 (.t 76))⟩,
  ⟨3, 6, A1 78 (.conv .i64 (.t 77))⟩,
  ⟨4, 0, A1 79 (.mv (.t 7))⟩,
  ⟨5, 0, A1 80 (.fadr 2 (.t 4))⟩,
  ⟨6, 32, A1 81 (.load false 1 (.t 80))⟩,
  ⟨7, 96, A1 82 (.len 0 (.t 81))⟩,
  ⟨8, 240, A1 83 (.slsl 1 (.t 79) none (some (.t 82)))⟩,
  ⟨9, 511, ⟨(some 84), .call 238 [(.t 75), (.t 78), (.t 83)], none⟩⟩,
  ⟨10, 1023, A1 6 (.mv (.t 84))⟩])
 (.ret))) ((.seq ((.seq (.reg [A1 86 (.ari .eql (.t 54) (.c (.int .i64 30))),
  A1 85 (.mv (.t 86))])
 (.cond (.t 85) (.skip) (.reg [A1 87 (.ari .eql (.t 54) (.c (.int .i64 31))),
  A1 85 (.mv (.t 87))]))))
 (.cond (.t 85) ((.seq (.regd [⟨0, 0, A1 88 (.mv (.t 0))⟩,
  ⟨1, 0, A1 89 (.fadr 0 (.t 4))⟩,
  ⟨2, 2, A1 90 (.load false 1 (.t 89))⟩,
  ⟨3, 0, A1 91 (.mv (.t 7))⟩,
  ⟨4, 8, A1 92 (.isl 1 (.t 91) (.c (.int .i64 0)))⟩,
  ⟨5, 24, A1 93 (.load false 1 (.t 92))⟩,
  ⟨6, 0, A1 94 (.mv (.t 7))⟩,
  ⟨7, 64, A1 95 (.isl 1 (.t 94) (.c (.int .i64 1)))⟩,
  ⟨8, 192, A1 96 (.load false 1 (.t 95))⟩,
  ⟨9, 511, ⟨(some 97), .call 514 [(.t 88), (.t 90), (.t 93), (.t 96)], none⟩⟩,
  ⟨10, 1023, A1 6 (.mv (.t 97))⟩])
 (.ret))) (.skip)))))))))))))
 ((.seq (.regd [⟨0, 0, A1 99 (.fadr 0 (.t 4))⟩,
  ⟨1, 1, A1 100 (.load false 1 (.t 99))⟩,
  ⟨2, 0, A1 101 (.mv (.t 7))⟩,
  ⟨3, 4, A1 102 (.isl 1 (.t 101) (.c (.int .i64 0)))⟩,
  ⟨4, 12, A1 103 (.load false 1 (.t 102))⟩,
  ⟨5, 0, A1 104 (.mv (.t 7))⟩,
  ⟨6, 32, A1 105 (.isl 1 (.t 104) (.c (.int .i64 1)))⟩,
  ⟨7, 96, A1 106 (.load false 1 (.t 105))⟩,
  ⟨8, 0, A1 107 (.mv (.t 7))⟩,
  ⟨9, 256, A1 108 (.isl 1 (.t 107) (.c (.int .i64 2)))⟩,
  ⟨10, 768, A1 109 (.load false 1 (.t 108))⟩,
  ⟨11, 2047, ⟨(some 110), .call 215 [(.t 100), (.t 103), (.t 106), (.t 109)], none⟩⟩,
  ⟨12, 4095, A1 98 (.mv (.t 110))⟩,
  ⟨13, 8191, A1 111 (.ext (.t 98) 0)⟩,
  ⟨14, 8191, A1 112 (.ext (.t 98) 1)⟩,
  ⟨15, 16383, A1 10 (.mv (.t 111))⟩,
  ⟨16, 65535, A1 11 (.mv (.t 112))⟩])
 ((.seq (.reg [A1 113 (.mv (.t 10)),
  A1 6 (.mv (.t 113))])
 (.ret))))))))))))))))))
def f485 : LF := ⟨c485, 3, 0, 114, [.tmp 6]⟩

/-- moot/ir.within -/
def c486 : LC := (.seq (.reg [A1 4 (.mv (.c (.bool false)))])
 ((.seq (.reg [A1 5 (.mv (.t 0)),
  A1 6 (.ari .leq (.t 5) (.c (.int .u64 2048))),
  A1 7 (.mv (.t 6)),
  A2 8 7 true (.mv (.t 1)),
  A2 9 7 true (.mv (.t 0)),
  A2 10 7 true (.ari .sub (.c (.int .u64 2048)) (.t 9)),
  A2 11 7 true (.ari .leq (.t 8) (.t 10)),
  A1 12 (.pick (.t 7) (.t 11) (.c (.bool false))),
  A1 4 (.mv (.t 12))])
 (.ret))))
def f486 : LF := ⟨c486, 2, 0, 13, [.tmp 4]⟩

end Mv
namespace Mv
open Go
set_option maxRecDepth 20000
set_option maxHeartbeats 4000000
set_option linter.unusedSimpArgs false

/-- Expressions, statements, functions. -/
inductive Ex where
  | mk (op : Int) (n : BitVec 64) (as : List Ex)
inductive IrSt where
  | mk (kind n : Int) (a b : Ex) (body els : List IrSt)
structure Fu where
  params : Int
  locals : Int
  body : List IrSt

mutual
def exV : Ex → V
  | .mk op n as => .st 3 (.fcons 0 (.int .i64 op) (.fcons 1 (W n) (.fcons 2 (exL as) .fnil)))
def exL : List Ex → V
  | [] => .nils
  | x :: r => .lst 3 (r.length + 1) (fun i => match i with | 0 => exV x | i + 1 => exF r i)
def exF : List Ex → Nat → V
  | [], _ => .junk
  | x :: r, i => match i with | 0 => exV x | i + 1 => exF r i
end
mutual
def stV : IrSt → V
  | .mk kind n a b body els => .st 10 (.fcons 0 (.int .i64 kind) (.fcons 1 (.int .i64 n) (.fcons 2 (exV a) (.fcons 5 (exV b) (.fcons 8 (stL body) (.fcons 9 (stL els) .fnil))))))
def stL : List IrSt → V
  | [] => .nils
  | x :: r => .lst 10 (r.length + 1) (fun i => match i with | 0 => stV x | i + 1 => stF r i)
def stF : List IrSt → Nat → V
  | [], _ => .junk
  | x :: r, i => match i with | 0 => stV x | i + 1 => stF r i
end
def fuV (f : Fu) : V := .st 3 (.fcons 0 (.int .i64 f.params) (.fcons 1 (.int .i64 f.locals) (.fcons 2 (stL f.body) .fnil)))
def fuF : List Fu → Nat → V
  | [], _ => .junk
  | x :: r, i => match i with | 0 => fuV x | i + 1 => fuF r i
def fuL : List Fu → V
  | [] => .nils
  | x :: r => .lst 3 (r.length + 1) (fuF (x :: r))

theorem exL_cons (x : Ex) (r : List Ex) : exL (x :: r) = .lst 3 (r.length + 1) (exF (x :: r)) := by
  simp only [exL]; congr 1
theorem stL_cons (x : IrSt) (r : List IrSt) : stL (x :: r) = .lst 10 (r.length + 1) (stF (x :: r)) := by
  simp only [stL]; congr 1
theorem exF_get : ∀ (l : List Ex) (i : Nat) (h : i < l.length), exF l i = exV l[i]
  | x :: r, 0, _ => by simp only [exF]; rfl
  | x :: r, i + 1, h => by simp only [exF]; exact exF_get r i (by simpa using h)
theorem stF_get : ∀ (l : List IrSt) (i : Nat) (h : i < l.length), stF l i = stV l[i]
  | x :: r, 0, _ => by simp only [stF]; rfl
  | x :: r, i + 1, h => by simp only [stF]; exact stF_get r i (by simpa using h)
theorem fuF_get : ∀ (l : List Fu) (i : Nat) (h : i < l.length), fuF l i = fuV l[i]
  | x :: r, 0, _ => by simp only [fuF]; rfl
  | x :: r, i + 1, h => by simp only [fuF]; exact fuF_get r i (by simpa using h)

mutual
theorem ren_exV (a : List Nat) : ∀ x, (exV x).ren a = exV x
  | .mk op n as => by simp only [exV, V.ren, W, ren_exL a as]
theorem ren_exL (a : List Nat) : ∀ l, (exL l).ren a = exL l
  | [] => rfl
  | x :: r => by
    simp only [exL, V.ren]
    congr 1
    funext i
    cases i with
    | zero => exact ren_exV a x
    | succ i => exact ren_exF a r i
theorem ren_exF (a : List Nat) : ∀ l i, (exF l i).ren a = exF l i
  | [], _ => rfl
  | x :: r, 0 => by simp only [exF]; exact ren_exV a x
  | x :: r, i + 1 => by simp only [exF]; exact ren_exF a r i
end
mutual
theorem ren_stV (a : List Nat) : ∀ x, (stV x).ren a = stV x
  | .mk kind n p q b e => by simp only [stV, V.ren, W, ren_exV, ren_stL a b, ren_stL a e]
theorem ren_stL (a : List Nat) : ∀ l, (stL l).ren a = stL l
  | [] => rfl
  | x :: r => by
    simp only [stL, V.ren]
    congr 1
    funext i
    cases i with
    | zero => exact ren_stV a x
    | succ i => exact ren_stF a r i
theorem ren_stF (a : List Nat) : ∀ l i, (stF l i).ren a = stF l i
  | [], _ => rfl
  | x :: r, 0 => by simp only [stF]; exact ren_stV a x
  | x :: r, i + 1 => by simp only [stF]; exact ren_stF a r i
end
theorem ren_fuF (a : List Nat) : ∀ l i, (fuF l i).ren a = fuF l i
  | [], _ => rfl
  | x :: r, 0 => by simp only [fuF, fuV, V.ren, ren_stL]
  | x :: r, i + 1 => by simp only [fuF]; exact ren_fuF a r i
theorem ren_fuL (a : List Nat) : ∀ l, (fuL l).ren a = fuL l
  | [] => rfl
  | x :: r => by simp only [fuL, V.ren]; congr 1; funext i; exact ren_fuF a _ i
mutual
theorem Sim_exV (H : Hp) (m z : List Nat) : ∀ x, Sim H m z (exV x) (exV x)
  | .mk op n as => by
    have h := Sim_exL H m z as
    simp only [exV, LY, seval, reduceCtorEq, implies_true, h]
theorem Sim_exL (H : Hp) (m z : List Nat) : ∀ l, Sim H m z (exL l) (exL l)
  | [] => by simp only [exL, LY, seval, reduceCtorEq, implies_true]
  | x :: r => by
    simp only [exL, LY, seval, reduceCtorEq, implies_true]
    intro i _
    cases i with
    | zero => exact Sim_exV H m z x
    | succ i => exact Sim_exF H m z r i
theorem Sim_exF (H : Hp) (m z : List Nat) : ∀ l i, Sim H m z (exF l i) (exF l i)
  | [], _ => by simp only [exF, Sim]
  | x :: r, 0 => by simp only [exF]; exact Sim_exV H m z x
  | x :: r, i + 1 => by simp only [exF]; exact Sim_exF H m z r i
end
mutual
theorem Sim_stV (H : Hp) (m z : List Nat) : ∀ x, Sim H m z (stV x) (stV x)
  | .mk kind n p q b e => by
    have h1 := Sim_stL H m z b
    have h2 := Sim_stL H m z e
    have h3 := Sim_exV H m z p
    have h4 := Sim_exV H m z q
    simp only [stV, LY, seval, reduceCtorEq, implies_true, h1, h2, h3, h4]
theorem Sim_stL (H : Hp) (m z : List Nat) : ∀ l, Sim H m z (stL l) (stL l)
  | [] => by simp only [stL, LY, seval, reduceCtorEq, implies_true]
  | x :: r => by
    simp only [stL, LY, seval, reduceCtorEq, implies_true]
    intro i _
    cases i with
    | zero => exact Sim_stV H m z x
    | succ i => exact Sim_stF H m z r i
theorem Sim_stF (H : Hp) (m z : List Nat) : ∀ l i, Sim H m z (stF l i) (stF l i)
  | [], _ => by simp only [stF, Sim]
  | x :: r, 0 => by simp only [stF]; exact Sim_stV H m z x
  | x :: r, i + 1 => by simp only [stF]; exact Sim_stF H m z r i
end
theorem Sim_fuF (H : Hp) (m z : List Nat) : ∀ l i, Sim H m z (fuF l i) (fuF l i)
  | [], _ => by simp only [fuF, Sim]
  | x :: r, 0 => by
    have h := Sim_stL H m z x.body
    simp only [fuF, fuV, LY, seval, reduceCtorEq, implies_true, h]
  | x :: r, i + 1 => by simp only [fuF]; exact Sim_fuF H m z r i
theorem Sim_fuL (H : Hp) (m z : List Nat) : ∀ l, Sim H m z (fuL l) (fuL l)
  | [] => by simp only [fuL, LY, seval, reduceCtorEq, implies_true]
  | x :: r => by
    simp only [fuL, LY, seval, reduceCtorEq, implies_true]
    intro i _
    exact Sim_fuF H m z _ i
theorem sfu (H : Hp) (m z : List Nat) (l : List Fu) : Sim H m z (fuL l) (fuL l) = True := eq_true (Sim_fuL H m z l)
theorem sex (H : Hp) (m z : List Nat) (l : Ex) : Sim H m z (exV l) (exV l) = True := eq_true (Sim_exV H m z l)
theorem sexl (H : Hp) (m z : List Nat) (l : List Ex) : Sim H m z (exL l) (exL l) = True := eq_true (Sim_exL H m z l)
theorem sst (H : Hp) (m z : List Nat) (l : IrSt) : Sim H m z (stV l) (stV l) = True := eq_true (Sim_stV H m z l)
theorem sstl (H : Hp) (m z : List Nat) (l : List IrSt) : Sim H m z (stL l) (stL l) = True := eq_true (Sim_stL H m z l)

/-- A program at work. -/
structure IrS where
  d : Nat → BitVec 64
  fuel : Nat
  used : Nat
  over : Bool
  out : Bool
  exit : BitVec 64

/-- What an evaluation comes to. -/
structure Rs where
  v : BitVec 64
  back : Bool
  s : IrS
  L : Nat → BitVec 64

def burn (s : IrS) : IrS := if s.over then s else if s.used = s.fuel then { s with over := true, out := true } else { s with used := s.used + 1 }
def burnB (s : IrS) : Bool := !s.over && !decide (s.used = s.fuel)
def endS (s : IrS) (x : BitVec 64) : IrS := if s.over then s else { s with over := true, exit := x }

def evAs (f : Ex → IrS → Option Rs) : List Ex → IrS → Option (List (BitVec 64) × IrS)
  | [], s => some ([], s)
  | x :: r, s => match f x s with
    | some q => match evAs f r q.s with
      | some (vs, s') => some (q.v :: vs, s')
      | none => none
    | none => none

def evB (f : IrSt → IrS → (Nat → BitVec 64) → Option Rs) : List IrSt → IrS → (Nat → BitVec 64) → Option Rs
  | [], s, L => some ⟨0#64, false, s, L⟩
  | x :: r, s, L => match f x s L with
    | some q => if q.back || q.s.over then some ⟨q.v, true, q.s, q.L⟩ else evB f r q.s q.L
    | none => none

/-- What is to be worked out: an expression, statements, a statement, a loop, a call. -/
inductive Tk where
  | e (x : Ex)
  | b (l : List IrSt)
  | s (x : IrSt)
  | l (x : IrSt)
  | c (i : Nat) (as : List (BitVec 64))

/-- The meaning, as far as so many steps down. -/
def ev (ap : Int → BitVec 64 → BitVec 64 → BitVec 64 → Option (BitVec 64)) (P : List Fu) : Nat → Tk → IrS → (Nat → BitVec 64) → Nat → Option Rs
  | 0, _, _, _, _ => none
  | k + 1, .e (.mk op n as), s, L, nl =>
    if burnB s = false then some ⟨0#64, false, burn s, L⟩
    else if op = 26 then some ⟨n, false, burn s, L⟩
    else if op = 27 then (if n.toNat < nl then some ⟨L n.toNat, false, burn s, L⟩ else none)
    else if 1000 ≤ as.length then none
    else match evAs (fun x s => ev ap P k (.e x) s L nl) as (burn s) with
      | none => none
      | some (vs, s) =>
        if s.over then some ⟨0#64, false, s, L⟩
        else if op = 28 then (if vs.getD 0 0#64 < 2048#64 then some ⟨s.d (vs.getD 0 0#64).toNat, false, s, L⟩ else some ⟨0#64, false, endS s 18446744073709551614#64, L⟩)
        else if op = 29 then (match ev ap P k (.c n.toNat vs) s L nl with
          | some q => some ⟨q.v, false, q.s, L⟩
          | none => none)
        else if op = 30 ∨ op = 31 then none
        else match ap op (vs.getD 0 0#64) (vs.getD 1 0#64) (vs.getD 2 0#64) with
          | some v => some ⟨v, false, s, L⟩
          | none => none
  | k + 1, .b l, s, L, nl => if 1000000 ≤ l.length then none else evB (fun x s L => ev ap P k (.s x) s L nl) l s L
  | k + 1, .s (.mk kind n a b body els), s, L, nl =>
    if kind = 4 then ev ap P k (.l (.mk kind n a b body els)) s L nl
    else if burnB s = false then some ⟨0#64, true, burn s, L⟩
    else match ev ap P k (.e a) (burn s) L nl with
      | none => none
      | some q =>
        if q.s.over then some ⟨0#64, true, q.s, L⟩
        else if kind = 1 then (if 0 ≤ n ∧ n < nl then some ⟨0#64, false, q.s, fun j => if j = n.toNat then q.v else L j⟩ else none)
        else if kind = 2 then (match ev ap P k (.e b) q.s L nl with
          | none => none
          | some p =>
            if p.s.over then some ⟨0#64, true, p.s, L⟩
            else if q.v < 2048#64 then some ⟨0#64, false, { p.s with d := fun j => if j = q.v.toNat then p.v else p.s.d j }, L⟩
            else some ⟨0#64, true, endS p.s 18446744073709551614#64, L⟩)
        else if kind = 3 then (if q.v = 0#64 then ev ap P k (.b els) q.s L nl else ev ap P k (.b body) q.s L nl)
        else if kind = 5 then some ⟨q.v, true, q.s, L⟩
        else if kind = 7 then some ⟨0#64, true, endS q.s q.v, L⟩
        else some ⟨0#64, false, q.s, L⟩
  | k + 1, .l (.mk kind n a b body els), s, L, nl =>
    if burnB s = false then some ⟨0#64, true, burn s, L⟩
    else match ev ap P k (.e a) (burn s) L nl with
      | none => none
      | some q =>
        if q.s.over then some ⟨0#64, true, q.s, L⟩
        else if q.v = 0#64 then some ⟨0#64, false, q.s, L⟩
        else match ev ap P k (.b body) q.s L nl with
          | none => none
          | some p => if p.back then some ⟨p.v, true, p.s, p.L⟩ else ev ap P k (.l (.mk kind n a b body els)) p.s p.L nl
  | k + 1, .c i as, s, L, _ => match P[i]? with
    | none => none
    | some f =>
      if 0 ≤ f.locals ∧ f.locals < 1000 then (match ev ap P k (.b f.body) s (fun j => if j < f.locals.toNat then as.getD j 0#64 else 0#64) f.locals.toNat with
        | none => none
        | some q => some ⟨q.v, false, q.s, L⟩)
      else none

/-- The runner. -/
def rnV (P : List Fu) (s : IrS) : V := .st 8 (.fcons 0 (fuL P) (.fcons 1 (.sl 1 [] 0 2048 1) (.fcons 2 (.ptr 2 []) (.fcons 3 (.int .i64 s.fuel) (.fcons 4 (.int .i64 s.used) (.fcons 5 (.bool s.over) (.fcons 6 (.bool s.out) (.fcons 7 (W s.exit) .fnil))))))))
def memI (s : IrS) : V := .ar 1 2048 fun j => W (s.d j)

structure OkIr (M : Seat) : Prop where
  k238 : chkF M 238 f238 = true
  k239 : chkF M 239 f239 = true
  k341 : chkF M 341 f341 = true
  k447 : chkF M 447 f447 = true
  k483 : chkF M 483 f483 = true
  k484 : chkF M 484 f484 = true
  k485 : chkF M 485 f485 = true
  k486 : chkF M 486 f486 = true

theorem runs_burn {M : Seat} (ok : OkIr M) (P : List Fu) (s : IrS) (hf : s.fuel < 4611686018427387904) (hu : s.used ≤ s.fuel) :
    Runs M 484 [.ptr 0 []] [(0, rnV P s)] 3 (fun r H' k' => r = .bool (burnB s) ∧ H' = [(0, rnV P (burn s))] ∧ k' = 3) := by
  refine runs_fr ok.k484 rfl fun x hx => ?_
  cases ho : s.over
  · by_cases he : s.used = s.fuel
    · have e1 : ((s.used : Int) = (s.fuel : Int)) = True := eq_true (by omega)
      have e2 : burn s = { s with over := true, out := true } := by rw [burn, ho]; simp [he]
      have e3 : burnB s = false := by simp [burnB, he]
      rw [e2, e3]
      simp only [rnV, ho]
      refine ex_sound 2000 _ _ _ _ ?_; (simp (maxSteps := 4000000) only [f484, c484, e1, ho, LZ, seval, reduceCtorEq, forall_const])
      refine RetS.mk hx [0, 1, 2] [] _ _ _ (by decide) (by (simp only [LV, sfu, LZ, seval, reduceCtorEq, forall_const])) (by ((try simp only [LV, sfu, LZ, seval, reduceCtorEq, forall_const, LY, seval, reduceCtorEq, implies_true]); first | done | exact True.intro | (intros; rfl))) (by ((try simp only [sfu, LY, seval, reduceCtorEq, implies_true]); first | done | exact True.intro | (intros; rfl))) ⟨rfl, rfl, rfl⟩
    · have e1 : ((s.used : Int) = (s.fuel : Int)) = False := eq_false (by omega)
      have e2 : burn s = { s with used := s.used + 1 } := by rw [burn, ho]; simp [he]
      have e3 : burnB s = true := by simp [burnB, ho, he]
      have w0 : IntKind.i64.wrap ((s.used : Int) + 1) = ((s.used + 1 : Nat) : Int) := by rw [wrap_i64 (by omega)]; omega
      rw [e2, e3]
      simp only [rnV, ho]
      refine ex_sound 2000 _ _ _ _ ?_; (simp (maxSteps := 4000000) only [f484, c484, e1, w0, ho, LZ, seval, reduceCtorEq, forall_const])
      refine RetS.mk hx [0, 1, 2] [] _ _ _ (by decide) (by (simp only [LV, sfu, LZ, seval, reduceCtorEq, forall_const])) (by ((try simp only [LV, sfu, LZ, seval, reduceCtorEq, forall_const, LY, seval, reduceCtorEq, implies_true]); first | done | exact True.intro | (intros; rfl))) (by ((try simp only [sfu, LY, seval, reduceCtorEq, implies_true]); first | done | exact True.intro | (intros; rfl))) ⟨rfl, rfl, rfl⟩
  · have e2 : burn s = s := by rw [burn, ho]; rfl
    have e3 : burnB s = false := by simp [burnB, ho]
    rw [e2, e3]
    simp only [rnV, ho]
    refine ex_sound 2000 _ _ _ _ ?_; (simp (maxSteps := 4000000) only [f484, c484, LZ, seval, reduceCtorEq, forall_const])
    refine RetS.mk hx [0, 1, 2] [] _ _ _ (by decide) (by (simp only [LV, sfu, LZ, seval, reduceCtorEq, forall_const])) (by ((try simp only [LV, sfu, LZ, seval, reduceCtorEq, forall_const, LY, seval, reduceCtorEq, implies_true]); first | done | exact True.intro | (intros; rfl))) (by ((try simp only [sfu, LY, seval, reduceCtorEq, implies_true]); first | done | exact True.intro | (intros; rfl))) ⟨rfl, rfl, rfl⟩

theorem runs_end {M : Seat} (ok : OkIr M) (P : List Fu) (s : IrS) (v : BitVec 64) :
    Runs M 239 [.ptr 0 [], W v] [(0, rnV P s)] 3 (fun r H' k' => r = W 0#64 ∧ H' = [(0, rnV P (endS s v))] ∧ k' = 3) := by
  refine runs_fr ok.k239 rfl fun x hx => ?_
  cases ho : s.over
  · have e2 : endS s v = { s with over := true, exit := v } := by rw [endS, ho]; rfl
    rw [e2]
    simp only [rnV, ho]
    refine ex_sound 2000 _ _ _ _ ?_; (simp (maxSteps := 4000000) only [f239, c239, LZ, seval, reduceCtorEq, forall_const])
    refine RetS.mk hx [0, 1, 2] [] _ _ _ (by decide) (by (simp only [LV, sfu, LZ, seval, reduceCtorEq, forall_const])) (by ((try simp only [LV, sfu, LZ, seval, reduceCtorEq, forall_const, LY, seval, reduceCtorEq, implies_true]); first | done | exact True.intro | (intros; rfl))) (by ((try simp only [sfu, LY, seval, reduceCtorEq, implies_true]); first | done | exact True.intro | (intros; rfl))) ⟨rfl, rfl, rfl⟩
  · have e2 : endS s v = s := by rw [endS, ho]; rfl
    rw [e2]
    simp only [rnV, ho]
    refine ex_sound 2000 _ _ _ _ ?_; (simp (maxSteps := 4000000) only [f239, c239, LZ, seval, reduceCtorEq, forall_const])
    refine RetS.mk hx [0, 1, 2] [] _ _ _ (by decide) (by (simp only [LV, sfu, LZ, seval, reduceCtorEq, forall_const])) (by ((try simp only [LV, sfu, LZ, seval, reduceCtorEq, forall_const, LY, seval, reduceCtorEq, implies_true]); first | done | exact True.intro | (intros; rfl))) (by ((try simp only [sfu, LY, seval, reduceCtorEq, implies_true]); first | done | exact True.intro | (intros; rfl))) ⟨rfl, rfl, rfl⟩

theorem runs_within1 {M : Seat} (ok : OkIr M) (v : BitVec 64) :
    Runs M 486 [W v, W 1#64] [] 0 (fun r H' k' => r = .bool (decide (v < 2048#64)) ∧ H' = [] ∧ k' = 0) := by
  refine runs_fr ok.k486 rfl fun x hx => ?_
  by_cases h1 : v ≤ 2048#64
  · have e : decide (1#64 ≤ 2048#64 - v) = decide (v < 2048#64) := by
      have h1' : v.toNat ≤ 2048 := h1
      have : (2048#64 - v).toNat = 2048 - v.toNat := by
        rw [BitVec.toNat_sub_of_le h1]; rfl
      apply decide_eq_decide.2
      rw [BitVec.le_def, BitVec.lt_def, this]
      show 1 ≤ 2048 - v.toNat ↔ v.toNat < 2048
      omega
    refine ex_sound 2000 _ _ _ _ ?_; (simp (maxSteps := 4000000) only [f486, c486, eq_true h1, e, LZ, seval, reduceCtorEq, forall_const])
    exact RetS.mkZ hx [] ⟨rfl, rfl, rfl⟩
  · have e : decide (v < 2048#64) = false := by
      apply decide_eq_false
      intro h
      exact h1 (BitVec.le_of_lt h)
    refine ex_sound 2000 _ _ _ _ ?_; (simp (maxSteps := 4000000) only [f486, c486, eq_false h1, e, LZ, seval, reduceCtorEq, forall_const])
    exact RetS.mkZ hx [] ⟨rfl, rfl, rfl⟩
end Mv
namespace Mv
open Go
set_option maxRecDepth 20000
set_option maxHeartbeats 4000000
set_option linter.unusedSimpArgs false

theorem exL_lst (l : List Ex) (h : l ≠ []) : exL l = .lst 3 l.length (exF l) := by
  cases l with
  | nil => exact absurd rfl h
  | cons x r => exact exL_cons x r
theorem stL_lst (l : List IrSt) (h : l ≠ []) : stL l = .lst 10 l.length (stF l) := by
  cases l with
  | nil => exact absurd rfl h
  | cons x r => exact stL_cons x r
theorem sol_exL (l : List Ex) : (exL l).solid = true := by cases l <;> rfl
theorem siz_exL (l : List Ex) : (exL l).size = 1 := by cases l <;> rfl
theorem agg_exL (l : List Ex) : (exL l).isAgg = false := by cases l <;> rfl
theorem sol_stL (l : List IrSt) : (stL l).solid = true := by cases l <;> rfl
theorem siz_stL (l : List IrSt) : (stL l).size = 1 := by cases l <;> rfl
theorem agg_stL (l : List IrSt) : (stL l).isAgg = false := by cases l <;> rfl
theorem sol_exV (x : Ex) : (exV x).solid = true := by cases x; rfl
theorem siz_exV (x : Ex) : (exV x).size = 3 := by cases x; rfl
theorem agg_exV (x : Ex) : (exV x).isAgg = true := by cases x; rfl
theorem sol_stV (x : IrSt) : (stV x).solid = true := by cases x; rfl
theorem siz_stV (x : IrSt) : (stV x).size = 10 := by cases x; rfl
theorem agg_stV (x : IrSt) : (stV x).isAgg = true := by cases x; rfl
theorem sol_fuL (l : List Fu) : (fuL l).solid = true := by cases l <;> rfl
theorem siz_fuL (l : List Fu) : (fuL l).size = 1 := by cases l <;> rfl
theorem agg_fuL (l : List Fu) : (fuL l).isAgg = false := by cases l <;> rfl
theorem fuL_lst (l : List Fu) (h : l ≠ []) : fuL l = .lst 3 l.length (fuF l) := by
  cases l with
  | nil => exact absurd rfl h
  | cons x r => rfl
theorem len_exL (l : List Ex) (H : Hp) : vlen 0 (exL l) H = ⟨True, .int .i64 l.length, H⟩ := by cases l <;> rfl
theorem len_stL (l : List IrSt) (H : Hp) : vlen 0 (stL l) H = ⟨True, .int .i64 l.length, H⟩ := by cases l <;> rfl
theorem smem (H : Hp) (m z : List Nat) (s : IrS) : Sim H m z (memI s) (memI s) = True := by
  simp only [memI, LY, seval, reduceCtorEq, implies_true]
theorem svex (H : Hp) (m z : List Nat) (l : List Ex) : SimV H m z (exL l) (exL l) = True := by
  cases l with
  | nil => exact eq_true rfl
  | cons x r => exact sexl H m z (x :: r)
theorem svst (H : Hp) (m z : List Nat) (l : List IrSt) : SimV H m z (stL l) (stL l) = True := by
  cases l with
  | nil => exact eq_true rfl
  | cons x r => exact sstl H m z (x :: r)
theorem svx (H : Hp) (m z : List Nat) (l : Ex) : SimV H m z (exV l) (exV l) = True := by
  cases l; exact sex H m z _
theorem svs (H : Hp) (m z : List Nat) (l : IrSt) : SimV H m z (stV l) (stV l) = True := by
  cases l; exact sst H m z _
theorem ren_memI (a : List Nat) (s : IrS) : (memI s).ren a = memI s := rfl
theorem mem_burn (s : IrS) : memI s = memI (burn s) := by
  unfold burn
  split
  · rfl
  · split <;> rfl

def gd (s : IrS) : Prop := s.fuel < 4611686018427387904 ∧ s.used ≤ s.fuel
theorem gd_burn {s : IrS} (h : gd s) : gd (burn s) := by
  unfold burn
  split
  · exact h
  · split
    · exact h
    · exact ⟨h.1, by show s.used + 1 ≤ s.fuel; have := h.2; omega⟩
theorem gd_end {s : IrS} (h : gd s) (x : BitVec 64) : gd (endS s x) := by
  unfold endS
  split
  · exact h
  · exact h

theorem evAs_gd {f : Ex → IrS → Option Rs} (hf : ∀ x s q, f x s = some q → gd s → gd q.s) : ∀ (l : List Ex) (s : IrS) (r : List (BitVec 64) × IrS), evAs f l s = some r → gd s → gd r.2
  | [], s, r, h, hg => by cases h; exact hg
  | x :: l, s, r, h, hg => by
    simp only [evAs] at h
    split at h
    · rename_i q hq
      split at h
      · rename_i vs s' hr
        cases h
        exact evAs_gd hf l q.s (vs, s') hr (hf x s q hq hg)
      · cases h
    · cases h
theorem evB_gd {f : IrSt → IrS → (Nat → BitVec 64) → Option Rs} (hf : ∀ x s L q, f x s L = some q → gd s → gd q.s) : ∀ (l : List IrSt) (s : IrS) (L : Nat → BitVec 64) (r : Rs), evB f l s L = some r → gd s → gd r.s
  | [], s, L, r, h, hg => by cases h; exact hg
  | x :: l, s, L, r, h, hg => by
    simp only [evB] at h
    split at h
    · rename_i q hq
      split at h
      · cases h; exact hf x s L q hq hg
      · exact evB_gd hf l q.s q.L r h (hf x s L q hq hg)
    · cases h
theorem ev_gd (ap : Int → BitVec 64 → BitVec 64 → BitVec 64 → Option (BitVec 64)) (P : List Fu) : ∀ (k : Nat) (t : Tk) (s : IrS) (L : Nat → BitVec 64) (nl : Nat) (q : Rs), ev ap P k t s L nl = some q → gd s → gd q.s
  | 0, _, _, _, _, _, h, _ => by simp [ev] at h
  | k + 1, .e (.mk op n as), s, L, nl, q, h, hg => by
    have hb := gd_burn hg
    simp only [ev] at h
    split at h
    · cases h; exact hb
    split at h
    · cases h; exact hb
    split at h
    · split at h <;> cases h; exact hb
    split at h
    · cases h
    split at h
    · cases h
    rename_i vs s' he
    have hs' : gd s' := evAs_gd (fun x s q => ev_gd ap P k (.e x) s L nl q) as _ _ he hb
    split at h
    · cases h; exact hs'
    split at h
    · split at h <;> cases h
      · exact hs'
      · exact gd_end hs' _
    split at h
    · split at h
      · rename_i q' hq
        cases h
        exact ev_gd ap P k _ _ _ _ q' hq hs'
      · cases h
    split at h
    · cases h
    split at h <;> cases h
    exact hs'
  | k + 1, .b l, s, L, nl, q, h, hg => by
    simp only [ev] at h
    split at h
    · cases h
    exact evB_gd (fun x s L q => ev_gd ap P k (.s x) s L nl q) l s L q h hg
  | k + 1, .s (.mk kind n a b body els), s, L, nl, q, h, hg => by
    have hb := gd_burn hg
    simp only [ev] at h
    split at h
    · exact ev_gd ap P k _ _ _ _ _ h hg
    split at h
    · cases h; exact hb
    split at h
    · cases h
    rename_i q1 h1
    have g1 := ev_gd ap P k _ _ _ _ _ h1 hb
    split at h
    · cases h; exact g1
    split at h
    · split at h <;> cases h; exact g1
    split at h
    · split at h
      · cases h
      rename_i q2 h2
      have g2 := ev_gd ap P k _ _ _ _ _ h2 g1
      split at h
      · cases h; exact g2
      split at h <;> cases h
      · exact g2
      · exact gd_end g2 _
    split at h
    · split at h
      · exact ev_gd ap P k _ _ _ _ _ h g1
      · exact ev_gd ap P k _ _ _ _ _ h g1
    split at h
    · cases h; exact g1
    split at h <;> cases h
    · exact gd_end g1 _
    · exact g1
  | k + 1, .l (.mk kind n a b body els), s, L, nl, q, h, hg => by
    have hb := gd_burn hg
    simp only [ev] at h
    split at h
    · cases h; exact hb
    split at h
    · cases h
    rename_i q1 h1
    have g1 := ev_gd ap P k _ _ _ _ _ h1 hb
    split at h
    · cases h; exact g1
    split at h
    · cases h; exact g1
    split at h
    · cases h
    rename_i q2 h2
    have g2 := ev_gd ap P k _ _ _ _ _ h2 g1
    split at h
    · cases h; exact g2
    · exact ev_gd ap P k _ _ _ _ _ h g2
  | k + 1, .c i as, s, L, nl, q, h, hg => by
    simp only [ev] at h
    split at h
    · cases h
    split at h
    · split at h
      · cases h
      rename_i q1 h1
      cases h
      exact ev_gd ap P k _ _ _ _ q1 h1 hg
    · cases h

/-- Runner, memory, locals. -/
def irH (P : List Fu) (s : IrS) (n : Nat) (L : Nat → BitVec 64) : Hp := [(0, rnV P s), (1, memI s), (3, .ar 1 n fun j => W (L j))]
def ExOK (M : Seat) (P : List Fu) (f : Ex → IrS → Option Rs) (nl : Nat) (L : Nat → BitVec 64) : Prop :=
  ∀ x s q, f x s = some q → gd s → gd q.s ∧ Runs M 485 [.ptr 0 [], exV x, .sl 3 [] 0 nl 1] (irH P s nl L) 4 (fun r H' k' => r = W q.v ∧ H' = irH P q.s nl L ∧ k' = 4)
def CaOK (M : Seat) (P : List Fu) (f : Nat → List (BitVec 64) → IrS → Option Rs) : Prop :=
  ∀ i as s q (n : Nat), f i as s = some q → gd s → as.length ≤ n → gd q.s ∧ Runs M 238 [.ptr 0 [], .int .i64 i, .sl 3 [] 0 as.length 1] (irH P s n fun j => as.getD j 0#64) 4 (fun r H' k' => r = W q.v ∧ H' = irH P q.s n (fun j => as.getD j 0#64) ∧ k' = 4)
def ApOK (M : Seat) (ap : Int → BitVec 64 → BitVec 64 → BitVec 64 → Option (BitVec 64)) : Prop :=
  ∀ op a b c v, ap op a b c = some v → Runs M 215 [.int .i64 op, W a, W b, W c] [] 0 (fun r H' k' => r = tup2 (W v) .nili ∧ H' = [] ∧ k' = 0)

theorem List.getD_append_or (l : List (BitVec 64)) (v : BitVec 64) (i : Nat) (h : i ≠ l.length) : (l ++ [v]).getD i 0#64 = l.getD i 0#64 := by
  simp only [List.getD_eq_getElem?_getD, List.getElem?_append]
  split
  · rfl
  · rename_i hi
    rw [List.getElem?_eq_none (by simp; omega), List.getElem?_eq_none (by omega)]

theorem ex_expr {M : Seat} (ok : OkIr M) (ap : Int → BitVec 64 → BitVec 64 → BitVec 64 → Option (BitVec 64)) (hap : ApOK M ap) (P : List Fu) (k : Nat) (nl : Nat) (L : Nat → BitVec 64)
    (ih : ExOK M P (fun x s => ev ap P k (.e x) s L nl) nl L) (ihc : CaOK M P (fun i as s => ev ap P k (.c i as) s L nl)) (hP : P.length < 1000) (hci : ∀ i as s q, ev ap P k (.c i as) s L nl = some q → i < P.length) :
    ExOK M P (fun x s => ev ap P (k + 1) (.e x) s L nl) nl L := by
  intro x s q hq hg
  obtain ⟨op, n, as⟩ := x
  have hq0 := hq
  simp only [ev] at hq
  have hx0 : exV (.mk op n as) = .st 3 (.fcons 0 (.int .i64 op) (.fcons 1 (W n) (.fcons 2 (exL as) .fnil))) := by simp only [exV]
  have hgb := gd_burn hg
  have hmm := mem_burn s
  have hB := runs_burn ok P s hg.1 hg.2
  rw [hx0]
  cases hb : burnB s
  · rw [if_pos hb] at hq
    obtain rfl := Option.some.inj hq
    refine ⟨hgb, runs_fr ok.k485 rfl fun x hx => ?_⟩
    rw [hb] at hB
    simp only [irH, rnV, hmm] at hB ⊢
    refine ex_sound 2000 _ _ _ _ ?_; (simp (maxSteps := 4000000) only [f485, c485, sol_exL, siz_exL, agg_exL, LZ, seval, reduceCtorEq, forall_const])
    refine call_mN [0, 1, 2] [0] (hB) (by rfl) (by rfl) (by decide) (by rfl) (by rfl) (by ((try simp only [sfu, LY, seval, reduceCtorEq, implies_true]); first | done | exact True.intro | rfl)) (by ((try simp only [sfu, LY, seval, reduceCtorEq, implies_true]); first | done | exact True.intro | rfl)) ?_
    (simp (maxSteps := 4000000) only [ren_fuL, LZ, seval, reduceCtorEq, forall_const])
    refine RetS.mk hx [0, 1, 2, 3] [] _ _ _ (by decide) (by (simp only [LV, sfu, smem, LZ, seval, reduceCtorEq, forall_const])) (by ((try simp only [LV, sfu, smem, LZ, seval, reduceCtorEq, forall_const, LY, seval, reduceCtorEq, implies_true]); first | done | exact True.intro | (intros; rfl))) (by ((try simp only [sfu, smem, LY, seval, reduceCtorEq, implies_true]); first | done | exact True.intro | (intros; rfl))) ⟨rfl, rfl, rfl⟩
  · rw [if_neg (by rw [hb]; decide)] at hq
    rw [hb] at hB
    generalize hs1 : burn s = s1 at *
    simp only [irH, rnV, hmm] at hB ⊢
    by_cases h26 : op = 26
    · rw [if_pos h26] at hq
      obtain rfl := Option.some.inj hq
      refine ⟨hgb, runs_fr ok.k485 rfl fun x hx => ?_⟩
      refine ex_sound 2000 _ _ _ _ ?_; (simp (maxSteps := 4000000) only [f485, c485, sol_exL, siz_exL, agg_exL, LZ, seval, reduceCtorEq, forall_const])
      refine call_mN [0, 1, 2] [0] (hB) (by rfl) (by rfl) (by decide) (by rfl) (by rfl) (by ((try simp only [sfu, LY, seval, reduceCtorEq, implies_true]); first | done | exact True.intro | rfl)) (by ((try simp only [sfu, LY, seval, reduceCtorEq, implies_true]); first | done | exact True.intro | rfl)) ?_
      (simp (maxSteps := 4000000) only [ren_fuL, eq_true h26, LZ, seval, reduceCtorEq, forall_const])
      refine RetS.mk hx [0, 1, 2, 3] [] _ _ _ (by decide) (by (simp only [LV, sfu, smem, LZ, seval, reduceCtorEq, forall_const])) (by ((try simp only [LV, sfu, smem, LZ, seval, reduceCtorEq, forall_const, LY, seval, reduceCtorEq, implies_true]); first | done | exact True.intro | (intros; rfl))) (by ((try simp only [sfu, smem, LY, seval, reduceCtorEq, implies_true]); first | done | exact True.intro | (intros; rfl))) ⟨rfl, rfl, rfl⟩
    rw [if_neg h26] at hq
    by_cases h27 : op = 27
    · rw [if_pos h27] at hq
      by_cases hn : n.toNat < nl
      case neg => rw [if_neg hn] at hq; cases hq
      rw [if_pos hn] at hq
      obtain rfl := Option.some.inj hq
      refine ⟨hgb, runs_fr ok.k485 rfl fun x hx => ?_⟩
      refine ex_sound 2000 _ _ _ _ ?_; (simp (maxSteps := 4000000) only [f485, c485, sol_exL, siz_exL, agg_exL, LZ, seval, reduceCtorEq, forall_const])
      refine call_mN [0, 1, 2] [0] (hB) (by rfl) (by rfl) (by decide) (by rfl) (by rfl) (by ((try simp only [sfu, LY, seval, reduceCtorEq, implies_true]); first | done | exact True.intro | rfl)) (by ((try simp only [sfu, LY, seval, reduceCtorEq, implies_true]); first | done | exact True.intro | rfl)) ?_
      (simp (maxSteps := 4000000) only [ren_fuL, eq_false h26, eq_true h27, LZ, seval, reduceCtorEq, forall_const])
      repeat (refine And.intro (by first | omega | exact True.intro | rfl) ?_)
      refine RetS.mk hx [0, 1, 2, 3] [] _ _ _ (by decide) (by (simp only [LV, sfu, smem, LZ, seval, reduceCtorEq, forall_const])) (by ((try simp only [LV, sfu, smem, LZ, seval, reduceCtorEq, forall_const, LY, seval, reduceCtorEq, implies_true]); first | done | exact True.intro | (intros; rfl))) (by ((try simp only [sfu, smem, LY, seval, reduceCtorEq, implies_true]); first | done | exact True.intro | (intros; rfl))) ⟨rfl, rfl, rfl⟩
    rw [if_neg h27] at hq
    by_cases hal : 1000 ≤ as.length
    · rw [if_pos hal] at hq; cases hq
    rw [if_neg hal] at hq
    cases he : evAs (fun x s => ev ap P k (.e x) s L nl) as s1 with
    | none => rw [he] at hq; cases hq
    | some VS =>
    obtain ⟨VS, sF⟩ := VS
    rw [he] at hq
    have hmx : (max (3 : Int) (as.length : Int)).toNat = max 3 as.length := by omega
    generalize hmxn : max 3 as.length = mx at *
    have hmx3 : 3 ≤ mx := by omega
    have hmxl : as.length ≤ mx := by omega
    refine ⟨ev_gd ap P _ _ _ _ _ _ hq0 hg, runs_fr ok.k485 rfl fun x hx => ?_⟩
    have hX : ∀ H m z, Sim H m z (.st 3 (.fcons 0 (.int .i64 op) (.fcons 1 (W n) (.fcons 2 (exL as) .fnil)))) (.st 3 (.fcons 0 (.int .i64 op) (.fcons 1 (W n) (.fcons 2 (exL as) .fnil)))) := fun H m z => by simp only [LY, seval, reduceCtorEq, implies_true, sexl]
    refine ex_sound 2000 _ _ _ _ ?_; (simp (maxSteps := 4000000) only [f485, c485, sol_exL, siz_exL, agg_exL, LZ, seval, reduceCtorEq, forall_const])
    refine call_mN [0, 1, 2] [0] (hB) (by rfl) (by rfl) (by decide) (by rfl) (by rfl) (by ((try simp only [sfu, LY, seval, reduceCtorEq, implies_true]); first | done | exact True.intro | rfl)) (by ((try simp only [sfu, LY, seval, reduceCtorEq, implies_true]); first | done | exact True.intro | rfl)) ?_
    (simp (maxSteps := 4000000) only [ren_fuL, ren_memI, eq_false h26, eq_false h27, len_exL, hmx, sol_exL, siz_exL, agg_exL, LZ, seval, reduceCtorEq, forall_const])
    repeat (refine And.intro (by first | omega | exact True.intro | rfl) ?_)
    refine loop_rule (σ := List (BitVec 64) × IrS) (fun p => p.1.length ≤ as.length ∧ gd p.2 ∧ ∃ ws, evAs (fun x s => ev ap P k (.e x) s L nl) (as.drop p.1.length) p.2 = some (ws, sF) ∧ p.1 ++ ws = VS) (fun p => fr 114 [(0, .ptr 0 []), (2, .sl 3 [] 0 nl 1), (4, .ptr 4 []), (7, .sl 5 [] 0 mx 1), (34, exL as), (35, .int .i64 as.length), (36, .int .i64 p.1.length)]) (fun p => [(0, rnV P p.2), (1, memI p.2), (3, .ar 1 nl fun j => W (L j)), (4, .st 3 (.fcons 0 (.int .i64 op) (.fcons 1 (W n) (.fcons 2 (exL as) .fnil)))), (5, .ar 1 mx fun j => W (p.1.getD j 0#64))]) (fun _ => 6) (fun p => as.length - p.1.length) ([], s1) ⟨Nat.zero_le _, hgb, VS, he, rfl⟩ ?_ ?_
    · refine Weak.fr [0, 1, 2, 3, 4, 244] [] hx (by simp only [fr_length]) (by decide) ?_ ?_
      · simp only [LY, seval, reduceCtorEq, implies_true, svex, sexl, List.length_nil]
      · simp only [rnV, LY, seval, reduceCtorEq, implies_true, sexl, sfu, smem, List.getD_nil]
    rintro ⟨vs, sv⟩ ⟨hle, hgv, ws, hws, hVS⟩
    simp only at hle hgv hws hVS
    refine ex_sound 2000 _ _ _ _ ?_
    simp only [rnV]
    by_cases hin : vs.length = as.length
    · have d0 : ((vs.length : Int) < (as.length : Int)) = False := eq_false (by omega)
      rw [hin, List.drop_length] at hws
      obtain ⟨rfl, rfl⟩ := Prod.mk.inj (Option.some.inj hws)
      rw [List.append_nil] at hVS
      subst hVS
      simp only at hq
      generalize hv0 : vs.getD 0 0#64 = v0 at *
      generalize hv1 : vs.getD 1 0#64 = v1 at *
      generalize hv2 : vs.getD 2 0#64 = v2 at *
      have i0 : (0 : Int) < (mx : Int) := by omega
      cases hov : sv.over
      case true =>
        rw [hov] at hq
        obtain rfl := Option.some.inj hq
        (simp (maxSteps := 4000000) only [d0, hov, sol_exL, siz_exL, agg_exL, LZ, seval, reduceCtorEq, forall_const])
        refine RetS.mk hx [0, 1, 2, 3] [] _ _ _ (by decide) (by (simp only [LV, sfu, smem, LZ, seval, reduceCtorEq, forall_const])) (by ((try simp only [LV, sfu, smem, LZ, seval, reduceCtorEq, forall_const, LY, seval, reduceCtorEq, implies_true]); first | done | exact True.intro | (intros; rfl))) (by ((try simp only [sfu, smem, LY, seval, reduceCtorEq, implies_true]); first | done | exact True.intro | (intros; rfl))) ⟨rfl, rfl, rfl⟩
      rw [hov] at hq
      simp only [Bool.false_eq_true, if_false] at hq
      by_cases h28 : op = 28
      · rw [if_pos h28] at hq
        have hW := runs_within1 ok v0
        by_cases hlt : v0 < 2048#64
        · rw [if_pos hlt] at hq
          rw [decide_eq_true hlt] at hW
          obtain rfl := Option.some.inj hq
          (simp (maxSteps := 4000000) only [d0, hov, eq_true h28, sol_exL, siz_exL, agg_exL, hv0, LZ, seval, reduceCtorEq, forall_const])
          repeat (refine And.intro (by first | omega | exact True.intro | rfl) ?_)
          have hl' : v0.toNat < 2048 := hlt
          refine call_pZ (hW) ?_
          (simp (maxSteps := 4000000) only [memI, hv0, LZ, seval, reduceCtorEq, forall_const])
          repeat (refine And.intro (by first | omega | exact True.intro | rfl) ?_)
          refine RetS.mk hx [0, 1, 2, 3] [] _ _ _ (by decide) (by (simp only [LV, sfu, memI, LZ, seval, reduceCtorEq, forall_const])) (by ((try simp only [LV, sfu, memI, LZ, seval, reduceCtorEq, forall_const, LY, seval, reduceCtorEq, implies_true]); first | done | exact True.intro | (intros; rfl))) (by ((try simp only [sfu, memI, LY, seval, reduceCtorEq, implies_true]); first | done | exact True.intro | (intros; rfl))) ⟨rfl, rfl, rfl⟩
        · rw [if_neg hlt] at hq
          rw [decide_eq_false hlt] at hW
          obtain rfl := Option.some.inj hq
          have hE := runs_end ok P sv 18446744073709551614#64
          simp only [rnV, hov] at hE
          have hme : memI sv = memI (endS sv 18446744073709551614#64) := by unfold endS; split <;> rfl
          (simp (maxSteps := 4000000) only [d0, hov, eq_true h28, sol_exL, siz_exL, agg_exL, hv0, LZ, seval, reduceCtorEq, forall_const])
          repeat (refine And.intro (by first | omega | exact True.intro | rfl) ?_)
          refine call_pZ (hW) ?_
          (simp (maxSteps := 4000000) only [hov, LZ, seval, reduceCtorEq, forall_const])
          refine call_mN [0, 1, 2] [0] (hE) (by rfl) (by rfl) (by decide) (by rfl) (by rfl) (by ((try simp only [sfu, hov, LY, seval, reduceCtorEq, implies_true]); first | done | exact True.intro | rfl)) (by ((try simp only [sfu, hov, LY, seval, reduceCtorEq, implies_true]); first | done | exact True.intro | rfl)) ?_
          (simp (maxSteps := 4000000) only [ren_fuL, LZ, seval, reduceCtorEq, forall_const])
          rw [hme]
          refine RetS.mk hx [0, 1, 2, 3] [] _ _ _ (by decide) (by (simp only [LV, sfu, smem, LZ, seval, reduceCtorEq, forall_const])) (by ((try simp only [LV, sfu, smem, LZ, seval, reduceCtorEq, forall_const, LY, seval, reduceCtorEq, implies_true]); first | done | exact True.intro | (intros; rfl))) (by ((try simp only [sfu, smem, LY, seval, reduceCtorEq, implies_true]); first | done | exact True.intro | (intros; rfl))) ⟨rfl, rfl, rfl⟩
      rw [if_neg h28] at hq
      by_cases h29 : op = 29
      · rw [if_pos h29] at hq
        cases hc : ev ap P k (.c n.toNat vs) sv L nl with
        | none => rw [hc] at hq; cases hq
        | some p =>
        rw [hc] at hq
        obtain rfl := Option.some.inj hq
        have hlp := hci _ _ _ _ hc
        obtain ⟨g2, hC⟩ := ihc n.toNat vs sv p mx hc hgv (by omega)
        have hnn : n.toInt = (n.toNat : Int) := by rw [BitVec.toInt_eq_toNat_cond, if_pos (by omega)]
        simp only [irH, rnV, hov, hin] at hC
        (simp (maxSteps := 4000000) only [d0, hov, eq_false h28, eq_true h29, sol_exL, siz_exL, agg_exL, len_exL, hnn, LZ, seval, reduceCtorEq, forall_const])
        repeat (refine And.intro (by first | omega | exact True.intro | rfl) ?_)
        refine opd_mN [0, 1, 2, 5] [0, 1, 5] (hC) (by rfl) (by rfl) (by decide) (by rfl) (by rfl) (by ((try simp only [sfu, smem, LY, seval, reduceCtorEq, implies_true]); first | done | exact True.intro | rfl)) (by ((try simp only [sfu, smem, LY, seval, reduceCtorEq, implies_true]); first | done | exact True.intro | rfl)) ?_
        (simp (maxSteps := 4000000) only [ren_fuL, ren_memI, LZ, seval, reduceCtorEq, forall_const])
        repeat (refine And.intro (by first | omega | exact True.intro | rfl) ?_)
        refine RetS.mk hx [0, 1, 2, 3] [] _ _ _ (by decide) (by (simp only [LV, sfu, smem, LZ, seval, reduceCtorEq, forall_const])) (by ((try simp only [LV, sfu, smem, LZ, seval, reduceCtorEq, forall_const, LY, seval, reduceCtorEq, implies_true]); first | done | exact True.intro | (intros; rfl))) (by ((try simp only [sfu, smem, LY, seval, reduceCtorEq, implies_true]); first | done | exact True.intro | (intros; rfl))) ⟨rfl, rfl, rfl⟩
      rw [if_neg h29] at hq
      by_cases h30 : op = 30 ∨ op = 31
      · rw [if_pos h30] at hq; cases hq
      rw [if_neg h30] at hq
      cases ha : ap op v0 v1 v2 with
      | none => rw [ha] at hq; cases hq
      | some v =>
      rw [ha] at hq
      obtain rfl := Option.some.inj hq
      have hA := hap op v0 v1 v2 v ha
      have i1 : (1 : Int) < (mx : Int) := by omega
      have i2 : (2 : Int) < (mx : Int) := by omega
      (simp (maxSteps := 4000000) only [d0, hov, eq_false h28, eq_false h29, eq_false (fun h => h30 (.inl h)), eq_false (fun h => h30 (.inr h)), sol_exL, siz_exL, agg_exL, hv0, hv1, hv2, LZ, seval, reduceCtorEq, forall_const])
      repeat (refine And.intro (by first | omega | exact True.intro | rfl) ?_)
      refine opd_pZ (hA) ?_
      (simp (maxSteps := 4000000) only [tup2, hov, LZ, seval, reduceCtorEq, forall_const])
      repeat (refine And.intro (by first | omega | exact True.intro | rfl) ?_)
      refine RetS.mk hx [0, 1, 2, 3] [] _ _ _ (by decide) (by (simp only [LV, sfu, smem, LZ, seval, reduceCtorEq, forall_const])) (by ((try simp only [LV, sfu, smem, LZ, seval, reduceCtorEq, forall_const, LY, seval, reduceCtorEq, implies_true]); first | done | exact True.intro | (intros; rfl))) (by ((try simp only [sfu, smem, LY, seval, reduceCtorEq, implies_true]); first | done | exact True.intro | (intros; rfl))) ⟨rfl, rfl, rfl⟩
    · have d0 : ((vs.length : Int) < (as.length : Int)) = True := eq_true (by omega)
      have hlt : vs.length < as.length := by omega
      have hne : as ≠ [] := by rintro rfl; exact absurd hlt (by simp)
      rw [List.drop_eq_getElem_cons hlt] at hws
      simp only [evAs] at hws
      cases hq1 : ev ap P k (.e as[vs.length]) sv L nl with
      | none => rw [hq1] at hws; cases hws
      | some q1 =>
      rw [hq1] at hws
      simp only at hws
      cases hr1 : evAs (fun x s => ev ap P k (.e x) s L nl) (as.drop (vs.length + 1)) q1.s with
      | none => rw [hr1] at hws; cases hws
      | some p1 =>
      obtain ⟨ws1, s2⟩ := p1
      rw [hr1] at hws
      obtain ⟨rfl, rfl⟩ := Prod.mk.inj (Option.some.inj hws)
      obtain ⟨g1, hE⟩ := ih _ sv q1 hq1 hgv
      have hy := exF_get as vs.length hlt
      have w0 : IntKind.i64.wrap ((vs.length : Int) + 1) = ((vs.length + 1 : Nat) : Int) := by rw [wrap_i64 (by omega)]; omega
      simp only [irH, rnV] at hE
      generalize as[vs.length] = y at *
      (simp (maxSteps := 4000000) only [d0, exL_lst as hne, hy, sol_exV, siz_exV, agg_exV, LZ, seval, reduceCtorEq, forall_const])
      repeat (refine And.intro (by first | omega | exact True.intro | rfl) ?_)
      refine call_mN [0, 1, 2, 3] [0, 1, 3] (hE) (by rfl) (by rfl) (by decide) (by rfl) (by rfl) (by ((try simp only [sfu, smem, svx, LY, seval, reduceCtorEq, implies_true]); first | done | exact True.intro | rfl)) (by ((try simp only [sfu, smem, svx, LY, seval, reduceCtorEq, implies_true]); first | done | exact True.intro | rfl)) ?_
      (simp (maxSteps := 4000000) only [ren_fuL, ren_memI, w0, LZ, seval, reduceCtorEq, forall_const])
      repeat (refine And.intro (by first | omega | exact True.intro | rfl) ?_)
      refine ⟨(vs ++ [q1.v], q1.s), by simp; omega, g1, ⟨ws1, ?_, by rw [← hVS]; simp⟩, by simp; omega, ?_⟩
      · simpa using hr1
      rw [← exL_lst as hne]
      refine Weak.fr [0, 1, 2, 3, 4, 5] [] hx (by simp only [fr_length]) (by decide) ?_ ?_
      · simp only [LY, seval, reduceCtorEq, implies_true, svex, List.length_append, List.length_cons, List.length_nil]
      · simp only [rnV, LY, seval, reduceCtorEq, implies_true, sexl, sfu, smem]
        intro i hi
        by_cases hii : i = vs.length
        · subst hii
          rw [if_pos rfl]
          simp only [LY, seval, reduceCtorEq, implies_true]
          simp
        · rw [if_neg hii]
          simp only [LY, seval, reduceCtorEq, implies_true]
          rw [List.getD_append_or vs q1.v i hii]
end Mv
