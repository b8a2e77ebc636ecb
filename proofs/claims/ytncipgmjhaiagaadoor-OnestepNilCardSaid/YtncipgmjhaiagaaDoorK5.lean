/- What a step of a head is, whatever the memory. -/
import Derived.Test.YtncipgmjhaiagaaDoorT
import Derived.Test.YtncipgmjhaiagaaDoorW1
import Derived.Test.YtncipgmjhaiagaaDoorK4
import Derived.Test.YtncipgmjhaiagaaDoorY5
set_option linter.unusedSimpArgs false
set_option linter.unusedVariables false
namespace Mv
open Go
/-- moot/onestep.Prove -/
def c97 : LC := (.seq (.reg [A1 4 (.alloc (.st (.cons (.ar 32 (.int .u8)) (.cons (.st (.cons (.ar 16 (.int .u64)) (.cons (.int .u64) (.cons .bool (.cons (.int .u64) .nil))))) (.cons .slice (.cons (.ar 64 (.int .u8)) .nil)))))),
  A1 5 (.mv (.c .nili))])
 ((.seq ((.seq (.reg [A1 13 (.mv (.t 0)),
  A1 14 (.eq false true .ptr (.t 13) (.c .nilp)),
  A1 15 (.mv (.t 14)),
  A2 16 15 false (.mv (.t 1)),
  A2 17 15 false (.eq false true .ptr (.t 16) (.c .nilp)),
  A1 18 (.pick (.t 15) (.c (.bool true)) (.t 17))])
 (.cond (.t 18) ((.seq (.reg [A1 19 (.build (.st (.cons (.ar 32 (.int .u8)) (.cons (.st (.cons (.ar 16 (.int .u64)) (.cons (.int .u64) (.cons .bool (.cons (.int .u64) .nil))))) (.cons .slice (.cons (.ar 64 (.int .u8)) .nil))))) []),
  A1 20 (.mkif 74 (.c (.int .i64 1))),
  A0 (.store 116 (.t 4) (.t 19)),
  A1 5 (.mv (.t 20))])
 (.ret))) (.skip))))
 ((.seq (.reg [A1 21 (.mv (.t 0)),
  ⟨(some 22), .call 49 [(.t 21)], none⟩,
  A1 23 (.mv (.t 1)),
  A1 24 (.build (.st (.cons .ptr (.cons .ptr (.cons .slice (.cons (.ar 64 (.int .u8)) .nil))))) [(.f 0, 1, (.t 22)), (.f 1, 1, (.t 23))]),
  A1 25 (.box (.t 24)),
  A1 6 (.mv (.t 25))])
 ((.seq (.reg [A1 27 (.mv (.t 0)),
  ⟨(some 28), .call 55 [(.t 27)], none⟩,
  A1 26 (.mv (.t 28)),
  A1 29 (.ext (.t 26) 0),
  A1 30 (.ext (.t 26) 1),
  A1 7 (.alloc (.st (.cons (.ar 16 (.int .u64)) (.cons (.int .u64) (.cons .bool (.cons (.int .u64) .nil)))))),
  A0 (.store 19 (.t 7) (.t 29)),
  A1 8 (.mv (.t 30))])
 ((.seq (.reg [A1 32 (.mv (.t 0)),
  ⟨(some 33), .call 51 [(.t 32)], none⟩,
  A1 31 (.mv (.t 33)),
  A1 34 (.ext (.t 31) 0),
  A1 35 (.ext (.t 31) 1),
  A1 9 (.alloc (.ar 32 (.int .u8))),
  A0 (.store 32 (.t 9) (.t 34)),
  A1 10 (.mv (.t 35))])
 ((.seq ((.seq (.reg [A1 37 (.load true 19 (.t 7)),
  A1 38 (.mv (.t 6)),
  A1 39 (.mkif 422 (.t 38)),
  ⟨(some 40), .call 241 [(.t 37), (.t 39)], none⟩,
  A1 36 (.mv (.t 40)),
  A1 41 (.ext (.t 36) 0),
  A1 42 (.ext (.t 36) 1),
  A1 11 (.alloc (.st (.cons (.ar 16 (.int .u64)) (.cons (.int .u64) (.cons .bool (.cons (.int .u64) .nil)))))),
  A0 (.store 19 (.t 11) (.t 41)),
  A1 12 (.mv (.t 42))])
 ((.seq (.reg [A1 43 (.mv (.t 12)),
  A1 44 (.eq true true (.iface [74]) (.t 43) (.c .nili))])
 (.cond (.t 44) ((.seq (.reg [A1 45 (.build (.st (.cons (.ar 32 (.int .u8)) (.cons (.st (.cons (.ar 16 (.int .u64)) (.cons (.int .u64) (.cons .bool (.cons (.int .u64) .nil))))) (.cons .slice (.cons (.ar 64 (.int .u8)) .nil))))) []),
  A1 46 (.mv (.t 12)),
  A0 (.store 116 (.t 4) (.t 45)),
  A1 5 (.mv (.t 46))])
 (.ret))) (.skip))))))
 ((.seq (.regd [⟨0, 0, A1 47 (.load true 32 (.t 9))⟩,
  ⟨1, 0, A1 48 (.load true 19 (.t 7))⟩,
  ⟨2, 0, A1 49 (.mv (.t 6))⟩,
  ⟨3, 4, A1 50 (.nilc (.t 49))⟩,
  ⟨4, 12, A1 51 (.fadr 2 (.t 50))⟩,
  ⟨5, 28, A1 52 (.load false 1 (.t 51))⟩,
  ⟨6, 0, A1 53 (.mv (.t 6))⟩,
  ⟨7, 64, A1 54 (.nilc (.t 53))⟩,
  ⟨8, 192, A1 55 (.fadr 3 (.t 54))⟩,
  ⟨9, 448, A1 56 (.load true 64 (.t 55))⟩,
  ⟨10, 1023, A1 57 (.build (.st (.cons (.ar 32 (.int .u8)) (.cons (.st (.cons (.ar 16 (.int .u64)) (.cons (.int .u64) (.cons .bool (.cons (.int .u64) .nil))))) (.cons .slice (.cons (.ar 64 (.int .u8)) .nil))))) [(.f 0, 32, (.t 47)), (.f 32, 19, (.t 48)), (.f 51, 1, (.t 52)), (.f 52, 64, (.t 56))])⟩,
  ⟨11, 2047, A0 (.store 116 (.t 4) (.t 57))⟩,
  ⟨12, 4095, A1 5 (.mv (.c .nili))⟩])
 (.ret))))))))))))))
def f97 : LF := ⟨c97, 2, 0, 58, [.cell 4 true 116, .tmp 5]⟩

/-- moot/onestep.Verify -/
def c98 : LC := (.seq (.reg [A1 2 (.box (.t 0)),
  A1 3 (.box (.t 1)),
  A1 4 (.alloc (.ar 32 (.int .u8))),
  A1 5 (.mv (.c .nili))])
 ((.seq ((.seq (.regd [⟨0, 0, A1 9 (.fadr 0 (.t 3))⟩,
  ⟨1, 1, A1 10 (.load true 32 (.t 9))⟩,
  ⟨2, 0, A1 11 (.fadr 32 (.t 3))⟩,
  ⟨3, 4, A1 12 (.load true 19 (.t 11))⟩,
  ⟨4, 15, ⟨(some 13), .call 62 [(.t 10), (.t 12)], none⟩⟩,
  ⟨5, 0, A1 14 (.load true 32 (.t 2))⟩,
  ⟨6, 63, A1 15 (.eq true false (.ar 32 1 false .int) (.t 13) (.t 14))⟩])
 (.cond (.t 15) ((.seq (.reg [A1 16 (.build (.ar 32 (.int .u8)) []),
  A1 17 (.mkif 74 (.c (.int .i64 31))),
  A0 (.store 32 (.t 4) (.t 16)),
  A1 5 (.mv (.t 17))])
 (.ret))) (.skip))))
 ((.seq (.reg [A1 18 (.fadr 0 (.t 3)),
  A1 19 (.load true 32 (.t 18)),
  A1 20 (.fadr 51 (.t 3)),
  A1 21 (.load false 1 (.t 20)),
  A1 22 (.fadr 52 (.t 3)),
  A1 23 (.load true 64 (.t 22)),
  A1 24 (.build (.st (.cons (.ar 32 (.int .u8)) (.cons .slice (.cons (.ar 64 (.int .u8)) .nil)))) [(.f 0, 32, (.t 19)), (.f 32, 1, (.t 21)), (.f 33, 64, (.t 23))]),
  A1 25 (.box (.t 24)),
  A1 6 (.mv (.t 25))])
 ((.seq (.reg [A1 27 (.fadr 32 (.t 3)),
  A1 28 (.load true 19 (.t 27)),
  A1 29 (.mv (.t 6)),
  A1 30 (.mkif 426 (.t 29)),
  ⟨(some 31), .call 241 [(.t 28), (.t 30)], none⟩,
  A1 26 (.mv (.t 31)),
  A1 32 (.ext (.t 26) 0),
  A1 33 (.ext (.t 26) 1),
  A1 7 (.alloc (.st (.cons (.ar 16 (.int .u64)) (.cons (.int .u64) (.cons .bool (.cons (.int .u64) .nil)))))),
  A0 (.store 19 (.t 7) (.t 32)),
  A1 8 (.mv (.t 33))])
 ((.seq (.block 0 ((.seq (.reg [A1 35 (.mv (.t 8)),
  A1 36 (.eq true true (.iface [74]) (.t 35) (.c .nili)),
  A1 34 (.mv (.t 36))])
 (.cond (.t 34) ((.seq (.reg [A1 37 (.build (.ar 32 (.int .u8)) []),
  A1 38 (.mv (.t 8)),
  A0 (.store 32 (.t 4) (.t 37)),
  A1 5 (.mv (.t 38))])
 (.ret))) ((.seq (.reg [A1 40 (.mv (.t 6)),
  A1 41 (.nilc (.t 40)),
  A1 42 (.fadr 32 (.t 41)),
  A1 43 (.load false 1 (.t 42)),
  A1 44 (.len 0 (.t 43)),
  A1 45 (.ari .gtr (.t 44) (.c (.int .i64 0))),
  A1 39 (.mv (.t 45))])
 (.cond (.t 39) ((.seq (.reg [A1 46 (.build (.ar 32 (.int .u8)) []),
  A1 47 (.mkif 74 (.c (.int .i64 3))),
  A0 (.store 32 (.t 4) (.t 46)),
  A1 5 (.mv (.t 47))])
 (.ret))) (.skip))))))))
 ((.seq (.regd [⟨0, 0, A1 48 (.mv (.t 6))⟩,
  ⟨1, 1, A1 49 (.nilc (.t 48))⟩,
  ⟨2, 3, A1 50 (.fadr 0 (.t 49))⟩,
  ⟨3, 7, A1 51 (.load true 32 (.t 50))⟩,
  ⟨4, 0, A1 52 (.load true 19 (.t 7))⟩,
  ⟨5, 31, ⟨(some 53), .call 62 [(.t 51), (.t 52)], none⟩⟩,
  ⟨6, 63, A0 (.store 32 (.t 4) (.t 53))⟩,
  ⟨7, 127, A1 5 (.mv (.c .nili))⟩])
 (.ret))))))))))))
def f98 : LF := ⟨c98, 2, 0, 54, [.cell 4 true 32, .tmp 5]⟩

/-- moot/onestep.next -/
def c241 : LC := (.seq (.reg [A1 2 (.box (.t 0)),
  A1 4 (.alloc (.st (.cons (.ar 16 (.int .u64)) (.cons (.int .u64) (.cons .bool (.cons (.int .u64) .nil)))))),
  A1 5 (.mv (.c .nili))])
 ((.seq ((.seq (.reg [A1 17 (.fadr 17 (.t 2)),
  A1 18 (.load false 1 (.t 17))])
 (.cond (.t 18) ((.seq (.reg [A1 19 (.load true 19 (.t 2)),
  A0 (.store 19 (.t 4) (.t 19)),
  A1 5 (.mv (.c .nili))])
 (.ret))) (.skip))))
 ((.seq ((.seq (.reg [A1 20 (.fadr 16 (.t 2)),
  A1 21 (.load false 1 (.t 20)),
  A1 22 (.ari .geq (.t 21) (.c (.int .u64 8192)))])
 (.cond (.t 22) ((.seq (.reg [A1 23 (.load true 19 (.t 2)),
  ⟨(some 24), .call 346 [(.t 23), (.c (.int .u64 18446744073709551614))], none⟩,
  A0 (.store 19 (.t 4) (.t 24)),
  A1 5 (.mv (.c .nili))])
 (.ret))) (.skip))))
 ((.seq (.reg [A1 26 (.mv (.t 1)),
  A1 27 (.fadr 16 (.t 2)),
  A1 28 (.load false 1 (.t 27)),
  ⟨(some 29), .dyn (.c (.fcons 0 .junk .fnil)) [(.t 26), (.t 28)], none⟩,
  A1 25 (.mv (.t 29)),
  A1 30 (.ext (.t 25) 0),
  A1 31 (.ext (.t 25) 1),
  A1 6 (.mv (.t 30)),
  A1 7 (.mv (.t 31))])
 ((.seq ((.seq (.reg [A1 32 (.mv (.t 7)),
  A1 33 (.eq true true (.iface [74]) (.t 32) (.c .nili))])
 (.cond (.t 33) ((.seq (.reg [A1 34 (.load true 19 (.t 2)),
  A1 35 (.mv (.t 7)),
  A0 (.store 19 (.t 4) (.t 34)),
  A1 5 (.mv (.t 35))])
 (.ret))) (.skip))))
 ((.seq (.reg [A1 37 (.mv (.t 6)),
  ⟨(some 38), .call 79 [(.t 37)], none⟩,
  A1 36 (.mv (.t 38)),
  A1 39 (.ext (.t 36) 0),
  A1 40 (.ext (.t 36) 1),
  A1 41 (.ext (.t 36) 2),
  A1 42 (.ext (.t 36) 3),
  A1 43 (.ext (.t 36) 4),
  A1 44 (.ext (.t 36) 5),
  A1 45 (.ext (.t 36) 6),
  A1 8 (.mv (.t 39)),
  A1 9 (.mv (.t 40)),
  A1 10 (.mv (.t 41)),
  A1 11 (.mv (.t 42)),
  A1 12 (.mv (.t 43)),
  A1 13 (.mv (.t 44)),
  A1 14 (.mv (.t 45))])
 ((.seq (.reg [A1 46 (.mv (.t 10)),
  A1 47 (.fadr 0 (.t 2)),
  A1 48 (.iarr 16 1 (.t 47) (.t 46)),
  A1 49 (.load false 1 (.t 48)),
  A1 50 (.mv (.t 13)),
  A1 51 (.conv .u64 (.t 50)),
  A1 52 (.ari .add (.t 49) (.t 51)),
  A1 15 (.mv (.t 52))])
 ((.seq (.reg [A1 53 (.fadr 0 (.t 2)),
  A1 16 (.mv (.t 53))])
 ((.seq (.block 0 ((.seq (.reg [A1 71 (.mv (.t 14)),
  A1 72 (.un .not (.t 71)),
  A1 70 (.mv (.t 72))])
 (.cond (.t 70) ((.seq (.reg [A1 73 (.load true 19 (.t 2)),
  ⟨(some 74), .call 346 [(.t 73), (.c (.int .u64 18446744073709551614))], none⟩,
  A0 (.store 19 (.t 4) (.t 74)),
  A1 5 (.mv (.c .nili))])
 (.ret))) ((.seq (.reg [A1 76 (.mv (.t 8)),
  A1 77 (.ari .eql (.t 76) (.c (.int .i64 0))),
  A1 75 (.mv (.t 77))])
 (.cond (.t 75) ((.seq (.regd [⟨0, 0, A1 78 (.load true 19 (.t 2))⟩,
  ⟨1, 0, A1 79 (.mv (.t 16))⟩,
  ⟨2, 0, A1 80 (.mv (.t 10))⟩,
  ⟨3, 2, A1 81 (.nilc (.t 79))⟩,
  ⟨4, 14, A1 82 (.iarr 16 1 (.t 81) (.t 80))⟩,
  ⟨5, 30, A1 83 (.load false 1 (.t 82))⟩,
  ⟨6, 63, ⟨(some 84), .call 346 [(.t 78), (.t 83)], none⟩⟩,
  ⟨7, 127, A0 (.store 19 (.t 4) (.t 84))⟩,
  ⟨8, 255, A1 5 (.mv (.c .nili))⟩])
 (.ret))) ((.seq (.reg [A1 86 (.mv (.t 8)),
  A1 87 (.ari .lss (.t 86) (.c (.int .i64 26))),
  A1 85 (.mv (.t 87))])
 (.cond (.t 85) (.regd [⟨2, 0, A1 91 (.mv (.t 8))⟩,
  ⟨3, 0, A1 92 (.mv (.t 16))⟩,
  ⟨4, 0, A1 93 (.mv (.t 10))⟩,
  ⟨5, 2, A1 94 (.nilc (.t 92))⟩,
  ⟨6, 14, A1 95 (.iarr 16 1 (.t 94) (.t 93))⟩,
  ⟨7, 30, A1 96 (.load false 1 (.t 95))⟩,
  ⟨8, 0, A1 97 (.mv (.t 16))⟩,
  ⟨9, 0, A1 98 (.mv (.t 11))⟩,
  ⟨10, 64, A1 99 (.nilc (.t 97))⟩,
  ⟨11, 448, A1 100 (.iarr 16 1 (.t 99) (.t 98))⟩,
  ⟨12, 960, A1 101 (.load false 1 (.t 100))⟩,
  ⟨13, 0, A1 102 (.mv (.t 16))⟩,
  ⟨14, 0, A1 103 (.mv (.t 12))⟩,
  ⟨15, 2048, A1 104 (.nilc (.t 102))⟩,
  ⟨16, 14336, A1 105 (.iarr 16 1 (.t 104) (.t 103))⟩,
  ⟨17, 30720, A1 106 (.load false 1 (.t 105))⟩,
  ⟨18, 65535, ⟨(some 107), .call 215 [(.t 91), (.t 96), (.t 101), (.t 106)], none⟩⟩,
  ⟨0, 0, A1 89 (.mv (.t 16))⟩,
  ⟨1, 0, A1 90 (.mv (.t 9))⟩,
  ⟨19, 131071, A1 88 (.mv (.t 107))⟩,
  ⟨20, 655359, A1 108 (.ext (.t 88) 0)⟩,
  ⟨22, 131072, A1 110 (.nilc (.t 89))⟩,
  ⟨23, 4194303, A1 111 (.iarr 16 1 (.t 110) (.t 90))⟩,
  ⟨24, 8388607, A0 (.store 1 (.t 111) (.t 108))⟩,
  ⟨21, 655359, A1 109 (.ext (.t 88) 1)⟩]) ((.seq (.reg [A1 113 (.mv (.t 8)),
  A1 114 (.ari .eql (.t 113) (.c (.int .i64 26))),
  A1 112 (.mv (.t 114))])
 (.cond (.t 112) (.reg [A1 115 (.mv (.t 16)),
  A1 116 (.mv (.t 9)),
  A1 117 (.mv (.t 13)),
  A1 118 (.conv .u64 (.t 117)),
  A1 119 (.nilc (.t 115)),
  A1 120 (.iarr 16 1 (.t 119) (.t 116)),
  A0 (.store 1 (.t 120) (.t 118))]) ((.seq (.reg [A1 122 (.mv (.t 8)),
  A1 123 (.ari .eql (.t 122) (.c (.int .i64 27))),
  A1 124 (.mv (.t 123)),
  A2 125 124 false (.mv (.t 8)),
  A2 126 124 false (.ari .eql (.t 125) (.c (.int .i64 28))),
  A1 127 (.pick (.t 124) (.c (.bool true)) (.t 126)),
  A1 128 (.mv (.t 127)),
  A2 129 128 true (.mv (.t 15)),
  A2 130 128 true (.ari .geq (.t 129) (.c (.int .u64 8192))),
  A1 131 (.pick (.t 128) (.t 130) (.c (.bool false))),
  A1 121 (.mv (.t 131))])
 (.cond (.t 121) ((.seq (.reg [A1 132 (.load true 19 (.t 2)),
  ⟨(some 133), .call 346 [(.t 132), (.c (.int .u64 18446744073709551614))], none⟩,
  A0 (.store 19 (.t 4) (.t 133)),
  A1 5 (.mv (.c .nili))])
 (.ret))) ((.seq (.reg [A1 135 (.mv (.t 8)),
  A1 136 (.ari .eql (.t 135) (.c (.int .i64 27))),
  A1 134 (.mv (.t 136))])
 (.cond (.t 134) (.regd [⟨2, 0, A1 140 (.mv (.t 1))⟩,
  ⟨3, 0, A1 141 (.mv (.t 15))⟩,
  ⟨4, 3, ⟨(some 142), .dyn (.c (.fcons 0 .junk .fnil)) [(.t 140), (.t 141)], none⟩⟩,
  ⟨0, 0, A1 138 (.mv (.t 16))⟩,
  ⟨1, 0, A1 139 (.mv (.t 9))⟩,
  ⟨5, 7, A1 137 (.mv (.t 142))⟩,
  ⟨6, 39, A1 143 (.ext (.t 137) 0)⟩,
  ⟨8, 8, A1 145 (.nilc (.t 138))⟩,
  ⟨9, 255, A1 146 (.iarr 16 1 (.t 145) (.t 139))⟩,
  ⟨10, 511, A0 (.store 1 (.t 146) (.t 143))⟩,
  ⟨7, 39, A1 144 (.ext (.t 137) 1)⟩,
  ⟨11, 2047, A1 7 (.mv (.t 144))⟩]) ((.seq (.reg [A1 148 (.mv (.t 8)),
  A1 149 (.ari .eql (.t 148) (.c (.int .i64 28))),
  A1 147 (.mv (.t 149))])
 (.cond (.t 147) (.regd [⟨0, 0, A1 150 (.mv (.t 1))⟩,
  ⟨1, 0, A1 151 (.mv (.t 15))⟩,
  ⟨2, 0, A1 152 (.mv (.t 16))⟩,
  ⟨3, 0, A1 153 (.mv (.t 11))⟩,
  ⟨4, 4, A1 154 (.nilc (.t 152))⟩,
  ⟨5, 28, A1 155 (.iarr 16 1 (.t 154) (.t 153))⟩,
  ⟨6, 60, A1 156 (.load false 1 (.t 155))⟩,
  ⟨7, 1, A1 157 (.mkmth 1 (.t 150))⟩,
  ⟨8, 129, A1 158 (.nilm 1 [422, 426] (.t 157))⟩,
  ⟨9, 385, A1 159 (.mv (.t 150))⟩,
  ⟨10, 1023, ⟨(some 160), .dyn (.c (.fcons 1 .junk .fnil)) [(.t 159), (.t 151), (.t 156)], none⟩⟩,
  ⟨11, 2047, A1 7 (.mv (.t 160))⟩]) ((.seq (.reg [A1 162 (.mv (.t 8)),
  A1 163 (.ari .lss (.t 162) (.c (.int .i64 34))),
  A1 161 (.mv (.t 163))])
 (.cond (.t 161) ((.seq (.reg [A1 164 (.load true 19 (.t 2)),
  A1 165 (.mv (.t 8)),
  A1 166 (.mv (.t 9)),
  A1 167 (.mv (.t 10)),
  A1 168 (.mv (.t 13)),
  A1 169 (.conv .u64 (.t 168)),
  ⟨(some 170), .call 347 [(.t 164), (.t 165), (.t 166), (.t 167), (.t 169)], none⟩,
  A0 (.store 19 (.t 4) (.t 170)),
  A1 5 (.mv (.c .nili))])
 (.ret))) ((.seq (.regd [⟨0, 0, A1 54 (.load true 19 (.t 2))⟩,
  ⟨1, 0, A1 55 (.mv (.t 1))⟩,
  ⟨2, 0, A1 56 (.mv (.t 8))⟩,
  ⟨3, 0, A1 57 (.mv (.t 16))⟩,
  ⟨4, 0, A1 58 (.mv (.t 10))⟩,
  ⟨5, 8, A1 59 (.nilc (.t 57))⟩,
  ⟨6, 56, A1 60 (.iarr 16 1 (.t 59) (.t 58))⟩,
  ⟨7, 120, A1 61 (.load false 1 (.t 60))⟩,
  ⟨8, 0, A1 62 (.mv (.t 16))⟩,
  ⟨9, 0, A1 63 (.mv (.t 11))⟩,
  ⟨10, 256, A1 64 (.nilc (.t 62))⟩,
  ⟨11, 1792, A1 65 (.iarr 16 1 (.t 64) (.t 63))⟩,
  ⟨12, 3840, A1 66 (.load false 1 (.t 65))⟩,
  ⟨13, 8191, ⟨(some 67), .call 348 [(.t 54), (.t 55), (.t 56), (.t 61), (.t 66)], none⟩⟩,
  ⟨14, 16383, A1 68 (.ext (.t 67) 0)⟩,
  ⟨15, 16383, A1 69 (.ext (.t 67) 1)⟩,
  ⟨16, 65535, A0 (.store 19 (.t 4) (.t 68))⟩,
  ⟨17, 131071, A1 5 (.mv (.t 69))⟩])
 (.ret))))))))))))))))))))))))))))
 ((.seq (.reg [A1 171 (.fadr 16 (.t 2)),
  A1 172 (.load false 1 (.t 171)),
  A1 173 (.ari .add (.t 172) (.c (.int .u64 1))),
  A1 174 (.fadr 16 (.t 2)),
  A0 (.store 1 (.t 174) (.t 173))])
 ((.seq (.reg [A1 175 (.load true 19 (.t 2)),
  A1 176 (.mv (.t 7)),
  A0 (.store 19 (.t 4) (.t 175)),
  A1 5 (.mv (.t 176))])
 (.ret))))))))))))))))))))))
def f241 : LF := ⟨c241, 2, 0, 177, [.cell 4 true 19, .tmp 5]⟩

/-- moot/onestep.stopped -/
def c346 : LC := (.seq (.reg [A1 2 (.box (.t 0)),
  A1 4 (.alloc (.st (.cons (.ar 16 (.int .u64)) (.cons (.int .u64) (.cons .bool (.cons (.int .u64) .nil))))))])
 ((.seq (.reg [A1 5 (.mv (.t 1)),
  A1 6 (.fadr 17 (.t 2)),
  A0 (.store 1 (.t 6) (.c (.bool true))),
  A1 7 (.fadr 18 (.t 2)),
  A0 (.store 1 (.t 7) (.t 5))])
 ((.seq (.reg [A1 8 (.load true 19 (.t 2)),
  A0 (.store 19 (.t 4) (.t 8))])
 (.ret))))))
def f346 : LF := ⟨c346, 2, 0, 9, [.cell 4 true 19]⟩

/-- moot/onestep.jumped -/
def c347 : LC := (.seq (.reg [A1 5 (.box (.t 0)),
  A1 10 (.alloc (.st (.cons (.ar 16 (.int .u64)) (.cons (.int .u64) (.cons .bool (.cons (.int .u64) .nil))))))])
 ((.seq (.reg [A1 12 (.mv (.t 3)),
  A1 13 (.fadr 0 (.t 5)),
  A1 14 (.iarr 16 1 (.t 13) (.t 12)),
  A1 15 (.load false 1 (.t 14)),
  A1 16 (.ari .eql (.t 15) (.c (.int .u64 0))),
  A1 11 (.mv (.t 16))])
 ((.seq (.block 0 ((.seq (.reg [A1 18 (.mv (.t 1)),
  A1 19 (.ari .eql (.t 18) (.c (.int .i64 30))),
  A1 20 (.mv (.t 19)),
  A2 21 20 true (.mv (.t 11)),
  A2 22 20 true (.un .not (.t 21)),
  A1 23 (.pick (.t 20) (.t 22) (.c (.bool false))),
  A1 24 (.mv (.t 23)),
  A2 25 24 false (.mv (.t 1)),
  A2 26 24 false (.ari .eql (.t 25) (.c (.int .i64 31))),
  A2 27 24 false (.mv (.t 26)),
  A2 28 27 true (.mv (.t 11)),
  A2 29 24 false (.pick (.t 27) (.t 28) (.c (.bool false))),
  A1 30 (.pick (.t 24) (.c (.bool true)) (.t 29)),
  A1 17 (.mv (.t 30))])
 (.cond (.t 17) ((.seq (.reg [A1 31 (.fadr 16 (.t 5)),
  A1 32 (.load false 1 (.t 31)),
  A1 33 (.ari .add (.t 32) (.c (.int .u64 1))),
  A1 34 (.fadr 16 (.t 5)),
  A0 (.store 1 (.t 34) (.t 33))])
 ((.seq (.reg [A1 35 (.load true 19 (.t 5)),
  A0 (.store 19 (.t 10) (.t 35))])
 (.ret))))) ((.seq (.reg [A1 37 (.mv (.t 1)),
  A1 38 (.ari .eql (.t 37) (.c (.int .i64 33))),
  A1 36 (.mv (.t 38))])
 (.cond (.t 36) (.reg [A1 39 (.mv (.t 3)),
  A1 40 (.fadr 0 (.t 5)),
  A1 41 (.iarr 16 1 (.t 40) (.t 39)),
  A1 42 (.load false 1 (.t 41)),
  A1 4 (.mv (.t 42))]) (.skip))))))))
 ((.seq ((.seq (.reg [A1 43 (.mv (.t 4)),
  A1 44 (.ari .geq (.t 43) (.c (.int .u64 8192)))])
 (.cond (.t 44) ((.seq (.reg [A1 45 (.load true 19 (.t 5)),
  ⟨(some 46), .call 346 [(.t 45), (.c (.int .u64 18446744073709551614))], none⟩,
  A0 (.store 19 (.t 10) (.t 46))])
 (.ret))) (.skip))))
 ((.seq ((.seq (.reg [A1 47 (.mv (.t 1)),
  A1 48 (.ari .eql (.t 47) (.c (.int .i64 32)))])
 (.cond (.t 48) (.reg [A1 49 (.mv (.t 2)),
  A1 50 (.fadr 16 (.t 5)),
  A1 51 (.load false 1 (.t 50)),
  A1 52 (.ari .add (.t 51) (.c (.int .u64 1))),
  A1 53 (.fadr 0 (.t 5)),
  A1 54 (.iarr 16 1 (.t 53) (.t 49)),
  A0 (.store 1 (.t 54) (.t 52))]) (.skip))))
 ((.seq (.reg [A1 55 (.mv (.t 4)),
  A1 56 (.fadr 16 (.t 5)),
  A0 (.store 1 (.t 56) (.t 55))])
 ((.seq (.reg [A1 57 (.load true 19 (.t 5)),
  A0 (.store 19 (.t 10) (.t 57))])
 (.ret))))))))))))))
def f347 : LF := ⟨c347, 5, 0, 58, [.cell 10 true 19]⟩

/-- moot/onestep.oracle -/
def c348 : LC := (.seq (.reg [A1 5 (.box (.t 0)),
  A1 10 (.alloc (.st (.cons (.ar 16 (.int .u64)) (.cons (.int .u64) (.cons .bool (.cons (.int .u64) .nil)))))),
  A1 11 (.mv (.c .nili))])
 ((.seq (.reg [A1 12 (.mv (.c (.int .u64 8))),
  A1 13 (.mv (.c (.int .u64 4)))])
 ((.seq ((.seq (.reg [A1 24 (.mv (.t 2)),
  A1 25 (.ari .eql (.t 24) (.c (.int .i64 35)))])
 (.cond (.t 25) (.reg [A1 12 (.mv (.c (.int .u64 4))),
  A1 13 (.mv (.c (.int .u64 8)))]) (.skip))))
 ((.seq ((.seq (.reg [A1 26 (.mv (.t 3)),
  A1 27 (.mv (.t 12)),
  ⟨(some 28), .call 448 [(.t 26), (.t 27)], none⟩,
  A1 29 (.un .not (.t 28)),
  A1 30 (.mv (.t 29)),
  A2 31 30 false (.mv (.t 4)),
  A2 32 30 false (.mv (.t 13)),
  ⟨(some 33), .call 448 [(.t 31), (.t 32)], (some (30, false))⟩,
  A2 34 30 false (.un .not (.t 33)),
  A1 35 (.pick (.t 30) (.c (.bool true)) (.t 34))])
 (.cond (.t 35) ((.seq (.reg [A1 36 (.load true 19 (.t 5)),
  ⟨(some 37), .call 346 [(.t 36), (.c (.int .u64 18446744073709551614))], none⟩,
  A0 (.store 19 (.t 10) (.t 37)),
  A1 11 (.mv (.c .nili))])
 (.ret))) (.skip))))
 ((.seq (.reg [A1 14 (.mv (.c .nils))])
 ((.seq ((.seq (.reg [A1 38 (.mv (.t 12)),
  A1 39 (.mv (.c (.int .u64 0)))])
 (.block 0 (.loop ((.seq (.reg [A1 40 (.ari .lss (.t 39) (.t 38))])
 ((.seq (.cond (.t 40) (.skip) (.exit 0))
 ((.seq (.block 1 ((.seq (.reg [A1 41 (.mv (.t 39)),
  A1 15 (.mv (.t 41))])
 ((.seq (.reg [A1 43 (.mv (.t 1)),
  A1 44 (.mv (.t 3)),
  A1 45 (.mv (.t 15)),
  A1 46 (.ari .add (.t 44) (.t 45)),
  ⟨(some 47), .dyn (.c (.fcons 0 .junk .fnil)) [(.t 43), (.t 46)], none⟩,
  A1 42 (.mv (.t 47)),
  A1 48 (.ext (.t 42) 0),
  A1 49 (.ext (.t 42) 1),
  A1 16 (.mv (.t 48)),
  A1 17 (.mv (.t 49))])
 ((.seq ((.seq (.reg [A1 50 (.mv (.t 17)),
  A1 51 (.eq true true (.iface [74]) (.t 50) (.c .nili))])
 (.cond (.t 51) ((.seq (.reg [A1 52 (.load true 19 (.t 5)),
  A1 53 (.mv (.t 17)),
  A0 (.store 19 (.t 10) (.t 52)),
  A1 11 (.mv (.t 53))])
 (.ret))) (.skip))))
 (.reg [A1 54 (.mv (.t 14)),
  A1 55 (.mv (.t 16)),
  ⟨(some 56), .call 327 [(.t 54), (.t 55)], none⟩,
  A1 14 (.mv (.t 56))]))))))))
 (.reg [A1 57 (.ari .add (.t 39) (.c (.int .u64 1))),
  A1 39 (.mv (.t 57))])))))))))))
 ((.seq (.reg [A1 18 (.mv (.c .nils))])
 ((.seq ((.seq (.reg [A1 58 (.mv (.t 2)),
  A1 59 (.ari .eql (.t 58) (.c (.int .i64 34)))])
 (.cond (.t 59) ((.seq (.reg [A1 60 (.mv (.t 14)),
  ⟨(some 61), .call 319 [(.t 60)], none⟩,
  A1 19 (.alloc (.ar 32 (.int .u8))),
  A0 (.store 32 (.t 19) (.t 61))])
 (.reg [A1 62 (.slarr 32 1 (.t 19) none none),
  A1 18 (.mv (.t 62))]))) ((.seq (.regd [⟨0, 0, A1 64 (.mv (.t 1))⟩,
  ⟨1, 0, A1 65 (.mv (.t 14))⟩,
  ⟨2, 2, A1 66 (.s2a 32 1 (.t 65))⟩,
  ⟨3, 6, A1 67 (.load true 32 (.t 66))⟩,
  ⟨4, 1, A1 68 (.mkmth 2 (.t 64))⟩,
  ⟨5, 17, A1 69 (.nilm 2 [422, 426] (.t 68))⟩,
  ⟨6, 49, A1 70 (.mv (.t 64))⟩,
  ⟨7, 127, ⟨(some 71), .dyn (.c (.fcons 2 .junk .fnil)) [(.t 70), (.t 67)], none⟩⟩,
  ⟨8, 255, A1 63 (.mv (.t 71))⟩,
  ⟨9, 511, A1 72 (.ext (.t 63) 0)⟩,
  ⟨11, 0, A1 20 (.alloc (.ar 64 (.int .u8)))⟩,
  ⟨12, 2047, A0 (.store 64 (.t 20) (.t 72))⟩,
  ⟨10, 511, A1 73 (.ext (.t 63) 1)⟩,
  ⟨13, 8191, A1 21 (.mv (.t 73))⟩])
 ((.seq ((.seq (.reg [A1 74 (.mv (.t 21)),
  A1 75 (.eq true true (.iface [74]) (.t 74) (.c .nili))])
 (.cond (.t 75) ((.seq (.reg [A1 76 (.load true 19 (.t 5)),
  A1 77 (.mv (.t 21)),
  A0 (.store 19 (.t 10) (.t 76)),
  A1 11 (.mv (.t 77))])
 (.ret))) (.skip))))
 (.reg [A1 78 (.slarr 64 1 (.t 20) none none),
  A1 18 (.mv (.t 78))]))))))))
 ((.seq ((.seq (.reg [A1 79 (.mv (.t 13)),
  A1 80 (.mv (.c (.int .u64 0)))])
 (.block 2 (.loop ((.seq (.reg [A1 81 (.ari .lss (.t 80) (.t 79))])
 ((.seq (.cond (.t 81) (.skip) (.exit 2))
 ((.seq (.block 3 ((.seq (.reg [A1 82 (.mv (.t 80)),
  A1 22 (.mv (.t 82))])
 ((.seq (.regd [⟨4, 0, A1 87 (.mv (.t 18))⟩,
  ⟨5, 0, A1 88 (.mv (.t 22))⟩,
  ⟨6, 2, A1 89 (.ari .mul (.c (.int .u64 8)) (.t 88))⟩,
  ⟨7, 7, A1 90 (.slsl 1 (.t 87) (some (.t 89)) none)⟩,
  ⟨8, 15, ⟨(some 91), .call 308 [(.t 90)], none⟩⟩,
  ⟨0, 0, A1 83 (.mv (.t 1))⟩,
  ⟨1, 0, A1 84 (.mv (.t 4))⟩,
  ⟨2, 0, A1 85 (.mv (.t 22))⟩,
  ⟨3, 192, A1 86 (.ari .add (.t 84) (.t 85))⟩,
  ⟨9, 32, A1 92 (.mkmth 1 (.t 83))⟩,
  ⟨10, 544, A1 93 (.nilm 1 [422, 426] (.t 92))⟩,
  ⟨11, 1568, A1 94 (.mv (.t 83))⟩,
  ⟨12, 4095, ⟨(some 95), .dyn (.c (.fcons 1 .junk .fnil)) [(.t 94), (.t 86), (.t 91)], none⟩⟩,
  ⟨13, 8191, A1 23 (.mv (.t 95))⟩])
 ((.seq (.reg [A1 96 (.mv (.t 23)),
  A1 97 (.eq true true (.iface [74]) (.t 96) (.c .nili))])
 (.cond (.t 97) ((.seq (.reg [A1 98 (.load true 19 (.t 5)),
  A1 99 (.mv (.t 23)),
  A0 (.store 19 (.t 10) (.t 98)),
  A1 11 (.mv (.t 99))])
 (.ret))) (.skip)))))))))
 (.reg [A1 100 (.ari .add (.t 80) (.c (.int .u64 1))),
  A1 80 (.mv (.t 100))])))))))))))
 ((.seq (.reg [A1 101 (.fadr 16 (.t 5)),
  A1 102 (.load false 1 (.t 101)),
  A1 103 (.ari .add (.t 102) (.c (.int .u64 1))),
  A1 104 (.fadr 16 (.t 5)),
  A0 (.store 1 (.t 104) (.t 103))])
 ((.seq (.reg [A1 105 (.load true 19 (.t 5)),
  A0 (.store 19 (.t 10) (.t 105)),
  A1 11 (.mv (.c .nili))])
 (.ret))))))))))))))))))))))
def f348 : LF := ⟨c348, 5, 0, 106, [.cell 10 true 19, .tmp 11]⟩

/-- moot/onestep.within -/
def c448 : LC := (.seq (.reg [A1 4 (.mv (.c (.bool false)))])
 ((.seq (.reg [A1 5 (.mv (.t 0)),
  A1 6 (.ari .leq (.t 5) (.c (.int .u64 8192))),
  A1 7 (.mv (.t 6)),
  A2 8 7 true (.mv (.t 1)),
  A2 9 7 true (.mv (.t 0)),
  A2 10 7 true (.ari .sub (.c (.int .u64 8192)) (.t 9)),
  A2 11 7 true (.ari .leq (.t 8) (.t 10)),
  A1 12 (.pick (.t 7) (.t 11) (.c (.bool false))),
  A1 4 (.mv (.t 12))])
 (.ret))))
def f448 : LF := ⟨c448, 2, 0, 13, [.tmp 4]⟩

/-- (*moot/onestep.prover).preimage -/
def c595 : LC := (.seq (.reg [A1 3 (.box (.t 1)),
  A1 4 (.alloc (.ar 64 (.int .u8))),
  A1 5 (.mv (.c .nili))])
 ((.seq (.regd [⟨0, 0, A1 9 (.mv (.t 0))⟩,
  ⟨1, 1, A1 10 (.nilc (.t 9))⟩,
  ⟨2, 3, A1 11 (.fadr 1 (.t 10))⟩,
  ⟨3, 7, A1 12 (.load false 1 (.t 11))⟩,
  ⟨4, 15, ⟨(some 13), .call 167 [(.t 12)], none⟩⟩,
  ⟨5, 0, A1 14 (.load true 32 (.t 3))⟩,
  ⟨6, 63, ⟨(some 15), .call 328 [(.t 13), (.t 14)], none⟩⟩,
  ⟨7, 127, A1 8 (.mv (.t 15))⟩,
  ⟨8, 255, A1 16 (.ext (.t 8) 0)⟩,
  ⟨10, 0, A1 6 (.alloc (.ar 64 (.int .u8)))⟩,
  ⟨11, 1023, A0 (.store 64 (.t 6) (.t 16))⟩,
  ⟨9, 255, A1 17 (.ext (.t 8) 1)⟩,
  ⟨12, 4095, A1 7 (.mv (.t 17))⟩])
 ((.seq (.reg [A1 18 (.mv (.t 0)),
  A1 19 (.load true 64 (.t 6)),
  A1 20 (.nilc (.t 18)),
  A1 21 (.fadr 3 (.t 20)),
  A0 (.store 64 (.t 21) (.t 19))])
 ((.seq (.reg [A1 22 (.load true 64 (.t 6)),
  A1 23 (.mv (.t 7)),
  A0 (.store 64 (.t 4) (.t 22)),
  A1 5 (.mv (.t 23))])
 (.ret))))))))
def f595 : LF := ⟨c595, 2, 0, 24, [.cell 4 true 64, .tmp 5]⟩

/-- (*moot/onestep.prover).read -/
def c596 : LC := (.seq (.reg [A1 4 (.mv (.c (.int .u64 0))),
  A1 5 (.mv (.c .nili))])
 ((.seq (.reg [A1 9 (.mv (.t 0)),
  A1 10 (.nilc (.t 9)),
  A1 11 (.fadr 0 (.t 10)),
  A1 12 (.load false 1 (.t 11)),
  A1 13 (.mv (.t 1)),
  ⟨(some 14), .call 50 [(.t 12), (.t 13)], none⟩,
  A1 8 (.mv (.t 14)),
  A1 15 (.ext (.t 8) 0),
  A1 16 (.ext (.t 8) 1),
  A1 6 (.alloc (.st (.cons (.int .u64) (.cons .slice .nil)))),
  A0 (.store 2 (.t 6) (.t 15)),
  A1 7 (.mv (.t 16))])
 ((.seq (.regd [⟨1, 0, A1 18 (.mv (.t 0))⟩,
  ⟨2, 1, A1 19 (.nilc (.t 18))⟩,
  ⟨3, 3, A1 20 (.fadr 2 (.t 19))⟩,
  ⟨4, 7, A1 21 (.load false 1 (.t 20))⟩,
  ⟨5, 0, A1 22 (.load true 2 (.t 6))⟩,
  ⟨6, 16, A1 23 (.bsl 2 1 (.st (.cons (.int .u64) (.cons .slice .nil))) [(.i 2 0, 2, (.t 22))])⟩,
  ⟨7, 63, A1 24 (.app 2 32 (.t 21) (.t 23))⟩,
  ⟨0, 0, A1 17 (.mv (.t 0))⟩,
  ⟨8, 255, A1 25 (.nilc (.t 17))⟩,
  ⟨9, 511, A1 26 (.fadr 2 (.t 25))⟩,
  ⟨10, 1023, A0 (.store 1 (.t 26) (.t 24))⟩])
 ((.seq (.reg [A1 27 (.fadr 0 (.t 6)),
  A1 28 (.load false 1 (.t 27)),
  A1 29 (.mv (.t 7)),
  A1 4 (.mv (.t 28)),
  A1 5 (.mv (.t 29))])
 (.ret))))))))
def f596 : LF := ⟨c596, 2, 0, 30, [.tmp 4, .tmp 5]⟩

/-- (*moot/onestep.prover).write -/
def c597 : LC := (.seq (.reg [A1 6 (.mv (.c .nili))])
 ((.seq (.reg [A1 10 (.mv (.t 0)),
  A1 11 (.mv (.t 1)),
  ⟨(some 12), .call 596 [(.t 10), (.t 11)], none⟩,
  A1 9 (.mv (.t 12)),
  A1 13 (.ext (.t 9) 0),
  A1 14 (.ext (.t 9) 1),
  A1 7 (.mv (.t 13)),
  A1 8 (.mv (.t 14))])
 ((.seq (.reg [A1 15 (.mv (.t 0)),
  A1 16 (.nilc (.t 15)),
  A1 17 (.fadr 0 (.t 16)),
  A1 18 (.load false 1 (.t 17)),
  A1 19 (.mv (.t 1)),
  A1 20 (.mv (.t 2)),
  A1 21 (.nilc (.t 18)),
  A1 22 (.fadr 0 (.t 21)),
  A1 23 (.iarr 8192 1 (.t 22) (.t 19)),
  A0 (.store 1 (.t 23) (.t 20))])
 ((.seq (.reg [A1 24 (.mv (.t 8)),
  A1 6 (.mv (.t 24))])
 (.ret))))))))
def f597 : LF := ⟨c597, 3, 0, 25, [.tmp 6]⟩

/-- (*moot/onestep.checker).preimage -/
def c598 : LC := (.seq (.reg [A1 3 (.box (.t 1)),
  A1 4 (.alloc (.ar 64 (.int .u8))),
  A1 5 (.mv (.c .nili))])
 ((.seq ((.seq (.regd [⟨0, 0, A1 6 (.mv (.t 0))⟩,
  ⟨1, 1, A1 7 (.nilc (.t 6))⟩,
  ⟨2, 3, A1 8 (.fadr 33 (.t 7))⟩,
  ⟨3, 7, A1 9 (.slarr 64 1 (.t 8) none none)⟩,
  ⟨4, 15, ⟨(some 10), .call 319 [(.t 9)], none⟩⟩,
  ⟨5, 0, A1 11 (.load true 32 (.t 3))⟩,
  ⟨6, 63, A1 12 (.eq true false (.ar 32 1 false .int) (.t 10) (.t 11))⟩])
 (.cond (.t 12) ((.seq (.reg [A1 13 (.build (.ar 64 (.int .u8)) []),
  A1 14 (.mkif 74 (.c (.int .i64 31))),
  A0 (.store 64 (.t 4) (.t 13)),
  A1 5 (.mv (.t 14))])
 (.ret))) (.skip))))
 ((.seq (.reg [A1 15 (.mv (.t 0)),
  A1 16 (.nilc (.t 15)),
  A1 17 (.fadr 33 (.t 16)),
  A1 18 (.load true 64 (.t 17)),
  A0 (.store 64 (.t 4) (.t 18)),
  A1 5 (.mv (.c .nili))])
 (.ret))))))
def f598 : LF := ⟨c598, 2, 0, 19, [.cell 4 true 64, .tmp 5]⟩

/-- (*moot/onestep.checker).read -/
def c599 : LC := (.seq (.reg [A1 4 (.mv (.c (.int .u64 0))),
  A1 5 (.mv (.c .nili))])
 ((.seq (.reg [A1 10 (.mv (.t 0)),
  ⟨(some 11), .call 601 [(.t 10)], none⟩,
  A1 9 (.mv (.t 11)),
  A1 12 (.ext (.t 9) 0),
  A1 13 (.ext (.t 9) 1),
  A1 6 (.alloc (.st (.cons (.int .u64) (.cons .slice .nil)))),
  A0 (.store 2 (.t 6) (.t 12)),
  A1 7 (.mv (.t 13))])
 ((.seq ((.seq (.reg [A1 14 (.mv (.t 7)),
  A1 15 (.eq true true (.iface [74]) (.t 14) (.c .nili))])
 (.cond (.t 15) ((.seq (.reg [A1 16 (.mv (.t 7)),
  A1 4 (.mv (.c (.int .u64 0))),
  A1 5 (.mv (.t 16))])
 (.ret))) (.skip))))
 ((.seq (.regd [⟨0, 0, A1 18 (.mv (.t 0))⟩,
  ⟨1, 1, A1 19 (.nilc (.t 18))⟩,
  ⟨2, 3, A1 20 (.fadr 0 (.t 19))⟩,
  ⟨3, 7, A1 21 (.load true 32 (.t 20))⟩,
  ⟨4, 0, A1 22 (.mv (.t 1))⟩,
  ⟨5, 0, A1 23 (.load true 2 (.t 6))⟩,
  ⟨6, 63, ⟨(some 24), .call 53 [(.t 21), (.t 22), (.t 23)], none⟩⟩,
  ⟨7, 127, A1 17 (.mv (.t 24))⟩,
  ⟨8, 255, A1 25 (.ext (.t 17) 0)⟩,
  ⟨9, 255, A1 26 (.ext (.t 17) 1)⟩,
  ⟨10, 511, A1 8 (.mv (.t 25))⟩,
  ⟨11, 2047, A1 7 (.mv (.t 26))⟩])
 ((.seq ((.seq (.reg [A1 27 (.mv (.t 7)),
  A1 28 (.eq false true (.iface [74]) (.t 27) (.c .nili)),
  A1 29 (.mv (.t 28)),
  A2 30 29 true (.mv (.t 8)),
  A2 31 29 true (.un .not (.t 30)),
  A1 32 (.pick (.t 29) (.t 31) (.c (.bool false)))])
 (.cond (.t 32) (.reg [A1 33 (.mkif 74 (.c (.int .i64 31))),
  A1 7 (.mv (.t 33))]) (.skip))))
 ((.seq (.reg [A1 34 (.fadr 0 (.t 6)),
  A1 35 (.load false 1 (.t 34)),
  A1 36 (.mv (.t 7)),
  A1 4 (.mv (.t 35)),
  A1 5 (.mv (.t 36))])
 (.ret))))))))))))
def f599 : LF := ⟨c599, 2, 0, 37, [.tmp 4, .tmp 5]⟩

/-- (*moot/onestep.checker).write -/
def c600 : LC := (.seq (.reg [A1 6 (.mv (.c .nili))])
 ((.seq (.reg [A1 11 (.mv (.t 0)),
  ⟨(some 12), .call 601 [(.t 11)], none⟩,
  A1 10 (.mv (.t 12)),
  A1 13 (.ext (.t 10) 0),
  A1 14 (.ext (.t 10) 1),
  A1 7 (.alloc (.st (.cons (.int .u64) (.cons .slice .nil)))),
  A0 (.store 2 (.t 7) (.t 13)),
  A1 8 (.mv (.t 14))])
 ((.seq ((.seq (.reg [A1 15 (.mv (.t 8)),
  A1 16 (.eq true true (.iface [74]) (.t 15) (.c .nili))])
 (.cond (.t 16) ((.seq (.reg [A1 17 (.mv (.t 8)),
  A1 6 (.mv (.t 17))])
 (.ret))) (.skip))))
 ((.seq (.regd [⟨0, 0, A1 19 (.mv (.t 0))⟩,
  ⟨1, 1, A1 20 (.nilc (.t 19))⟩,
  ⟨2, 3, A1 21 (.fadr 0 (.t 20))⟩,
  ⟨3, 7, A1 22 (.load true 32 (.t 21))⟩,
  ⟨4, 0, A1 23 (.mv (.t 1))⟩,
  ⟨5, 0, A1 24 (.load true 2 (.t 7))⟩,
  ⟨6, 0, A1 25 (.mv (.t 2))⟩,
  ⟨7, 127, ⟨(some 26), .call 52 [(.t 22), (.t 23), (.t 24), (.t 25)], none⟩⟩,
  ⟨8, 255, A1 18 (.mv (.t 26))⟩,
  ⟨9, 511, A1 27 (.ext (.t 18) 0)⟩,
  ⟨11, 0, A1 9 (.alloc (.ar 32 (.int .u8)))⟩,
  ⟨12, 2047, A0 (.store 32 (.t 9) (.t 27))⟩,
  ⟨10, 511, A1 28 (.ext (.t 18) 1)⟩,
  ⟨13, 8191, A1 8 (.mv (.t 28))⟩])
 ((.seq ((.seq (.reg [A1 29 (.mv (.t 8)),
  A1 30 (.eq false true (.iface [74]) (.t 29) (.c .nili))])
 (.cond (.t 30) (.reg [A1 31 (.mv (.t 0)),
  A1 32 (.load true 32 (.t 9)),
  A1 33 (.nilc (.t 31)),
  A1 34 (.fadr 0 (.t 33)),
  A0 (.store 32 (.t 34) (.t 32))]) (.skip))))
 ((.seq (.reg [A1 35 (.mv (.t 8)),
  A1 6 (.mv (.t 35))])
 (.ret))))))))))))
def f600 : LF := ⟨c600, 3, 0, 36, [.tmp 6]⟩

/-- (*moot/onestep.checker).take -/
def c601 : LC := (.seq (.reg [A1 2 (.alloc (.st (.cons (.int .u64) (.cons .slice .nil)))),
  A1 3 (.mv (.c .nili))])
 ((.seq ((.seq (.reg [A1 5 (.mv (.t 0)),
  A1 6 (.nilc (.t 5)),
  A1 7 (.fadr 32 (.t 6)),
  A1 8 (.load false 1 (.t 7)),
  A1 9 (.len 0 (.t 8)),
  A1 10 (.ari .eql (.t 9) (.c (.int .i64 0)))])
 (.cond (.t 10) ((.seq (.reg [A1 11 (.build (.st (.cons (.int .u64) (.cons .slice .nil))) []),
  A1 12 (.mkif 74 (.c (.int .i64 3))),
  A0 (.store 2 (.t 2) (.t 11)),
  A1 3 (.mv (.t 12))])
 (.ret))) (.skip))))
 ((.seq (.reg [A1 13 (.mv (.t 0)),
  A1 14 (.nilc (.t 13)),
  A1 15 (.fadr 32 (.t 14)),
  A1 16 (.load false 1 (.t 15)),
  A1 17 (.isl 2 (.t 16) (.c (.int .i64 0))),
  A1 18 (.load true 2 (.t 17)),
  A1 4 (.alloc (.st (.cons (.int .u64) (.cons .slice .nil)))),
  A0 (.store 2 (.t 4) (.t 18))])
 ((.seq (.reg [A1 19 (.mv (.t 0)),
  A1 20 (.mv (.t 0)),
  A1 21 (.nilc (.t 20)),
  A1 22 (.fadr 32 (.t 21)),
  A1 23 (.load false 1 (.t 22)),
  A1 24 (.slsl 2 (.t 23) (some (.c (.int .i64 1))) none),
  A1 25 (.nilc (.t 19)),
  A1 26 (.fadr 32 (.t 25)),
  A0 (.store 1 (.t 26) (.t 24))])
 ((.seq (.reg [A1 27 (.load true 2 (.t 4)),
  A0 (.store 2 (.t 2) (.t 27)),
  A1 3 (.mv (.c .nili))])
 (.ret))))))))))
def f601 : LF := ⟨c601, 1, 0, 28, [.cell 2 true 2, .tmp 3]⟩

end Mv
namespace Mv
open Go
set_option maxRecDepth 20000
set_option maxHeartbeats 4000000
set_option linter.unusedSimpArgs false

structure Hd where
  g : Nat → BitVec 64
  pc : BitVec 64
  hl : Bool
  xt : BitVec 64
def Hd.v (h : Hd) : V := hdV h.g h.pc h.hl h.xt
def Hd.stop (h : Hd) (x : BitVec 64) : Hd := ⟨h.g, h.pc, true, x⟩
/-- Is it an instruction's word? -/
def isI (w : BitVec 64) : Bool := decide (pOp w ≤ 35 ∧ w >>> 32 &&& 255#64 = 0#64)
/-- A jump. -/
def jmpH (op : Nat) (h : Hd) (d a : Nat) (to : BitVec 64) : Hd :=
  if (op = 30 ∧ ¬ h.g a = 0#64) ∨ (op = 31 ∧ h.g a = 0#64) then ⟨h.g, h.pc + 1#64, h.hl, h.xt⟩
  else if 8192#64 ≤ (if op = 33 then h.g a else to) then h.stop wrongW
  else ⟨if op = 32 then upd h.g d (h.pc + 1#64) else h.g, if op = 33 then h.g a else to, h.hl, h.xt⟩
section
variable {σ : Type} (m : Mm σ)
/-- So many reads, from the i-th on. -/
def rdA (a : BitVec 64) : Nat → Nat → σ → List (BitVec 64) → Option Int × σ × List (BitVec 64)
  | 0, _, s, l => (none, s, l)
  | n + 1, i, s, l => match (m.rd s (a + BitVec.ofNat 64 i)).2.1 with
    | some e => (some e, (m.rd s (a + BitVec.ofNat 64 i)).2.2, l)
    | none => rdA a n (i + 1) (m.rd s (a + BitVec.ofNat 64 i)).2.2 (l ++ [(m.rd s (a + BitVec.ofNat 64 i)).1])
/-- So many writes. -/
def wrA (a : BitVec 64) (f : Nat → BitVec 64) : Nat → Nat → σ → Option Int × σ
  | 0, _, s => (none, s)
  | n + 1, i, s => match (m.wr s (a + BitVec.ofNat 64 i) (f i)).1 with
    | some e => (some e, (m.wr s (a + BitVec.ofNat 64 i) (f i)).2)
    | none => wrA a f n (i + 1) (m.wr s (a + BitVec.ofNat 64 i) (f i)).2
/-- The words of bytes. -/
def wsB (p : Nat → BitVec 8) (i : Nat) : BitVec 64 := wrd (fun j => p (8 * i + j)) 8
def bysL (l : List (BitVec 64)) : Nat → BitVec 8 := byWs fun j => l.getD j 0#64
/-- The writes of an oracle, and what is behind them. -/
def orcW (h : Hd) (s : σ) (to : BitVec 64) (t : Nat) (p : Nat → BitVec 8) : Hd × Option Int × σ :=
  match wrA m to (wsB p) t 0 s with
  | (some e, s') => (h, some e, s')
  | (none, s') => (⟨h.g, h.pc + 1#64, h.hl, h.xt⟩, none, s')
def orcP (h : Hd) (s : σ) (to : BitVec 64) (d : Dg) : Hd × Option Int × σ :=
  match m.pi s d with
  | (_, some e, s') => (h, some e, s')
  | (p, none, s') => orcW m h s' to 8 p.at
def orc (op : Nat) (h : Hd) (s : σ) (a b : BitVec 64) : Hd × Option Int × σ :=
  if (wi a (if op = 35 then 4#64 else 8#64) && wi b (if op = 35 then 8#64 else 4#64)) = false then (h.stop wrongW, none, s)
  else match rdA m a (if op = 35 then 4 else 8) 0 s [] with
    | (some e, s', _) => (h, some e, s')
    | (none, s', l) =>
      if op = 34 then orcW m h s' b 4 (sum64 (Pr.mk' (bysL l)).at).at
      else orcP m h s' b (Dg.mk' (bysL l))
def nx1 (h : Hd) (w : BitVec 64) (s : σ) : Hd × Option Int × σ :=
  if isI w = false then (h.stop wrongW, none, s)
  else if pOp w = 0 then (h.stop (h.g (pF w 48)), none, s)
  else if pOp w < 26 then (⟨upd h.g (pF w 52) (apW (pOp w) (h.g (pF w 48)) (h.g (pF w 44)) (h.g (pF w 40))), h.pc + 1#64, h.hl, h.xt⟩, none, s)
  else if pOp w = 26 then (⟨upd h.g (pF w 52) (BitVec.ofInt 64 (pN w)), h.pc + 1#64, h.hl, h.xt⟩, none, s)
  else if pOp w = 27 ∨ pOp w = 28 then
    if 8192#64 ≤ h.g (pF w 48) + BitVec.ofInt 64 (pN w) then (h.stop wrongW, none, s)
    else if pOp w = 27 then (⟨upd h.g (pF w 52) (m.rd s (h.g (pF w 48) + BitVec.ofInt 64 (pN w))).1, h.pc + 1#64, h.hl, h.xt⟩, (m.rd s (h.g (pF w 48) + BitVec.ofInt 64 (pN w))).2)
    else (⟨h.g, h.pc + 1#64, h.hl, h.xt⟩, m.wr s (h.g (pF w 48) + BitVec.ofInt 64 (pN w)) (h.g (pF w 44)))
  else if pOp w < 34 then (jmpH (pOp w) h (pF w 52) (pF w 48) (BitVec.ofInt 64 (pN w)), none, s)
  else orc m (pOp w) h s (h.g (pF w 48)) (h.g (pF w 44))
/-- A step behind the first read. -/
def nx (h : Hd) (s : σ) : Hd × Option Int × σ :=
  match (m.rd s h.pc).2.1 with
  | some e => (h, some e, (m.rd s h.pc).2.2)
  | none => nx1 m h (m.rd s h.pc).1 (m.rd s h.pc).2.2
end

structure OkNx (M : Seat) : Prop where
  k241 : chkF M 241 f241 = true
  k346 : chkF M 346 f346 = true
  k347 : chkF M 347 f347 = true
  k348 : chkF M 348 f348 = true
  k448 : chkF M 448 f448 = true

theorem runs_stopped {M : Seat} (ok : OkNx M) (g : Nat → BitVec 64) (pc : BitVec 64) (hl : Bool) (xt e : BitVec 64) :
    Runs M 346 [hdV g pc hl xt, W e] [] 0 (fun r H' k' => r = hdV g pc true e ∧ H' = [] ∧ k' = 0) := by
  refine runs_fr ok.k346 rfl fun x hx => ?_
  refine ex_sound 2000 _ _ _ _ ?_; (simp (maxSteps := 4000000) only [f346, c346, hdV, LZ, seval, reduceCtorEq, forall_const])
  refine RetS.mk hx [] [] _ _ _ (by decide) (by (simp only [LV, hdV, LZ, seval, reduceCtorEq, forall_const])) (by ((try simp only [LV, hdV, LZ, seval, reduceCtorEq, forall_const, LY, seval, reduceCtorEq, implies_true]); first | done | exact True.intro | (intros; rfl))) (by ((try simp only [hdV, LY, seval, reduceCtorEq, implies_true]); first | done | exact True.intro | (intros; rfl))) ⟨rfl, rfl, rfl⟩

theorem runs_within15 {M : Seat} (ok : OkNx M) (a b : BitVec 64) :
    Runs M 448 [W a, W b] [] 0 (fun r H' k' => r = .bool (wi a b) ∧ H' = [] ∧ k' = 0) := by
  refine runs_fr ok.k448 rfl fun x hx => ?_
  unfold wi
  by_cases h1 : a ≤ 8192#64
  · refine ex_sound 2000 _ _ _ _ ?_; (simp (maxSteps := 4000000) only [f448, c448, h1, LZ, seval, reduceCtorEq, forall_const])
    refine RetS.mk hx [] [] _ _ _ (by decide) (by (simp only [LV, h1, LZ, seval, reduceCtorEq, forall_const])) (by ((try simp only [LV, h1, LZ, seval, reduceCtorEq, forall_const, LY, seval, reduceCtorEq, implies_true]); first | done | exact True.intro | (intros; rfl))) (by ((try simp only [h1, LY, seval, reduceCtorEq, implies_true]); first | done | exact True.intro | (intros; rfl))) ⟨rfl, rfl, rfl⟩
  · refine ex_sound 2000 _ _ _ _ ?_; (simp (maxSteps := 4000000) only [f448, c448, h1, LZ, seval, reduceCtorEq, forall_const])
    refine RetS.mk hx [] [] _ _ _ (by decide) (by (simp only [LV, h1, LZ, seval, reduceCtorEq, forall_const])) (by ((try simp only [LV, h1, LZ, seval, reduceCtorEq, forall_const, LY, seval, reduceCtorEq, implies_true]); first | done | exact True.intro | (intros; rfl))) (by ((try simp only [h1, LY, seval, reduceCtorEq, implies_true]); first | done | exact True.intro | (intros; rfl))) ⟨rfl, rfl, rfl⟩

theorem runs_jumped {M : Seat} (ok : OkNx M) (op : Nat) (ho : op = 29 ∨ op = 30 ∨ op = 31 ∨ op = 32 ∨ op = 33) (g : Nat → BitVec 64) (pc : BitVec 64) (hl : Bool) (xt : BitVec 64) (d a : Nat) (hd : d < 16) (ha : a < 16) (to : BitVec 64) :
    Runs M 347 [hdV g pc hl xt, .int .i64 op, .int .i64 d, .int .i64 a, W to] [] 0 (fun r H' k' => r = (jmpH op ⟨g, pc, hl, xt⟩ d a to).v ∧ H' = [] ∧ k' = 0) := by
  refine runs_fr ok.k347 rfl fun x hx => ?_
  by_cases h0 : g a = 0#64 <;> by_cases h1 : 8192#64 ≤ to <;> by_cases h2 : 8192#64 ≤ g a <;> rcases ho with rfl | rfl | rfl | rfl | rfl
  all_goals simp only [jmpH, h0, h1, h2, seval, if_true, if_false, true_and, false_and, or_false, not_true_eq_false, not_false_eq_true, false_or, Hd.v, Hd.stop]
  all_goals refine ex_sound 2000 _ _ _ _ ?_; (simp (maxSteps := 4000000) only [f347, c347, hdV, h0, h1, h2, Int.cast_ofNat_Int, LZ, seval, reduceCtorEq, forall_const])
  all_goals repeat (refine And.intro (by first | omega | exact True.intro | rfl) ?_)
  all_goals try (refine RetS.mk hx [] [] _ _ _ (by decide) (by (simp only [LV, hdV, upd, ite_W, LZ, seval, reduceCtorEq, forall_const])) (by ((try simp only [LV, hdV, upd, ite_W, LZ, seval, reduceCtorEq, forall_const, LY, seval, reduceCtorEq, implies_true]); first | done | exact True.intro | (intros; rfl))) (by ((try simp only [hdV, upd, ite_W, LY, seval, reduceCtorEq, implies_true]); first | done | exact True.intro | (intros; rfl))) ⟨rfl, rfl, rfl⟩)
  all_goals
    refine call_pA (runs_stopped ok g pc hl xt wrongW) (by ((try simp only [hdV, LY, seval, reduceCtorEq, implies_true]); first | done | exact True.intro | rfl)) (by first | rfl | (simp only [LN, LP, V.ren, tup2, tup3])) (by simp only [hdV, LX, implies_true]) ?_
    (simp (maxSteps := 4000000) only [hdV, LZ, seval, reduceCtorEq, forall_const])
    refine RetS.mk hx [] [] _ _ _ (by decide) (by (simp only [LV, hdV, upd, ite_W, LZ, seval, reduceCtorEq, forall_const])) (by ((try simp only [LV, hdV, upd, ite_W, LZ, seval, reduceCtorEq, forall_const, LY, seval, reduceCtorEq, implies_true]); first | done | exact True.intro | (intros; rfl))) (by ((try simp only [hdV, upd, ite_W, LY, seval, reduceCtorEq, implies_true]); first | done | exact True.intro | (intros; rfl))) ⟨rfl, rfl, rfl⟩
end Mv
namespace Mv
open Go
set_option maxRecDepth 20000
set_option maxHeartbeats 4000000
set_option linter.unusedSimpArgs false

/-- What the walks of a step need. -/
structure OkQ (M : Seat) : Prop where
  okA : OkM M
  ok : OkO M
  okP : OkP M
  okN : OkNx M
theorem erN_some (e : Int) : erO (some e) = .ifc 74 (.int .i64 e) := rfl
theorem erN_none : erO none = .nili := rfl
theorem pfl (pc : BitVec 64) (h : ¬ 8192#64 ≤ pc) : pc.toNat < 8192 := by rw [BitVec.le_def] at h; simpa using h

theorem runs_nxHl {M : Seat} (ok : OkQ M) (I : MemI M) (g : Nat → BitVec 64) (pc : BitVec 64) (xt : BitVec 64) (s : I.σ) :
    Runs M 241 [hdV g pc true xt, .ifc I.t (.ptr 0 [])] (I.E0 s) I.k0 (fun r H' k' => r = tup2 (hdV g pc true xt) .nili ∧ H' = I.E0 s ∧ k' = I.k0 + 1) := by
  refine runs_fr ok.okN.k241 rfl fun x hx => ?_
  refine SemK.up (N' := 32) (by have := I.hk; omega) ?_
  refine ex_sound 2000 _ _ _ _ ?_; (simp (maxSteps := 4000000) only [f241, c241, hdV, I.hdel0, LZ, seval, reduceCtorEq, forall_const])
  exact I.ret0 [_, _] (n := 100) hx (by rfl) ⟨rfl, rfl, rfl⟩ (by (simp only [LV, hdV, mcons, List.nil_append, LZ, seval, reduceCtorEq, forall_const])) (by (simp only [LV, hdV, mcons, List.nil_append, LZ, seval, reduceCtorEq, forall_const, LY, seval, reduceCtorEq, implies_true])) (by decide)

theorem runs_nxOut {M : Seat} (ok : OkQ M) (I : MemI M) (g : Nat → BitVec 64) (pc : BitVec 64) (xt : BitVec 64) (s : I.σ) (hpc : 8192#64 ≤ pc) :
    Runs M 241 [hdV g pc false xt, .ifc I.t (.ptr 0 [])] (I.E0 s) I.k0 (fun r H' k' => r = tup2 (hdV g pc true wrongW) .nili ∧ H' = I.E0 s ∧ k' = I.k0 + 1) := by
  refine runs_fr ok.okN.k241 rfl fun x hx => ?_
  refine SemK.up (N' := 32) (by have := I.hk; omega) ?_
  refine ex_sound 2000 _ _ _ _ ?_; (simp (maxSteps := 4000000) only [f241, c241, hdV, I.hdel0, hpc, LZ, seval, reduceCtorEq, forall_const])
  refine call_pA (runs_stopped ok.okN g pc false xt wrongW) (by ((try simp only [hdV, LY, seval, reduceCtorEq, implies_true]); first | done | exact True.intro | rfl)) (by first | rfl | (simp only [LN, LP, V.ren, tup2, tup3])) (by simp only [hdV, LX, implies_true]) ?_
  (simp (maxSteps := 4000000) only [hdV, LZ, seval, reduceCtorEq, forall_const])
  exact I.ret0 [_, _] (n := 100) hx (by rfl) ⟨rfl, rfl, rfl⟩ (by (simp only [LV, hdV, mcons, List.nil_append, LZ, seval, reduceCtorEq, forall_const])) (by (simp only [LV, hdV, mcons, List.nil_append, LZ, seval, reduceCtorEq, forall_const, LY, seval, reduceCtorEq, implies_true])) (by decide)

theorem runs_nxErr {M : Seat} (ok : OkQ M) (I : MemI M) (g : Nat → BitVec 64) (pc : BitVec 64) (xt : BitVec 64) (s : I.σ) (hz : I.Z s) (hpc : ¬ 8192#64 ≤ pc) (e : Int) (he : (I.mm.rd s pc).2.1 = some e) :
    Runs M 241 [hdV g pc false xt, .ifc I.t (.ptr 0 [])] (I.E0 s) I.k0 (fun r H' k' => r = tup2 (hdV g pc false xt) (erO (some e)) ∧ H' = I.E (I.mm.rd s pc).2.2 I.k0 ∧ k' = I.k0 + 1) := by
  refine runs_fr ok.okN.k241 rfl fun x hx => ?_
  refine SemK.up (N' := 32) (by have := I.hk; omega) ?_
  refine ex_sound 2000 _ _ _ _ ?_; (simp (maxSteps := 4000000) only [f241, c241, hdV, I.hdel0, hpc, LZ, seval, reduceCtorEq, forall_const])
  refine I.dynR0 [_, _] hz hpc (by rfl) ?_
  (simp (maxSteps := 4000000) only [he, erN_some, tup2, List.nil_append, LZ, seval, reduceCtorEq, forall_const])
  exact I.ret [_, _] (q := I.k0) ⟨Nat.le_refl _, by have := I.hk; omega⟩ hx (by decide) (by rfl) ⟨rfl, rfl, rfl⟩ (by (simp only [LV, hdV, mcons, List.nil_append, LZ, seval, reduceCtorEq, forall_const])) (by (simp only [LV, hdV, mcons, List.nil_append, erN_some, LZ, seval, reduceCtorEq, forall_const, LY, seval, reduceCtorEq, implies_true]))

theorem runs_nxNo {M : Seat} (ok : OkQ M) (I : MemI M) (g : Nat → BitVec 64) (pc : BitVec 64) (xt : BitVec 64) (s : I.σ) (hz : I.Z s) (hpc : ¬ 8192#64 ≤ pc) (w : BitVec 64) (hw : (I.mm.rd s pc).1 = w) (he : (I.mm.rd s pc).2.1 = none) (s1 : I.σ) (hs : (I.mm.rd s pc).2.2 = s1) (h : ¬ (pOp w ≤ 35 ∧ w >>> 32 &&& 255#64 = 0#64)) :
    Runs M 241 [hdV g pc false xt, .ifc I.t (.ptr 0 [])] (I.E0 s) I.k0 (fun r H' k' => r = tup2 (hdV g pc true wrongW) (erO (none)) ∧ H' = I.E (s1) I.k0 ∧ k' = I.k0 + 1) := by
  refine runs_fr ok.okN.k241 rfl fun x hx => ?_
  refine SemK.up (N' := 32) (by have := I.hk; omega) ?_
  have a1 := pF_lt w 52
  have a2 := pF_lt w 48
  have a3 := pF_lt w 44
  have a4 := pF_lt w 40
  have hL : I.len s1 ≤ 100 := by have := I.lr s pc; rw [hs, I.lz s hz] at this; omega
  refine ex_sound 2000 _ _ _ _ ?_; (simp (maxSteps := 4000000) only [f241, c241, hdV, I.hdel0, hpc, LZ, seval, reduceCtorEq, forall_const])
  refine I.dynR0 [_, _] hz hpc (by rfl) ?_
  rw [hw, he, hs]
  (simp (maxSteps := 4000000) only [erN_none, tup2, List.nil_append, LZ, seval, reduceCtorEq, forall_const])
  refine call_pZ (runs_PartsNo ok.ok.toOkV w h) ?_
  (simp (maxSteps := 4000000) only [LZ, seval, reduceCtorEq, forall_const])
  repeat (refine And.intro (by first | omega | exact True.intro | rfl) ?_)
  refine call_pA (runs_stopped ok.okN g pc false xt wrongW) (by ((try simp only [hdV, LY, seval, reduceCtorEq, implies_true]); first | done | exact True.intro | rfl)) (by first | rfl | (simp only [LN, LP, V.ren, tup2, tup3])) (by simp only [hdV, LX, implies_true]) ?_
  (simp (maxSteps := 4000000) only [hdV, LZ, seval, reduceCtorEq, forall_const])

  exact I.ret [_, _] (q := I.k0) ⟨Nat.le_refl _, by have := I.hk; omega⟩ hx (by decide) (by rfl) ⟨rfl, rfl, rfl⟩ (by (simp only [LV, hdV, mcons, List.nil_append, LZ, seval, reduceCtorEq, forall_const])) (by (simp only [LV, hdV, Hd.v, Hd.stop, upd, ite_W, mcons, List.nil_append, erN_none, erN_some, LZ, seval, reduceCtorEq, forall_const, LY, seval, reduceCtorEq, implies_true]))

theorem runs_nxHalt {M : Seat} (ok : OkQ M) (I : MemI M) (g : Nat → BitVec 64) (pc : BitVec 64) (xt : BitVec 64) (s : I.σ) (hz : I.Z s) (hpc : ¬ 8192#64 ≤ pc) (w : BitVec 64) (hw : (I.mm.rd s pc).1 = w) (he : (I.mm.rd s pc).2.1 = none) (s1 : I.σ) (hs : (I.mm.rd s pc).2.2 = s1) (hop : pOp w = 0) (h2 : w >>> 32 &&& 255#64 = 0#64) :
    Runs M 241 [hdV g pc false xt, .ifc I.t (.ptr 0 [])] (I.E0 s) I.k0 (fun r H' k' => r = tup2 (hdV g pc true (g (pF w 48))) (erO (none)) ∧ H' = I.E (s1) I.k0 ∧ k' = I.k0 + 1) := by
  refine runs_fr ok.okN.k241 rfl fun x hx => ?_
  refine SemK.up (N' := 32) (by have := I.hk; omega) ?_
  have a1 := pF_lt w 52
  have a2 := pF_lt w 48
  have a3 := pF_lt w 44
  have a4 := pF_lt w 40
  have hL : I.len s1 ≤ 100 := by have := I.lr s pc; rw [hs, I.lz s hz] at this; omega
  refine ex_sound 2000 _ _ _ _ ?_; (simp (maxSteps := 4000000) only [f241, c241, hdV, I.hdel0, hpc, LZ, seval, reduceCtorEq, forall_const])
  refine I.dynR0 [_, _] hz hpc (by rfl) ?_
  rw [hw, he, hs]
  (simp (maxSteps := 4000000) only [erN_none, tup2, List.nil_append, LZ, seval, reduceCtorEq, forall_const])
  refine call_pA (runs_Parts ok.ok.toOkV w (by omega) h2) (by ((try simp only [partsR, LY, seval, reduceCtorEq, implies_true]); first | done | exact True.intro | rfl)) (by first | rfl | (simp only [LN, LP, V.ren, tup2, tup3])) (by simp only [partsR, LX, implies_true]) ?_
  (simp (maxSteps := 4000000) only [partsR, hop, I.idsE, LZ, seval, reduceCtorEq, forall_const])
  repeat (refine And.intro (by first | omega | exact True.intro | rfl) ?_)
  refine opd_pA (runs_stopped ok.okN g pc false xt (g (pF w 48))) (by ((try simp only [hdV, LY, seval, reduceCtorEq, implies_true]); first | done | exact True.intro | rfl)) (by first | rfl | (simp only [LN, LP, V.ren, tup2, tup3])) (by simp only [hdV, LX, implies_true]) ?_
  (simp (maxSteps := 4000000) only [hdV, I.idsE, LZ, seval, reduceCtorEq, forall_const])

  exact I.ret [_, _] (q := I.k0) ⟨Nat.le_refl _, by have := I.hk; omega⟩ hx (by decide) (by rfl) ⟨rfl, rfl, rfl⟩ (by (simp only [LV, hdV, mcons, List.nil_append, LZ, seval, reduceCtorEq, forall_const])) (by (simp only [LV, hdV, Hd.v, Hd.stop, upd, ite_W, mcons, List.nil_append, erN_none, erN_some, LZ, seval, reduceCtorEq, forall_const, LY, seval, reduceCtorEq, implies_true]))

theorem runs_nxLi {M : Seat} (ok : OkQ M) (I : MemI M) (g : Nat → BitVec 64) (pc : BitVec 64) (xt : BitVec 64) (s : I.σ) (hz : I.Z s) (hpc : ¬ 8192#64 ≤ pc) (w : BitVec 64) (hw : (I.mm.rd s pc).1 = w) (he : (I.mm.rd s pc).2.1 = none) (s1 : I.σ) (hs : (I.mm.rd s pc).2.2 = s1) (hop : pOp w = 26) (h2 : w >>> 32 &&& 255#64 = 0#64) :
    Runs M 241 [hdV g pc false xt, .ifc I.t (.ptr 0 [])] (I.E0 s) I.k0 (fun r H' k' => r = tup2 (hdV (upd g (pF w 52) (BitVec.ofInt 64 (pN w))) (pc + 1#64) false xt) (erO (none)) ∧ H' = I.E (s1) I.k0 ∧ k' = I.k0 + 1) := by
  refine runs_fr ok.okN.k241 rfl fun x hx => ?_
  refine SemK.up (N' := 32) (by have := I.hk; omega) ?_
  have a1 := pF_lt w 52
  have a2 := pF_lt w 48
  have a3 := pF_lt w 44
  have a4 := pF_lt w 40
  have hL : I.len s1 ≤ 100 := by have := I.lr s pc; rw [hs, I.lz s hz] at this; omega
  refine ex_sound 2000 _ _ _ _ ?_; (simp (maxSteps := 4000000) only [f241, c241, hdV, I.hdel0, hpc, LZ, seval, reduceCtorEq, forall_const])
  refine I.dynR0 [_, _] hz hpc (by rfl) ?_
  rw [hw, he, hs]
  (simp (maxSteps := 4000000) only [erN_none, tup2, List.nil_append, LZ, seval, reduceCtorEq, forall_const])
  refine call_pA (runs_Parts ok.ok.toOkV w (by omega) h2) (by ((try simp only [partsR, LY, seval, reduceCtorEq, implies_true]); first | done | exact True.intro | rfl)) (by first | rfl | (simp only [LN, LP, V.ren, tup2, tup3])) (by simp only [partsR, LX, implies_true]) ?_
  (simp (maxSteps := 4000000) only [partsR, hop, I.idsE, LZ, seval, reduceCtorEq, forall_const])
  repeat (refine And.intro (by first | omega | exact True.intro | rfl) ?_)

  exact I.ret [_, _] (q := I.k0) ⟨Nat.le_refl _, by have := I.hk; omega⟩ hx (by decide) (by rfl) ⟨rfl, rfl, rfl⟩ (by (simp only [LV, hdV, mcons, List.nil_append, LZ, seval, reduceCtorEq, forall_const])) (by (simp only [LV, hdV, Hd.v, Hd.stop, upd, ite_W, mcons, List.nil_append, erN_none, erN_some, LZ, seval, reduceCtorEq, forall_const, LY, seval, reduceCtorEq, implies_true]))

theorem runs_nxApply {M : Seat} (ok : OkQ M) (I : MemI M) (g : Nat → BitVec 64) (pc : BitVec 64) (xt : BitVec 64) (s : I.σ) (hz : I.Z s) (hpc : ¬ 8192#64 ≤ pc) (w : BitVec 64) (hw : (I.mm.rd s pc).1 = w) (he : (I.mm.rd s pc).2.1 = none) (s1 : I.σ) (hs : (I.mm.rd s pc).2.2 = s1) (op : Nat) (h1 : 1 ≤ op) (h25 : op ≤ 25) (hop : pOp w = op) (h2 : w >>> 32 &&& 255#64 = 0#64) :
    Runs M 241 [hdV g pc false xt, .ifc I.t (.ptr 0 [])] (I.E0 s) I.k0 (fun r H' k' => r = tup2 (hdV (upd g (pF w 52) (apW op (g (pF w 48)) (g (pF w 44)) (g (pF w 40)))) (pc + 1#64) false xt) (erO (none)) ∧ H' = I.E (s1) I.k0 ∧ k' = I.k0 + 1) := by
  refine runs_fr ok.okN.k241 rfl fun x hx => ?_
  refine SemK.up (N' := 32) (by have := I.hk; omega) ?_
  have a1 := pF_lt w 52
  have a2 := pF_lt w 48
  have a3 := pF_lt w 44
  have a4 := pF_lt w 40
  have hL : I.len s1 ≤ 100 := by have := I.lr s pc; rw [hs, I.lz s hz] at this; omega
  have d1 : ((op : Int) = 0) = False := eq_false (by omega)
  have d2 : ((op : Int) < 26) = True := eq_true (by omega)
  refine ex_sound 2000 _ _ _ _ ?_; (simp (maxSteps := 4000000) only [f241, c241, hdV, I.hdel0, hpc, LZ, seval, reduceCtorEq, forall_const])
  refine I.dynR0 [_, _] hz hpc (by rfl) ?_
  rw [hw, he, hs]
  (simp (maxSteps := 4000000) only [erN_none, tup2, List.nil_append, LZ, seval, reduceCtorEq, forall_const])
  refine call_pA (runs_Parts ok.ok.toOkV w (by omega) h2) (by ((try simp only [partsR, LY, seval, reduceCtorEq, implies_true]); first | done | exact True.intro | rfl)) (by first | rfl | (simp only [LN, LP, V.ren, tup2, tup3])) (by simp only [partsR, LX, implies_true]) ?_
  (simp (maxSteps := 4000000) only [partsR, hop, d1, d2, I.idsE, LZ, seval, reduceCtorEq, forall_const])
  repeat (refine And.intro (by first | omega | exact True.intro | rfl) ?_)
  refine opd_pZ (runs_Apply ok.okP op h1 h25 (g (pF w 48)) (g (pF w 44)) (g (pF w 40))) ?_
  (simp (maxSteps := 4000000) only [tup2, I.idsE, LZ, seval, reduceCtorEq, forall_const])
  repeat (refine And.intro (by first | omega | exact True.intro | rfl) ?_)

  exact I.ret [_, _] (q := I.k0) ⟨Nat.le_refl _, by have := I.hk; omega⟩ hx (by decide) (by rfl) ⟨rfl, rfl, rfl⟩ (by (simp only [LV, hdV, mcons, List.nil_append, LZ, seval, reduceCtorEq, forall_const])) (by (simp only [LV, hdV, Hd.v, Hd.stop, upd, ite_W, mcons, List.nil_append, erN_none, erN_some, LZ, seval, reduceCtorEq, forall_const, LY, seval, reduceCtorEq, implies_true]))

theorem runs_nxLdW {M : Seat} (ok : OkQ M) (I : MemI M) (g : Nat → BitVec 64) (pc : BitVec 64) (xt : BitVec 64) (s : I.σ) (hz : I.Z s) (hpc : ¬ 8192#64 ≤ pc) (w : BitVec 64) (hw : (I.mm.rd s pc).1 = w) (he : (I.mm.rd s pc).2.1 = none) (s1 : I.σ) (hs : (I.mm.rd s pc).2.2 = s1) (hop : pOp w = 27) (h2 : w >>> 32 &&& 255#64 = 0#64) (a : BitVec 64) (ha : g (pF w 48) + BitVec.ofInt 64 (pN w) = a) (hlt : 8192#64 ≤ a) :
    Runs M 241 [hdV g pc false xt, .ifc I.t (.ptr 0 [])] (I.E0 s) I.k0 (fun r H' k' => r = tup2 (hdV g pc true wrongW) (erO (none)) ∧ H' = I.E (s1) I.k0 ∧ k' = I.k0 + 1) := by
  refine runs_fr ok.okN.k241 rfl fun x hx => ?_
  refine SemK.up (N' := 32) (by have := I.hk; omega) ?_
  have a1 := pF_lt w 52
  have a2 := pF_lt w 48
  have a3 := pF_lt w 44
  have a4 := pF_lt w 40
  have hL : I.len s1 ≤ 100 := by have := I.lr s pc; rw [hs, I.lz s hz] at this; omega
  refine ex_sound 2000 _ _ _ _ ?_; (simp (maxSteps := 4000000) only [f241, c241, hdV, I.hdel0, hpc, LZ, seval, reduceCtorEq, forall_const])
  refine I.dynR0 [_, _] hz hpc (by rfl) ?_
  rw [hw, he, hs]
  (simp (maxSteps := 4000000) only [erN_none, tup2, List.nil_append, LZ, seval, reduceCtorEq, forall_const])
  refine call_pA (runs_Parts ok.ok.toOkV w (by omega) h2) (by ((try simp only [partsR, LY, seval, reduceCtorEq, implies_true]); first | done | exact True.intro | rfl)) (by first | rfl | (simp only [LN, LP, V.ren, tup2, tup3])) (by simp only [partsR, LX, implies_true]) ?_
  (simp (maxSteps := 4000000) only [partsR, hop, ha, hlt, I.idsE, LZ, seval, reduceCtorEq, forall_const])
  repeat (refine And.intro (by first | omega | exact True.intro | rfl) ?_)
  refine call_pA (runs_stopped ok.okN g pc false xt wrongW) (by ((try simp only [hdV, LY, seval, reduceCtorEq, implies_true]); first | done | exact True.intro | rfl)) (by first | rfl | (simp only [LN, LP, V.ren, tup2, tup3])) (by simp only [hdV, LX, implies_true]) ?_
  (simp (maxSteps := 4000000) only [hdV, LZ, seval, reduceCtorEq, forall_const])

  exact I.ret [_, _] (q := I.k0) ⟨Nat.le_refl _, by have := I.hk; omega⟩ hx (by decide) (by rfl) ⟨rfl, rfl, rfl⟩ (by (simp only [LV, hdV, mcons, List.nil_append, LZ, seval, reduceCtorEq, forall_const])) (by (simp only [LV, hdV, Hd.v, Hd.stop, upd, ite_W, mcons, List.nil_append, erN_none, erN_some, LZ, seval, reduceCtorEq, forall_const, LY, seval, reduceCtorEq, implies_true]))

theorem runs_nxStW {M : Seat} (ok : OkQ M) (I : MemI M) (g : Nat → BitVec 64) (pc : BitVec 64) (xt : BitVec 64) (s : I.σ) (hz : I.Z s) (hpc : ¬ 8192#64 ≤ pc) (w : BitVec 64) (hw : (I.mm.rd s pc).1 = w) (he : (I.mm.rd s pc).2.1 = none) (s1 : I.σ) (hs : (I.mm.rd s pc).2.2 = s1) (hop : pOp w = 28) (h2 : w >>> 32 &&& 255#64 = 0#64) (a : BitVec 64) (ha : g (pF w 48) + BitVec.ofInt 64 (pN w) = a) (hlt : 8192#64 ≤ a) :
    Runs M 241 [hdV g pc false xt, .ifc I.t (.ptr 0 [])] (I.E0 s) I.k0 (fun r H' k' => r = tup2 (hdV g pc true wrongW) (erO (none)) ∧ H' = I.E (s1) I.k0 ∧ k' = I.k0 + 1) := by
  refine runs_fr ok.okN.k241 rfl fun x hx => ?_
  refine SemK.up (N' := 32) (by have := I.hk; omega) ?_
  have a1 := pF_lt w 52
  have a2 := pF_lt w 48
  have a3 := pF_lt w 44
  have a4 := pF_lt w 40
  have hL : I.len s1 ≤ 100 := by have := I.lr s pc; rw [hs, I.lz s hz] at this; omega
  refine ex_sound 2000 _ _ _ _ ?_; (simp (maxSteps := 4000000) only [f241, c241, hdV, I.hdel0, hpc, LZ, seval, reduceCtorEq, forall_const])
  refine I.dynR0 [_, _] hz hpc (by rfl) ?_
  rw [hw, he, hs]
  (simp (maxSteps := 4000000) only [erN_none, tup2, List.nil_append, LZ, seval, reduceCtorEq, forall_const])
  refine call_pA (runs_Parts ok.ok.toOkV w (by omega) h2) (by ((try simp only [partsR, LY, seval, reduceCtorEq, implies_true]); first | done | exact True.intro | rfl)) (by first | rfl | (simp only [LN, LP, V.ren, tup2, tup3])) (by simp only [partsR, LX, implies_true]) ?_
  (simp (maxSteps := 4000000) only [partsR, hop, ha, hlt, I.idsE, LZ, seval, reduceCtorEq, forall_const])
  repeat (refine And.intro (by first | omega | exact True.intro | rfl) ?_)
  refine call_pA (runs_stopped ok.okN g pc false xt wrongW) (by ((try simp only [hdV, LY, seval, reduceCtorEq, implies_true]); first | done | exact True.intro | rfl)) (by first | rfl | (simp only [LN, LP, V.ren, tup2, tup3])) (by simp only [hdV, LX, implies_true]) ?_
  (simp (maxSteps := 4000000) only [hdV, LZ, seval, reduceCtorEq, forall_const])

  exact I.ret [_, _] (q := I.k0) ⟨Nat.le_refl _, by have := I.hk; omega⟩ hx (by decide) (by rfl) ⟨rfl, rfl, rfl⟩ (by (simp only [LV, hdV, mcons, List.nil_append, LZ, seval, reduceCtorEq, forall_const])) (by (simp only [LV, hdV, Hd.v, Hd.stop, upd, ite_W, mcons, List.nil_append, erN_none, erN_some, LZ, seval, reduceCtorEq, forall_const, LY, seval, reduceCtorEq, implies_true]))

theorem runs_nxLd {M : Seat} (ok : OkQ M) (I : MemI M) (g : Nat → BitVec 64) (pc : BitVec 64) (xt : BitVec 64) (s : I.σ) (hz : I.Z s) (hpc : ¬ 8192#64 ≤ pc) (w : BitVec 64) (hw : (I.mm.rd s pc).1 = w) (he : (I.mm.rd s pc).2.1 = none) (s1 : I.σ) (hs : (I.mm.rd s pc).2.2 = s1) (hop : pOp w = 27) (h2 : w >>> 32 &&& 255#64 = 0#64) (a : BitVec 64) (ha : g (pF w 48) + BitVec.ofInt 64 (pN w) = a) (hlt : ¬ 8192#64 ≤ a) (he2 : (I.mm.rd s1 a).2.1 = none) :
    Runs M 241 [hdV g pc false xt, .ifc I.t (.ptr 0 [])] (I.E0 s) I.k0 (fun r H' k' => r = tup2 (hdV (upd g (pF w 52) (I.mm.rd s1 a).1) (pc + 1#64) false xt) (erO (none)) ∧ H' = I.E ((I.mm.rd s1 a).2.2) I.k0 ∧ k' = I.k0 + 1) := by
  refine runs_fr ok.okN.k241 rfl fun x hx => ?_
  refine SemK.up (N' := 32) (by have := I.hk; omega) ?_
  have a1 := pF_lt w 52
  have a2 := pF_lt w 48
  have a3 := pF_lt w 44
  have a4 := pF_lt w 40
  have hL : I.len s1 ≤ 100 := by have := I.lr s pc; rw [hs, I.lz s hz] at this; omega
  refine ex_sound 2000 _ _ _ _ ?_; (simp (maxSteps := 4000000) only [f241, c241, hdV, I.hdel0, hpc, LZ, seval, reduceCtorEq, forall_const])
  refine I.dynR0 [_, _] hz hpc (by rfl) ?_
  rw [hw, he, hs]
  (simp (maxSteps := 4000000) only [erN_none, tup2, List.nil_append, LZ, seval, reduceCtorEq, forall_const])
  refine call_pA (runs_Parts ok.ok.toOkV w (by omega) h2) (by ((try simp only [partsR, LY, seval, reduceCtorEq, implies_true]); first | done | exact True.intro | rfl)) (by first | rfl | (simp only [LN, LP, V.ren, tup2, tup3])) (by simp only [partsR, LX, implies_true]) ?_
  (simp (maxSteps := 4000000) only [partsR, hop, ha, hlt, I.idsE, LZ, seval, reduceCtorEq, forall_const])
  repeat (refine And.intro (by first | omega | exact True.intro | rfl) ?_)
  refine I.opyR [_, _] hL hlt (by decide) (by rfl) ?_
  (simp (maxSteps := 4000000) only [he2, erN_none, erN_some, tup2, List.nil_append, I.idsE, LZ, seval, reduceCtorEq, forall_const])
  repeat (refine And.intro (by first | omega | exact True.intro | rfl) ?_)

  exact I.ret [_, _] (q := I.k0) ⟨Nat.le_refl _, by have := I.hk; omega⟩ hx (by decide) (by rfl) ⟨rfl, rfl, rfl⟩ (by (simp only [LV, hdV, mcons, List.nil_append, LZ, seval, reduceCtorEq, forall_const])) (by (simp only [LV, hdV, Hd.v, Hd.stop, upd, ite_W, mcons, List.nil_append, erN_none, erN_some, LZ, seval, reduceCtorEq, forall_const, LY, seval, reduceCtorEq, implies_true]))

theorem runs_nxLdE {M : Seat} (ok : OkQ M) (I : MemI M) (g : Nat → BitVec 64) (pc : BitVec 64) (xt : BitVec 64) (s : I.σ) (hz : I.Z s) (hpc : ¬ 8192#64 ≤ pc) (w : BitVec 64) (hw : (I.mm.rd s pc).1 = w) (he : (I.mm.rd s pc).2.1 = none) (s1 : I.σ) (hs : (I.mm.rd s pc).2.2 = s1) (hop : pOp w = 27) (h2 : w >>> 32 &&& 255#64 = 0#64) (a : BitVec 64) (ha : g (pF w 48) + BitVec.ofInt 64 (pN w) = a) (hlt : ¬ 8192#64 ≤ a) (e : Int) (he2 : (I.mm.rd s1 a).2.1 = some e) :
    Runs M 241 [hdV g pc false xt, .ifc I.t (.ptr 0 [])] (I.E0 s) I.k0 (fun r H' k' => r = tup2 (hdV (upd g (pF w 52) (I.mm.rd s1 a).1) (pc + 1#64) false xt) (erO (some e)) ∧ H' = I.E ((I.mm.rd s1 a).2.2) I.k0 ∧ k' = I.k0 + 1) := by
  refine runs_fr ok.okN.k241 rfl fun x hx => ?_
  refine SemK.up (N' := 32) (by have := I.hk; omega) ?_
  have a1 := pF_lt w 52
  have a2 := pF_lt w 48
  have a3 := pF_lt w 44
  have a4 := pF_lt w 40
  have hL : I.len s1 ≤ 100 := by have := I.lr s pc; rw [hs, I.lz s hz] at this; omega
  refine ex_sound 2000 _ _ _ _ ?_; (simp (maxSteps := 4000000) only [f241, c241, hdV, I.hdel0, hpc, LZ, seval, reduceCtorEq, forall_const])
  refine I.dynR0 [_, _] hz hpc (by rfl) ?_
  rw [hw, he, hs]
  (simp (maxSteps := 4000000) only [erN_none, tup2, List.nil_append, LZ, seval, reduceCtorEq, forall_const])
  refine call_pA (runs_Parts ok.ok.toOkV w (by omega) h2) (by ((try simp only [partsR, LY, seval, reduceCtorEq, implies_true]); first | done | exact True.intro | rfl)) (by first | rfl | (simp only [LN, LP, V.ren, tup2, tup3])) (by simp only [partsR, LX, implies_true]) ?_
  (simp (maxSteps := 4000000) only [partsR, hop, ha, hlt, I.idsE, LZ, seval, reduceCtorEq, forall_const])
  repeat (refine And.intro (by first | omega | exact True.intro | rfl) ?_)
  refine I.opyR [_, _] hL hlt (by decide) (by rfl) ?_
  (simp (maxSteps := 4000000) only [he2, erN_none, erN_some, tup2, List.nil_append, I.idsE, LZ, seval, reduceCtorEq, forall_const])
  repeat (refine And.intro (by first | omega | exact True.intro | rfl) ?_)

  exact I.ret [_, _] (q := I.k0) ⟨Nat.le_refl _, by have := I.hk; omega⟩ hx (by decide) (by rfl) ⟨rfl, rfl, rfl⟩ (by (simp only [LV, hdV, mcons, List.nil_append, LZ, seval, reduceCtorEq, forall_const])) (by (simp only [LV, hdV, Hd.v, Hd.stop, upd, ite_W, mcons, List.nil_append, erN_none, erN_some, LZ, seval, reduceCtorEq, forall_const, LY, seval, reduceCtorEq, implies_true]))

theorem runs_nxSt {M : Seat} (ok : OkQ M) (I : MemI M) (g : Nat → BitVec 64) (pc : BitVec 64) (xt : BitVec 64) (s : I.σ) (hz : I.Z s) (hpc : ¬ 8192#64 ≤ pc) (w : BitVec 64) (hw : (I.mm.rd s pc).1 = w) (he : (I.mm.rd s pc).2.1 = none) (s1 : I.σ) (hs : (I.mm.rd s pc).2.2 = s1) (hop : pOp w = 28) (h2 : w >>> 32 &&& 255#64 = 0#64) (a : BitVec 64) (ha : g (pF w 48) + BitVec.ofInt 64 (pN w) = a) (hlt : ¬ 8192#64 ≤ a) (he2 : (I.mm.wr s1 a (g (pF w 44))).1 = none) :
    Runs M 241 [hdV g pc false xt, .ifc I.t (.ptr 0 [])] (I.E0 s) I.k0 (fun r H' k' => r = tup2 (hdV g (pc + 1#64) false xt) (erO (none)) ∧ H' = I.E ((I.mm.wr s1 a (g (pF w 44))).2) I.k0 ∧ k' = I.k0 + 1) := by
  refine runs_fr ok.okN.k241 rfl fun x hx => ?_
  refine SemK.up (N' := 32) (by have := I.hk; omega) ?_
  have a1 := pF_lt w 52
  have a2 := pF_lt w 48
  have a3 := pF_lt w 44
  have a4 := pF_lt w 40
  have hL : I.len s1 ≤ 100 := by have := I.lr s pc; rw [hs, I.lz s hz] at this; omega
  refine ex_sound 2000 _ _ _ _ ?_; (simp (maxSteps := 4000000) only [f241, c241, hdV, I.hdel0, hpc, LZ, seval, reduceCtorEq, forall_const])
  refine I.dynR0 [_, _] hz hpc (by rfl) ?_
  rw [hw, he, hs]
  (simp (maxSteps := 4000000) only [erN_none, tup2, List.nil_append, LZ, seval, reduceCtorEq, forall_const])
  refine call_pA (runs_Parts ok.ok.toOkV w (by omega) h2) (by ((try simp only [partsR, LY, seval, reduceCtorEq, implies_true]); first | done | exact True.intro | rfl)) (by first | rfl | (simp only [LN, LP, V.ren, tup2, tup3])) (by simp only [partsR, LX, implies_true]) ?_
  (simp (maxSteps := 4000000) only [partsR, hop, ha, hlt, I.nil_in, I.idsE, LZ, seval, reduceCtorEq, forall_const])
  repeat (refine And.intro (by first | omega | exact True.intro | rfl) ?_)
  refine I.opyW [_, _] hL hlt (by decide) (by rfl) ?_
  (simp (maxSteps := 4000000) only [he2, erN_none, erN_some, tup2, List.nil_append, I.idsE, LZ, seval, reduceCtorEq, forall_const])
  repeat (refine And.intro (by first | omega | exact True.intro | rfl) ?_)

  exact I.ret [_, _] (q := I.k0) ⟨Nat.le_refl _, by have := I.hk; omega⟩ hx (by decide) (by rfl) ⟨rfl, rfl, rfl⟩ (by (simp only [LV, hdV, mcons, List.nil_append, LZ, seval, reduceCtorEq, forall_const])) (by (simp only [LV, hdV, Hd.v, Hd.stop, upd, ite_W, mcons, List.nil_append, erN_none, erN_some, LZ, seval, reduceCtorEq, forall_const, LY, seval, reduceCtorEq, implies_true]))

theorem runs_nxStE {M : Seat} (ok : OkQ M) (I : MemI M) (g : Nat → BitVec 64) (pc : BitVec 64) (xt : BitVec 64) (s : I.σ) (hz : I.Z s) (hpc : ¬ 8192#64 ≤ pc) (w : BitVec 64) (hw : (I.mm.rd s pc).1 = w) (he : (I.mm.rd s pc).2.1 = none) (s1 : I.σ) (hs : (I.mm.rd s pc).2.2 = s1) (hop : pOp w = 28) (h2 : w >>> 32 &&& 255#64 = 0#64) (a : BitVec 64) (ha : g (pF w 48) + BitVec.ofInt 64 (pN w) = a) (hlt : ¬ 8192#64 ≤ a) (e : Int) (he2 : (I.mm.wr s1 a (g (pF w 44))).1 = some e) :
    Runs M 241 [hdV g pc false xt, .ifc I.t (.ptr 0 [])] (I.E0 s) I.k0 (fun r H' k' => r = tup2 (hdV g (pc + 1#64) false xt) (erO (some e)) ∧ H' = I.E ((I.mm.wr s1 a (g (pF w 44))).2) I.k0 ∧ k' = I.k0 + 1) := by
  refine runs_fr ok.okN.k241 rfl fun x hx => ?_
  refine SemK.up (N' := 32) (by have := I.hk; omega) ?_
  have a1 := pF_lt w 52
  have a2 := pF_lt w 48
  have a3 := pF_lt w 44
  have a4 := pF_lt w 40
  have hL : I.len s1 ≤ 100 := by have := I.lr s pc; rw [hs, I.lz s hz] at this; omega
  refine ex_sound 2000 _ _ _ _ ?_; (simp (maxSteps := 4000000) only [f241, c241, hdV, I.hdel0, hpc, LZ, seval, reduceCtorEq, forall_const])
  refine I.dynR0 [_, _] hz hpc (by rfl) ?_
  rw [hw, he, hs]
  (simp (maxSteps := 4000000) only [erN_none, tup2, List.nil_append, LZ, seval, reduceCtorEq, forall_const])
  refine call_pA (runs_Parts ok.ok.toOkV w (by omega) h2) (by ((try simp only [partsR, LY, seval, reduceCtorEq, implies_true]); first | done | exact True.intro | rfl)) (by first | rfl | (simp only [LN, LP, V.ren, tup2, tup3])) (by simp only [partsR, LX, implies_true]) ?_
  (simp (maxSteps := 4000000) only [partsR, hop, ha, hlt, I.nil_in, I.idsE, LZ, seval, reduceCtorEq, forall_const])
  repeat (refine And.intro (by first | omega | exact True.intro | rfl) ?_)
  refine I.opyW [_, _] hL hlt (by decide) (by rfl) ?_
  (simp (maxSteps := 4000000) only [he2, erN_none, erN_some, tup2, List.nil_append, I.idsE, LZ, seval, reduceCtorEq, forall_const])
  repeat (refine And.intro (by first | omega | exact True.intro | rfl) ?_)

  exact I.ret [_, _] (q := I.k0) ⟨Nat.le_refl _, by have := I.hk; omega⟩ hx (by decide) (by rfl) ⟨rfl, rfl, rfl⟩ (by (simp only [LV, hdV, mcons, List.nil_append, LZ, seval, reduceCtorEq, forall_const])) (by (simp only [LV, hdV, Hd.v, Hd.stop, upd, ite_W, mcons, List.nil_append, erN_none, erN_some, LZ, seval, reduceCtorEq, forall_const, LY, seval, reduceCtorEq, implies_true]))

theorem runs_nxJump {M : Seat} (ok : OkQ M) (I : MemI M) (g : Nat → BitVec 64) (pc : BitVec 64) (xt : BitVec 64) (s : I.σ) (hz : I.Z s) (hpc : ¬ 8192#64 ≤ pc) (w : BitVec 64) (hw : (I.mm.rd s pc).1 = w) (he : (I.mm.rd s pc).2.1 = none) (s1 : I.σ) (hs : (I.mm.rd s pc).2.2 = s1) (op : Nat) (ho : op = 29 ∨ op = 30 ∨ op = 31 ∨ op = 32 ∨ op = 33) (hop : pOp w = op) (h2 : w >>> 32 &&& 255#64 = 0#64) :
    Runs M 241 [hdV g pc false xt, .ifc I.t (.ptr 0 [])] (I.E0 s) I.k0 (fun r H' k' => r = tup2 ((jmpH op ⟨g, pc, false, xt⟩ (pF w 52) (pF w 48) (BitVec.ofInt 64 (pN w))).v) (erO (none)) ∧ H' = I.E (s1) I.k0 ∧ k' = I.k0 + 1) := by
  refine runs_fr ok.okN.k241 rfl fun x hx => ?_
  refine SemK.up (N' := 32) (by have := I.hk; omega) ?_
  have a1 := pF_lt w 52
  have a2 := pF_lt w 48
  have a3 := pF_lt w 44
  have a4 := pF_lt w 40
  have hL : I.len s1 ≤ 100 := by have := I.lr s pc; rw [hs, I.lz s hz] at this; omega
  have d1 : ((op : Int) = 0) = False := eq_false (by omega)
  have d2 : ((op : Int) < 26) = False := eq_false (by omega)
  have d3 : ((op : Int) = 26) = False := eq_false (by omega)
  have d4 : ((op : Int) = 27) = False := eq_false (by omega)
  have d5 : ((op : Int) = 28) = False := eq_false (by omega)
  have d6 : ((op : Int) < 34) = True := eq_true (by omega)
  refine ex_sound 2000 _ _ _ _ ?_; (simp (maxSteps := 4000000) only [f241, c241, hdV, I.hdel0, hpc, LZ, seval, reduceCtorEq, forall_const])
  refine I.dynR0 [_, _] hz hpc (by rfl) ?_
  rw [hw, he, hs]
  (simp (maxSteps := 4000000) only [erN_none, tup2, List.nil_append, LZ, seval, reduceCtorEq, forall_const])
  refine call_pA (runs_Parts ok.ok.toOkV w (by omega) h2) (by ((try simp only [partsR, LY, seval, reduceCtorEq, implies_true]); first | done | exact True.intro | rfl)) (by first | rfl | (simp only [LN, LP, V.ren, tup2, tup3])) (by simp only [partsR, LX, implies_true]) ?_
  (simp (maxSteps := 4000000) only [partsR, hop, d1, d2, d3, d4, d5, d6, I.idsE, LZ, seval, reduceCtorEq, forall_const])
  repeat (refine And.intro (by first | omega | exact True.intro | rfl) ?_)
  have hJ := runs_jumped ok.okN op ho g pc false xt (pF w 52) (pF w 48) a1 a2 (BitVec.ofInt 64 (pN w))
  generalize jmpH op ⟨g, pc, false, xt⟩ (pF w 52) (pF w 48) (BitVec.ofInt 64 (pN w)) = j at *
  unfold Hd.v at hJ
  refine call_pA (hJ) (by ((try simp only [hdV, LY, seval, reduceCtorEq, implies_true]); first | done | exact True.intro | rfl)) (by first | rfl | (simp only [LN, LP, V.ren, tup2, tup3])) (by simp only [hdV, LX, implies_true]) ?_
  (simp (maxSteps := 4000000) only [hdV, LZ, seval, reduceCtorEq, forall_const])

  exact I.ret [_, _] (q := I.k0) ⟨Nat.le_refl _, by have := I.hk; omega⟩ hx (by decide) (by rfl) ⟨rfl, rfl, rfl⟩ (by (simp only [LV, hdV, mcons, List.nil_append, LZ, seval, reduceCtorEq, forall_const])) (by (simp only [LV, hdV, Hd.v, Hd.stop, upd, ite_W, mcons, List.nil_append, erN_none, erN_some, LZ, seval, reduceCtorEq, forall_const, LY, seval, reduceCtorEq, implies_true]))
end Mv
