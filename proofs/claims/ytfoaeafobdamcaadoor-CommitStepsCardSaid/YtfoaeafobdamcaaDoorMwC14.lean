/- A part of the tool. -/
import Derived.Test.YtfoaeafobdamcaaDoorT
set_option linter.unusedSimpArgs false
set_option linter.unusedVariables false
namespace Mv
open Go
/-- moot/mootlaw11.CommitSteps -/
def c14 : LC := (.seq (.reg [A1 6 (.mv (.c (.bool false)))])
 ((.seq (.reg [A1 25 (.mv (.t 0)),
  ⟨(some 26), .call 75 [(.t 25)], none⟩,
  ⟨(some 27), .call 74 [(.t 26)], none⟩,
  A1 24 (.mv (.t 27)),
  A1 28 (.ext (.t 24) 0),
  A1 29 (.ext (.t 24) 1),
  A1 7 (.mv (.t 28)),
  A1 8 (.mv (.t 29))])
 ((.seq (.reg [⟨(some 30), .call 68 [], none⟩,
  A1 9 (.mv (.t 30))])
 ((.seq ((.seq (.reg [A1 31 (.mv (.t 8)),
  A1 32 (.eq true true (.iface [74]) (.t 31) (.c .nili)),
  A1 33 (.mv (.t 32)),
  A2 34 33 false (.mv (.t 7)),
  A2 35 33 false (.eq false true .ptr (.t 34) (.c .nilp)),
  A1 36 (.pick (.t 33) (.c (.bool true)) (.t 35)),
  A1 37 (.mv (.t 36)),
  A2 38 37 false (.mv (.t 9)),
  A2 39 37 false (.eq false true .ptr (.t 38) (.c .nilp)),
  A1 40 (.pick (.t 37) (.c (.bool true)) (.t 39)),
  A1 41 (.mv (.t 40)),
  ⟨(some 42), .call 47 [], (some (41, false))⟩,
  A2 43 41 false (.un .not (.t 42)),
  A1 44 (.pick (.t 41) (.c (.bool true)) (.t 43))])
 (.cond (.t 44) ((.seq (.reg [A1 6 (.mv (.c (.bool false)))])
 (.ret))) (.skip))))
 ((.seq ((.seq (.reg [A1 45 (.mv (.t 1)),
  A1 46 (.len 0 (.t 45)),
  A1 47 (.mm false (.c (.int .i64 16)) (.t 46)),
  A1 48 (.mv (.c (.int .i64 0)))])
 (.block 0 (.loop ((.seq (.reg [A1 49 (.ari .lss (.t 48) (.t 47))])
 ((.seq (.cond (.t 49) (.skip) (.exit 0))
 ((.seq (.block 1 ((.seq (.reg [A1 50 (.mv (.t 48)),
  A1 10 (.mv (.t 50))])
 (.regd [⟨0, 0, A1 51 (.mv (.t 7))⟩,
  ⟨1, 0, A1 52 (.mv (.t 10))⟩,
  ⟨2, 0, A1 53 (.mv (.t 1))⟩,
  ⟨3, 0, A1 54 (.mv (.t 10))⟩,
  ⟨4, 12, A1 55 (.isl 1 (.t 53) (.t 54))⟩,
  ⟨5, 28, A1 56 (.load false 1 (.t 55))⟩,
  ⟨6, 1, A1 57 (.nilc (.t 51))⟩,
  ⟨7, 65, A1 58 (.fadr 8192 (.t 57))⟩,
  ⟨8, 255, A1 59 (.iarr 16 1 (.t 58) (.t 52))⟩,
  ⟨9, 511, A0 (.store 1 (.t 59) (.t 56))⟩]))))
 (.reg [A1 60 (.ari .add (.t 48) (.c (.int .i64 1))),
  A1 48 (.mv (.t 60))])))))))))))
 ((.seq (.reg [A1 61 (.mv (.t 7)),
  A1 62 (.mv (.t 9)),
  A1 63 (.mv (.t 2)),
  A1 64 (.conv .u64 (.t 63)),
  A1 65 (.ari .rem (.t 64) (.c (.int .u64 30))),
  A1 66 (.conv .i64 (.t 65)),
  ⟨(some 67), .call 71 [(.t 61), (.t 62), (.t 66)], none⟩])
 ((.seq (.reg [A1 69 (.mv (.t 7)),
  ⟨(some 70), .call 51 [(.t 69)], none⟩,
  A1 68 (.mv (.t 70)),
  A1 71 (.ext (.t 68) 0),
  A1 72 (.ext (.t 68) 1),
  A1 11 (.alloc (.ar 32 (.int .u8))),
  A0 (.store 32 (.t 11) (.t 71)),
  A1 8 (.mv (.t 72))])
 ((.seq (.reg [A1 73 (.mv (.t 7)),
  ⟨(some 74), .call 49 [(.t 73)], none⟩,
  A1 12 (.mv (.t 74))])
 ((.seq ((.seq (.reg [A1 75 (.mv (.t 8)),
  A1 76 (.eq true true (.iface [74]) (.t 75) (.c .nili)),
  A1 77 (.mv (.t 76)),
  A2 78 77 false (.mv (.t 12)),
  A2 79 77 false (.eq false true .ptr (.t 78) (.c .nilp)),
  A1 80 (.pick (.t 77) (.c (.bool true)) (.t 79))])
 (.cond (.t 80) ((.seq (.reg [A1 6 (.mv (.c (.bool false)))])
 (.ret))) (.skip))))
 ((.seq (.reg [A1 81 (.mv (.t 7)),
  A1 82 (.mv (.t 9)),
  ⟨(some 83), .call 70 [(.t 81), (.t 82)], none⟩])
 ((.seq (.reg [A1 85 (.mv (.t 7)),
  ⟨(some 86), .call 51 [(.t 85)], none⟩,
  A1 84 (.mv (.t 86)),
  A1 87 (.ext (.t 84) 0),
  A1 88 (.ext (.t 84) 1),
  A1 13 (.alloc (.ar 32 (.int .u8))),
  A0 (.store 32 (.t 13) (.t 87)),
  A1 8 (.mv (.t 88))])
 ((.seq (.reg [A1 90 (.mv (.t 7)),
  ⟨(some 91), .call 55 [(.t 90)], none⟩,
  A1 89 (.mv (.t 91)),
  A1 92 (.ext (.t 89) 0),
  A1 93 (.ext (.t 89) 1),
  A1 14 (.alloc (.st (.cons (.ar 16 (.int .u64)) (.cons (.int .u64) (.cons .bool (.cons (.int .u64) .nil)))))),
  A0 (.store 19 (.t 14) (.t 92)),
  A1 15 (.mv (.t 93))])
 ((.seq (.reg [A1 95 (.mv (.t 7)),
  ⟨(some 96), .call 54 [(.t 95)], none⟩,
  A1 94 (.mv (.t 96)),
  A1 97 (.ext (.t 94) 0),
  A1 98 (.ext (.t 94) 1),
  A1 16 (.alloc (.ar 32 (.int .u8))),
  A0 (.store 32 (.t 16) (.t 97)),
  A1 17 (.mv (.t 98))])
 ((.seq ((.seq (.regd [⟨0, 0, A1 99 (.mv (.t 8))⟩,
  ⟨1, 1, A1 100 (.eq true true (.iface [74]) (.t 99) (.c .nili))⟩,
  ⟨2, 3, A1 101 (.mv (.t 100))⟩,
  ⟨3, 7, A2 102 101 false (.mv (.t 15))⟩,
  ⟨4, 15, A2 103 101 false (.eq true true (.iface [74]) (.t 102) (.c .nili))⟩,
  ⟨5, 31, A1 104 (.pick (.t 101) (.c (.bool true)) (.t 103))⟩,
  ⟨6, 63, A1 105 (.mv (.t 104))⟩,
  ⟨7, 127, A2 106 105 false (.mv (.t 17))⟩,
  ⟨8, 255, A2 107 105 false (.eq true true (.iface [74]) (.t 106) (.c .nili))⟩,
  ⟨9, 511, A1 108 (.pick (.t 105) (.c (.bool true)) (.t 107))⟩,
  ⟨10, 1023, A1 109 (.mv (.t 108))⟩,
  ⟨12, 2047, A2 111 109 false (.load true 32 (.t 13))⟩,
  ⟨13, 2047, A2 112 109 false (.load true 19 (.t 14))⟩,
  ⟨14, 8191, ⟨(some 113), .call 62 [(.t 111), (.t 112)], (some (109, false))⟩⟩,
  ⟨11, 2047, A2 110 109 false (.load true 32 (.t 16))⟩,
  ⟨15, 32767, A2 114 109 false (.eq true false (.ar 32 1 false .int) (.t 110) (.t 113))⟩,
  ⟨16, 65535, A1 115 (.pick (.t 109) (.c (.bool true)) (.t 114))⟩])
 (.cond (.t 115) ((.seq (.reg [A1 6 (.mv (.c (.bool false)))])
 (.ret))) (.skip))))
 ((.seq (.reg [A1 18 (.mv (.c (.int .u64 0))),
  A1 19 (.mv (.c (.int .i64 0)))])
 ((.seq ((.seq (.reg [A1 116 (.mv (.t 7)),
  A1 117 (.nilc (.t 116)),
  A1 118 (.fadr 0 (.t 117)),
  A1 119 (.load true 8192 (.t 118)),
  A1 120 (.mv (.c (.int .i64 0)))])
 (.block 2 (.loop ((.seq (.reg [A1 121 (.ari .lss (.t 120) (.c (.int .i64 8192)))])
 ((.seq (.cond (.t 121) (.skip) (.exit 2))
 ((.seq (.block 3 ((.seq (.reg [A1 122 (.mv (.t 120)),
  A1 123 (.idx 8192 1 false (.t 119) (.t 120)),
  A1 20 (.mv (.t 122)),
  A1 21 (.mv (.t 123))])
 ((.seq (.reg [A1 124 (.mv (.t 21)),
  A1 125 (.mv (.t 12)),
  A1 126 (.mv (.t 20)),
  A1 127 (.nilc (.t 125)),
  A1 128 (.fadr 0 (.t 127)),
  A1 129 (.iarr 8192 1 (.t 128) (.t 126)),
  A1 130 (.load false 1 (.t 129)),
  A1 131 (.ari .neq (.t 124) (.t 130))])
 (.cond (.t 131) ((.seq (.reg [A1 132 (.mv (.t 20)),
  A1 133 (.conv .u64 (.t 132)),
  A1 18 (.mv (.t 133))])
 (.reg [A1 134 (.mv (.t 19)),
  A1 135 (.ari .add (.t 134) (.c (.int .i64 1))),
  A1 19 (.mv (.t 135))]))) (.skip)))))))
 (.reg [A1 136 (.ari .add (.t 120) (.c (.int .i64 1))),
  A1 120 (.mv (.t 136))])))))))))))
 ((.seq ((.seq (.reg [A1 137 (.mv (.t 19)),
  A1 138 (.ari .gtr (.t 137) (.c (.int .i64 1)))])
 (.cond (.t 138) ((.seq (.reg [A1 6 (.mv (.c (.bool true)))])
 (.ret))) (.skip))))
 ((.seq (.reg [A1 140 (.mv (.t 12)),
  A1 141 (.mv (.t 18)),
  ⟨(some 142), .call 50 [(.t 140), (.t 141)], none⟩,
  A1 139 (.mv (.t 142)),
  A1 143 (.ext (.t 139) 0),
  A1 144 (.ext (.t 139) 1),
  A1 22 (.alloc (.st (.cons (.int .u64) (.cons .slice .nil)))),
  A0 (.store 2 (.t 22) (.t 143)),
  A1 8 (.mv (.t 144))])
 ((.seq (.regd [⟨0, 0, A1 146 (.load true 32 (.t 11))⟩,
  ⟨1, 0, A1 147 (.mv (.t 18))⟩,
  ⟨2, 0, A1 148 (.load true 2 (.t 22))⟩,
  ⟨3, 0, A1 149 (.mv (.t 7))⟩,
  ⟨4, 0, A1 150 (.mv (.t 18))⟩,
  ⟨5, 8, A1 151 (.nilc (.t 149))⟩,
  ⟨6, 40, A1 152 (.fadr 0 (.t 151))⟩,
  ⟨7, 120, A1 153 (.iarr 8192 1 (.t 152) (.t 150))⟩,
  ⟨8, 248, A1 154 (.load false 1 (.t 153))⟩,
  ⟨9, 511, ⟨(some 155), .call 52 [(.t 146), (.t 147), (.t 148), (.t 154)], none⟩⟩,
  ⟨10, 1023, A1 145 (.mv (.t 155))⟩,
  ⟨11, 2047, A1 156 (.ext (.t 145) 0)⟩,
  ⟨13, 0, A1 23 (.alloc (.ar 32 (.int .u8)))⟩,
  ⟨14, 8191, A0 (.store 32 (.t 23) (.t 156))⟩,
  ⟨12, 2047, A1 157 (.ext (.t 145) 1)⟩,
  ⟨15, 32767, A1 15 (.mv (.t 157))⟩])
 ((.seq (.reg [A1 158 (.mv (.t 8)),
  A1 159 (.eq false true (.iface [74]) (.t 158) (.c .nili)),
  A1 160 (.mv (.t 159)),
  A2 161 160 true (.mv (.t 15)),
  A2 162 160 true (.eq false true (.iface [74]) (.t 161) (.c .nili)),
  A1 163 (.pick (.t 160) (.t 162) (.c (.bool false))),
  A1 164 (.mv (.t 163)),
  A2 165 164 true (.load true 32 (.t 23)),
  A2 166 164 true (.load true 32 (.t 13)),
  A2 167 164 true (.eq false false (.ar 32 1 false .int) (.t 165) (.t 166)),
  A1 168 (.pick (.t 164) (.t 167) (.c (.bool false))),
  A1 169 (.mv (.t 168)),
  A2 170 169 true (.mv (.t 19)),
  A2 171 169 true (.ari .gtr (.t 170) (.c (.int .i64 0))),
  A2 172 169 true (.mv (.t 171)),
  A2 173 172 false (.load true 32 (.t 13)),
  A2 174 172 false (.load true 32 (.t 11)),
  A2 175 172 false (.eq false false (.ar 32 1 false .int) (.t 173) (.t 174)),
  A2 176 169 true (.pick (.t 172) (.c (.bool true)) (.t 175)),
  A1 177 (.pick (.t 169) (.t 176) (.c (.bool false))),
  A1 6 (.mv (.t 177))])
 (.ret))))))))))))))))))))))))))))))))))))))))
def f14 : LF := ⟨c14, 3, 0, 178, [.tmp 6]⟩

end Mv
