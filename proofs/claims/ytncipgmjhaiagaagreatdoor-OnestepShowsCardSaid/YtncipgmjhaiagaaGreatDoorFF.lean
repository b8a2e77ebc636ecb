/- A part. -/
import Derived.Test.YtncipgmjhaiagaaGreatDoorFE
set_option linter.all false
set_option maxRecDepth 20000
set_option maxHeartbeats 4000000
namespace Mv
open Go
def c97:LC:=(sr [A1 4 (.alloc (.st (.cons (.ar 32 (.int .u8)) (.cons (.st (.cons (.ar 16 (.int .u64)) (.cons (.int .u64) (.cons .bool (.cons (.int .u64) .nil))))) (.cons .slice (.cons (.ar 64 (.int .u8)) .nil)))))),
 mn 5]
 (.seq (sr [mt 13 0,
  A1 14 (.eq false true .ptr (.t 13) (.c .nilp)),
  mt 15 14,
  A2 16 15 false (.mv (.t 1)),
  A2 17 15 false (.eq false true .ptr (.t 16) (.c .nilp)),
  A1 18 (.pick (.t 15) (.c (.bool true)) (.t 17))]
 (.cond (.t 18) (sr [A1 19 (.build (.st (.cons (.ar 32 (.int .u8)) (.cons (.st (.cons (.ar 16 (.int .u64)) (.cons (.int .u64) (.cons .bool (.cons (.int .u64) .nil))))) (.cons .slice (.cons (.ar 64 (.int .u8)) .nil))))) []),
  A1 20 (.mkif 74 (cI 1)),
  A0 (.store 116 (.t 4) (.t 19)),
  mt 5 20]
 (.ret)) (.skip)))
 (sr [mt 21 0,
  kl 22 49 [(.t 21)],
  mt 23 1,
  A1 24 (.build (.st (.cons .ptr (.cons .ptr (.cons .slice (.cons (.ar 64 (.int .u8)) .nil))))) [(.f 0,1,(.t 22)),(.f 1,1,(.t 23))]),
  A1 25 (.box (.t 24)),
  mt 6 25]
 (sr [mt 27 0,
  kl 28 55 [(.t 27)],
  mt 26 28,
  A1 29 (.ext (.t 26) 0),
  A1 30 (.ext (.t 26) 1),
  A1 7 (.alloc (.st (.cons (.ar 16 (.int .u64)) (.cons (.int .u64) (.cons .bool (.cons (.int .u64) .nil)))))),
  A0 (.store 19 (.t 7) (.t 29)),
  mt 8 30]
 (sr [mt 32 0,
  kl 33 51 [(.t 32)],
  mt 31 33,
  A1 34 (.ext (.t 31) 0),
  A1 35 (.ext (.t 31) 1),
  A1 9 (.alloc (.ar 32 (.int .u8))),
  A0 (.store 32 (.t 9) (.t 34)),
  mt 10 35]
 (.seq (sr [A1 37 (.load true 19 (.t 7)),
  mt 38 6,
  A1 39 (.mkif 422 (.t 38)),
  kl 40 241 [(.t 37),(.t 39)],
  mt 36 40,
  A1 41 (.ext (.t 36) 0),
  A1 42 (.ext (.t 36) 1),
  A1 11 (.alloc (.st (.cons (.ar 16 (.int .u64)) (.cons (.int .u64) (.cons .bool (.cons (.int .u64) .nil)))))),
  A0 (.store 19 (.t 11) (.t 41)),
  mt 12 42]
 (sr [mt 43 12,
  A1 44 (.eq true true (.iface [74]) (.t 43) (.c .nili))]
 (.cond (.t 44) (sr [A1 45 (.build (.st (.cons (.ar 32 (.int .u8)) (.cons (.st (.cons (.ar 16 (.int .u64)) (.cons (.int .u64) (.cons .bool (.cons (.int .u64) .nil))))) (.cons .slice (.cons (.ar 64 (.int .u8)) .nil))))) []),
  mt 46 12,
  A0 (.store 116 (.t 4) (.t 45)),
  mt 5 46]
 (.ret)) (.skip))))
 (.seq (.regd [⟨0,0,A1 47 (.load true 32 (.t 9))⟩,
  ⟨1,0,A1 48 (.load true 19 (.t 7))⟩,
  ⟨2,0,mt 49 6⟩,
  ⟨3,4,A1 50 (.nilc (.t 49))⟩,
  ⟨4,12,A1 51 (.fadr 2 (.t 50))⟩,
  ⟨5,28,A1 52 (.load false 1 (.t 51))⟩,
  ⟨6,0,mt 53 6⟩,
  ⟨7,64,A1 54 (.nilc (.t 53))⟩,
  ⟨8,192,A1 55 (.fadr 3 (.t 54))⟩,
  ⟨9,448,A1 56 (.load true 64 (.t 55))⟩,
  ⟨10,1023,A1 57 (.build (.st (.cons (.ar 32 (.int .u8)) (.cons (.st (.cons (.ar 16 (.int .u64)) (.cons (.int .u64) (.cons .bool (.cons (.int .u64) .nil))))) (.cons .slice (.cons (.ar 64 (.int .u8)) .nil))))) [(.f 0,32,(.t 47)),(.f 32,19,(.t 48)),(.f 51,1,(.t 52)),(.f 52,64,(.t 56))])⟩,
  ⟨11,2047,A0 (.store 116 (.t 4) (.t 57))⟩,
  ⟨12,4095,mn 5⟩])
 (.ret))))))))
def f97:LF:=⟨c97,2,0,58,[.cell 4 true 116,.tmp 5]⟩
def c98:LC:=(sr [A1 2 (.box (.t 0)),
 A1 3 (.box (.t 1)),
 A1 4 (.alloc (.ar 32 (.int .u8))),
 mn 5]
 (.seq (.seq (.regd [⟨0,0,A1 9 (.fadr 0 (.t 3))⟩,
  ⟨1,1,A1 10 (.load true 32 (.t 9))⟩,
  ⟨2,0,A1 11 (.fadr 32 (.t 3))⟩,
  ⟨3,4,A1 12 (.load true 19 (.t 11))⟩,
  ⟨4,15,kl 13 62 [(.t 10),(.t 12)]⟩,
  ⟨5,0,A1 14 (.load true 32 (.t 2))⟩,
  ⟨6,63,A1 15 (.eq true false (.ar 32 1 false .int) (.t 13) (.t 14))⟩])
 (.cond (.t 15) (sr [A1 16 (.build (.ar 32 (.int .u8)) []),
  A1 17 (.mkif 74 (cI 31)),
  A0 (.store 32 (.t 4) (.t 16)),
  mt 5 17]
 (.ret)) (.skip)))
 (sr [A1 18 (.fadr 0 (.t 3)),
  A1 19 (.load true 32 (.t 18)),
  A1 20 (.fadr 51 (.t 3)),
  A1 21 (.load false 1 (.t 20)),
  A1 22 (.fadr 52 (.t 3)),
  A1 23 (.load true 64 (.t 22)),
  A1 24 (.build (.st (.cons (.ar 32 (.int .u8)) (.cons .slice (.cons (.ar 64 (.int .u8)) .nil)))) [(.f 0,32,(.t 19)),(.f 32,1,(.t 21)),(.f 33,64,(.t 23))]),
  A1 25 (.box (.t 24)),
  mt 6 25]
 (sr [A1 27 (.fadr 32 (.t 3)),
  A1 28 (.load true 19 (.t 27)),
  mt 29 6,
  A1 30 (.mkif 426 (.t 29)),
  kl 31 241 [(.t 28),(.t 30)],
  mt 26 31,
  A1 32 (.ext (.t 26) 0),
  A1 33 (.ext (.t 26) 1),
  A1 7 (.alloc (.st (.cons (.ar 16 (.int .u64)) (.cons (.int .u64) (.cons .bool (.cons (.int .u64) .nil)))))),
  A0 (.store 19 (.t 7) (.t 32)),
  mt 8 33]
 (.seq (.block 0 (sr [mt 35 8,
  A1 36 (.eq true true (.iface [74]) (.t 35) (.c .nili)),
  mt 34 36]
 (.cond (.t 34) (sr [A1 37 (.build (.ar 32 (.int .u8)) []),
  mt 38 8,
  A0 (.store 32 (.t 4) (.t 37)),
  mt 5 38]
 (.ret)) (sr [mt 40 6,
  A1 41 (.nilc (.t 40)),
  A1 42 (.fadr 32 (.t 41)),
  A1 43 (.load false 1 (.t 42)),
  A1 44 (.len 0 (.t 43)),
  A1 45 (.ari .gtr (.t 44) (cI 0)),
  mt 39 45]
 (.cond (.t 39) (sr [A1 46 (.build (.ar 32 (.int .u8)) []),
  A1 47 (.mkif 74 (cI 3)),
  A0 (.store 32 (.t 4) (.t 46)),
  mt 5 47]
 (.ret)) (.skip))))))
 (.seq (.regd [⟨0,0,mt 48 6⟩,
  ⟨1,1,A1 49 (.nilc (.t 48))⟩,
  ⟨2,3,A1 50 (.fadr 0 (.t 49))⟩,
  ⟨3,7,A1 51 (.load true 32 (.t 50))⟩,
  ⟨4,0,A1 52 (.load true 19 (.t 7))⟩,
  ⟨5,31,kl 53 62 [(.t 51),(.t 52)]⟩,
  ⟨6,63,A0 (.store 32 (.t 4) (.t 53))⟩,
  ⟨7,127,mn 5⟩])
 (.ret)))))))
def f98:LF:=⟨c98,2,0,54,[.cell 4 true 32,.tmp 5]⟩
def Aj6:LC:=(sr [A1 2 (.box (.t 0)),
 A1 4 (.alloc (.st (.cons (.ar 16 (.int .u64)) (.cons (.int .u64) (.cons .bool (.cons (.int .u64) .nil)))))),
 mn 5]
 (.seq (sr [A1 17 (.fadr 17 (.t 2)),
  A1 18 (.load false 1 (.t 17))]
 (.cond (.t 18) (sr [A1 19 (.load true 19 (.t 2)),
  A0 (.store 19 (.t 4) (.t 19)),
  mn 5]
 (.ret)) (.skip)))
 (.seq (sr [A1 20 (.fadr 16 (.t 2)),
  A1 21 (.load false 1 (.t 20)),
  A1 22 (.ari .geq (.t 21) (cU 8192))]
 (.cond (.t 22) (sr [A1 23 (.load true 19 (.t 2)),
  kl 24 346 [(.t 23),(cU 18446744073709551614)],
  A0 (.store 19 (.t 4) (.t 24)),
  mn 5]
 (.ret)) (.skip)))
 (sr [mt 26 1,
  A1 27 (.fadr 16 (.t 2)),
  A1 28 (.load false 1 (.t 27)),
  ⟨(some 29),.dyn (.c (.fcons 0 .junk .fnil)) [(.t 26),(.t 28)],none⟩,
  mt 25 29,
  A1 30 (.ext (.t 25) 0),
  A1 31 (.ext (.t 25) 1),
  mt 6 30,
  mt 7 31]
 (.seq (sr [mt 32 7,
  A1 33 (.eq true true (.iface [74]) (.t 32) (.c .nili))]
 (.cond (.t 33) (sr [A1 34 (.load true 19 (.t 2)),
  mt 35 7,
  A0 (.store 19 (.t 4) (.t 34)),
  mt 5 35]
 (.ret)) (.skip)))
 (sr [mt 37 6,
  kl 38 79 [(.t 37)],
  mt 36 38,
  A1 39 (.ext (.t 36) 0),
  A1 40 (.ext (.t 36) 1),
  A1 41 (.ext (.t 36) 2),
  A1 42 (.ext (.t 36) 3),
  A1 43 (.ext (.t 36) 4),
  A1 44 (.ext (.t 36) 5),
  A1 45 (.ext (.t 36) 6),
  mt 8 39,
  mt 9 40,
  mt 10 41,
  mt 11 42,
  mt 12 43,
  mt 13 44,
  mt 14 45]
 (sr [mt 46 10,
  A1 47 (.fadr 0 (.t 2)),
  A1 48 (.iarr 16 1 (.t 47) (.t 46)),
  A1 49 (.load false 1 (.t 48)),
  mt 50 13,
  A1 51 (.conv .u64 (.t 50)),
  A1 52 (.ari .add (.t 49) (.t 51)),
  mt 15 52]
 (sr [A1 53 (.fadr 0 (.t 2)),
  mt 16 53]
 (.seq (.block 0 (sr [mt 71 14,
  A1 72 (.un .not (.t 71)),
  mt 70 72]
 (.cond (.t 70) (sr [A1 73 (.load true 19 (.t 2)),
  kl 74 346 [(.t 73),(cU 18446744073709551614)],
  A0 (.store 19 (.t 4) (.t 74)),
  mn 5]
 (.ret)) (sr [mt 76 8,
  A1 77 (.ari .eql (.t 76) (cI 0)),
  mt 75 77]
 (.cond (.t 75) (.seq (.regd [⟨0,0,A1 78 (.load true 19 (.t 2))⟩,
  ⟨1,0,mt 79 16⟩,
  ⟨2,0,mt 80 10⟩,
  ⟨3,2,A1 81 (.nilc (.t 79))⟩,
  ⟨4,14,A1 82 (.iarr 16 1 (.t 81) (.t 80))⟩,
  ⟨5,30,A1 83 (.load false 1 (.t 82))⟩,
  ⟨6,63,kl 84 346 [(.t 78),(.t 83)]⟩,
  ⟨7,127,A0 (.store 19 (.t 4) (.t 84))⟩,
  ⟨8,255,mn 5⟩])
 (.ret)) (sr [mt 86 8,
  A1 87 (.ari .lss (.t 86) (cI 26)),
  mt 85 87]
 (.cond (.t 85) (.regd [⟨2,0,mt 91 8⟩,
  ⟨3,0,mt 92 16⟩,
  ⟨4,0,mt 93 10⟩,
  ⟨5,2,A1 94 (.nilc (.t 92))⟩,
  ⟨6,14,A1 95 (.iarr 16 1 (.t 94) (.t 93))⟩,
  ⟨7,30,A1 96 (.load false 1 (.t 95))⟩,
  ⟨8,0,mt 97 16⟩,
  ⟨9,0,mt 98 11⟩,
  ⟨10,64,A1 99 (.nilc (.t 97))⟩,
  ⟨11,448,A1 100 (.iarr 16 1 (.t 99) (.t 98))⟩,
  ⟨12,960,A1 101 (.load false 1 (.t 100))⟩,
  ⟨13,0,mt 102 16⟩,
  ⟨14,0,mt 103 12⟩,
  ⟨15,2048,A1 104 (.nilc (.t 102))⟩,
  ⟨16,14336,A1 105 (.iarr 16 1 (.t 104) (.t 103))⟩,
  ⟨17,30720,A1 106 (.load false 1 (.t 105))⟩,
  ⟨18,65535,kl 107 215 [(.t 91),(.t 96),(.t 101),(.t 106)]⟩,
  ⟨0,0,mt 89 16⟩,
  ⟨1,0,mt 90 9⟩,
  ⟨19,131071,mt 88 107⟩,
  ⟨20,655359,A1 108 (.ext (.t 88) 0)⟩,
  ⟨22,131072,A1 110 (.nilc (.t 89))⟩,
  ⟨23,4194303,A1 111 (.iarr 16 1 (.t 110) (.t 90))⟩,
  ⟨24,8388607,A0 (.store 1 (.t 111) (.t 108))⟩,
  ⟨21,655359,A1 109 (.ext (.t 88) 1)⟩]) (sr [mt 113 8,
  A1 114 (.ari .eql (.t 113) (cI 26)),
  mt 112 114]
 (.cond (.t 112) (.reg [mt 115 16,
  mt 116 9,
  mt 117 13,
  A1 118 (.conv .u64 (.t 117)),
  A1 119 (.nilc (.t 115)),
  A1 120 (.iarr 16 1 (.t 119) (.t 116)),
  A0 (.store 1 (.t 120) (.t 118))]) (sr [mt 122 8,
  A1 123 (.ari .eql (.t 122) (cI 27)),
  mt 124 123,
  A2 125 124 false (.mv (.t 8)),
  A2 126 124 false (.ari .eql (.t 125) (cI 28)),
  A1 127 (.pick (.t 124) (.c (.bool true)) (.t 126)),
  mt 128 127,
  A2 129 128 true (.mv (.t 15)),
  A2 130 128 true (.ari .geq (.t 129) (cU 8192)),
  A1 131 (.pick (.t 128) (.t 130) (.c (.bool false))),
  mt 121 131]
 (.cond (.t 121) (sr [A1 132 (.load true 19 (.t 2)),
  kl 133 346 [(.t 132),(cU 18446744073709551614)],
  A0 (.store 19 (.t 4) (.t 133)),
  mn 5]
 (.ret)) (sr [mt 135 8,
  A1 136 (.ari .eql (.t 135) (cI 27)),
  mt 134 136]
 (.cond (.t 134) (.regd [⟨2,0,mt 140 1⟩,
  ⟨3,0,mt 141 15⟩,
  ⟨4,3,⟨(some 142),.dyn (.c (.fcons 0 .junk .fnil)) [(.t 140),(.t 141)],none⟩⟩,
  ⟨0,0,mt 138 16⟩,
  ⟨1,0,mt 139 9⟩,
  ⟨5,7,mt 137 142⟩,
  ⟨6,39,A1 143 (.ext (.t 137) 0)⟩,
  ⟨8,8,A1 145 (.nilc (.t 138))⟩,
  ⟨9,255,A1 146 (.iarr 16 1 (.t 145) (.t 139))⟩,
  ⟨10,511,A0 (.store 1 (.t 146) (.t 143))⟩,
  ⟨7,39,A1 144 (.ext (.t 137) 1)⟩,
  ⟨11,2047,mt 7 144⟩]) (sr [mt 148 8,
  A1 149 (.ari .eql (.t 148) (cI 28)),
  mt 147 149]
 (.cond (.t 147) (.regd [⟨0,0,mt 150 1⟩,
  ⟨1,0,mt 151 15⟩,
  ⟨2,0,mt 152 16⟩,
  ⟨3,0,mt 153 11⟩,
  ⟨4,4,A1 154 (.nilc (.t 152))⟩,
  ⟨5,28,A1 155 (.iarr 16 1 (.t 154) (.t 153))⟩,
  ⟨6,60,A1 156 (.load false 1 (.t 155))⟩,
  ⟨7,1,A1 157 (.mkmth 1 (.t 150))⟩,
  ⟨8,129,A1 158 (.nilm 1 [422,426] (.t 157))⟩,
  ⟨9,385,mt 159 150⟩,
  ⟨10,1023,⟨(some 160),.dyn (.c (.fcons 1 .junk .fnil)) [(.t 159),(.t 151),(.t 156)],none⟩⟩,
  ⟨11,2047,mt 7 160⟩]) (sr [mt 162 8,
  A1 163 (.ari .lss (.t 162) (cI 34)),
  mt 161 163]
 (.cond (.t 161) (sr [A1 164 (.load true 19 (.t 2)),
  mt 165 8,
  mt 166 9,
  mt 167 10,
  mt 168 13,
  A1 169 (.conv .u64 (.t 168)),
  kl 170 347 [(.t 164),(.t 165),(.t 166),(.t 167),(.t 169)],
  A0 (.store 19 (.t 4) (.t 170)),
  mn 5]
 (.ret)) (.seq (.regd [⟨0,0,A1 54 (.load true 19 (.t 2))⟩,
  ⟨1,0,mt 55 1⟩,
  ⟨2,0,mt 56 8⟩,
  ⟨3,0,mt 57 16⟩,
  ⟨4,0,mt 58 10⟩,
  ⟨5,8,A1 59 (.nilc (.t 57))⟩,
  ⟨6,56,A1 60 (.iarr 16 1 (.t 59) (.t 58))⟩,
  ⟨7,120,A1 61 (.load false 1 (.t 60))⟩,
  ⟨8,0,mt 62 16⟩,
  ⟨9,0,mt 63 11⟩,
  ⟨10,256,A1 64 (.nilc (.t 62))⟩,
  ⟨11,1792,A1 65 (.iarr 16 1 (.t 64) (.t 63))⟩,
  ⟨12,3840,A1 66 (.load false 1 (.t 65))⟩,
  ⟨13,8191,kl 67 348 [(.t 54),(.t 55),(.t 56),(.t 61),(.t 66)]⟩,
  ⟨14,16383,A1 68 (.ext (.t 67) 0)⟩,
  ⟨15,16383,A1 69 (.ext (.t 67) 1)⟩,
  ⟨16,65535,A0 (.store 19 (.t 4) (.t 68))⟩,
  ⟨17,131071,mt 5 69⟩])
 (.ret)))))))))))))))))))
 (sr [A1 171 (.fadr 16 (.t 2)),
  A1 172 (.load false 1 (.t 171)),
  A1 173 (.ari .add (.t 172) (cU 1)),
  A1 174 (.fadr 16 (.t 2)),
  A0 (.store 1 (.t 174) (.t 173))]
 (sr [A1 175 (.load true 19 (.t 2)),
  mt 176 7,
  A0 (.store 19 (.t 4) (.t 175)),
  mt 5 176]
 (.ret))))))))))))
def Aiv:LF:=⟨Aj6,2,0,177,[.cell 4 true 19,.tmp 5]⟩
def Alc:LC:=(sr [A1 2 (.box (.t 0)),
 A1 4 (.alloc (.st (.cons (.ar 16 (.int .u64)) (.cons (.int .u64) (.cons .bool (.cons (.int .u64) .nil))))))]
 (sr [mt 5 1,
  A1 6 (.fadr 17 (.t 2)),
  A0 (.store 1 (.t 6) (.c (.bool true))),
  A1 7 (.fadr 18 (.t 2)),
  A0 (.store 1 (.t 7) (.t 5))]
 (sr [A1 8 (.load true 19 (.t 2)),
  A0 (.store 19 (.t 4) (.t 8))]
 (.ret))))
def Aeo:LF:=⟨Alc,2,0,9,[.cell 4 true 19]⟩
def Aj4:LC:=(sr [A1 5 (.box (.t 0)),
 A1 10 (.alloc (.st (.cons (.ar 16 (.int .u64)) (.cons (.int .u64) (.cons .bool (.cons (.int .u64) .nil))))))]
 (sr [mt 12 3,
  A1 13 (.fadr 0 (.t 5)),
  A1 14 (.iarr 16 1 (.t 13) (.t 12)),
  A1 15 (.load false 1 (.t 14)),
  A1 16 (.ari .eql (.t 15) (cU 0)),
  mt 11 16]
 (.seq (.block 0 (sr [mt 18 1,
  A1 19 (.ari .eql (.t 18) (cI 30)),
  mt 20 19,
  A2 21 20 true (.mv (.t 11)),
  A2 22 20 true (.un .not (.t 21)),
  A1 23 (.pick (.t 20) (.t 22) (.c (.bool false))),
  mt 24 23,
  A2 25 24 false (.mv (.t 1)),
  A2 26 24 false (.ari .eql (.t 25) (cI 31)),
  A2 27 24 false (.mv (.t 26)),
  A2 28 27 true (.mv (.t 11)),
  A2 29 24 false (.pick (.t 27) (.t 28) (.c (.bool false))),
  A1 30 (.pick (.t 24) (.c (.bool true)) (.t 29)),
  mt 17 30]
 (.cond (.t 17) (sr [A1 31 (.fadr 16 (.t 5)),
  A1 32 (.load false 1 (.t 31)),
  A1 33 (.ari .add (.t 32) (cU 1)),
  A1 34 (.fadr 16 (.t 5)),
  A0 (.store 1 (.t 34) (.t 33))]
 (sr [A1 35 (.load true 19 (.t 5)),
  A0 (.store 19 (.t 10) (.t 35))]
 (.ret))) (sr [mt 37 1,
  A1 38 (.ari .eql (.t 37) (cI 33)),
  mt 36 38]
 (.cond (.t 36) (.reg [mt 39 3,
  A1 40 (.fadr 0 (.t 5)),
  A1 41 (.iarr 16 1 (.t 40) (.t 39)),
  A1 42 (.load false 1 (.t 41)),
  mt 4 42]) (.skip))))))
 (.seq (sr [mt 43 4,
  A1 44 (.ari .geq (.t 43) (cU 8192))]
 (.cond (.t 44) (sr [A1 45 (.load true 19 (.t 5)),
  kl 46 346 [(.t 45),(cU 18446744073709551614)],
  A0 (.store 19 (.t 10) (.t 46))]
 (.ret)) (.skip)))
 (.seq (sr [mt 47 1,
  A1 48 (.ari .eql (.t 47) (cI 32))]
 (.cond (.t 48) (.reg [mt 49 2,
  A1 50 (.fadr 16 (.t 5)),
  A1 51 (.load false 1 (.t 50)),
  A1 52 (.ari .add (.t 51) (cU 1)),
  A1 53 (.fadr 0 (.t 5)),
  A1 54 (.iarr 16 1 (.t 53) (.t 49)),
  A0 (.store 1 (.t 54) (.t 52))]) (.skip)))
 (sr [mt 55 4,
  A1 56 (.fadr 16 (.t 5)),
  A0 (.store 1 (.t 56) (.t 55))]
 (sr [A1 57 (.load true 19 (.t 5)),
  A0 (.store 19 (.t 10) (.t 57))]
 (.ret))))))))
def Ahp:LF:=⟨Aj4,5,0,58,[.cell 10 true 19]⟩
def QG:LC:=(sr [A1 5 (.box (.t 0)),
 A1 10 (.alloc (.st (.cons (.ar 16 (.int .u64)) (.cons (.int .u64) (.cons .bool (.cons (.int .u64) .nil)))))),
 mn 11]
 (sr [A1 12 (.mv (cU 8)),
  A1 13 (.mv (cU 4))]
 (.seq (sr [mt 24 2,
  A1 25 (.ari .eql (.t 24) (cI 35))]
 (.cond (.t 25) (.reg [A1 12 (.mv (cU 4)),
  A1 13 (.mv (cU 8))]) (.skip)))
 (.seq (sr [mt 26 3,
  mt 27 12,
  kl 28 448 [(.t 26),(.t 27)],
  A1 29 (.un .not (.t 28)),
  mt 30 29,
  A2 31 30 false (.mv (.t 4)),
  A2 32 30 false (.mv (.t 13)),
  ⟨(some 33),.call 448 [(.t 31),(.t 32)],(some (30,false))⟩,
  A2 34 30 false (.un .not (.t 33)),
  A1 35 (.pick (.t 30) (.c (.bool true)) (.t 34))]
 (.cond (.t 35) (sr [A1 36 (.load true 19 (.t 5)),
  kl 37 346 [(.t 36),(cU 18446744073709551614)],
  A0 (.store 19 (.t 10) (.t 37)),
  mn 11]
 (.ret)) (.skip)))
 (sr [A1 14 (.mv (.c .nils))]
 (.seq (sr [mt 38 12,
  A1 39 (.mv (cU 0))]
 (.block 0 (.loop (sr [A1 40 (.ari .lss (.t 39) (.t 38))]
 (.seq (.cond (.t 40) (.skip) (.exit 0))
 (.seq (.block 1 (sr [mt 41 39,
  mt 15 41]
 (sr [mt 43 1,
  mt 44 3,
  mt 45 15,
  A1 46 (.ari .add (.t 44) (.t 45)),
  ⟨(some 47),.dyn (.c (.fcons 0 .junk .fnil)) [(.t 43),(.t 46)],none⟩,
  mt 42 47,
  A1 48 (.ext (.t 42) 0),
  A1 49 (.ext (.t 42) 1),
  mt 16 48,
  mt 17 49]
 (.seq (sr [mt 50 17,
  A1 51 (.eq true true (.iface [74]) (.t 50) (.c .nili))]
 (.cond (.t 51) (sr [A1 52 (.load true 19 (.t 5)),
  mt 53 17,
  A0 (.store 19 (.t 10) (.t 52)),
  mt 11 53]
 (.ret)) (.skip)))
 (.reg [mt 54 14,
  mt 55 16,
  kl 56 327 [(.t 54),(.t 55)],
  mt 14 56])))))
 (.reg [A1 57 (.ari .add (.t 39) (cU 1)),
  mt 39 57])))))))
 (sr [A1 18 (.mv (.c .nils))]
 (.seq (sr [mt 58 2,
  A1 59 (.ari .eql (.t 58) (cI 34))]
 (.cond (.t 59) (sr [mt 60 14,
  kl 61 319 [(.t 60)],
  A1 19 (.alloc (.ar 32 (.int .u8))),
  A0 (.store 32 (.t 19) (.t 61))]
 (.reg [A1 62 (.slarr 32 1 (.t 19) none none),
  mt 18 62])) (.seq (.regd [⟨0,0,mt 64 1⟩,
  ⟨1,0,mt 65 14⟩,
  ⟨2,2,A1 66 (.s2a 32 1 (.t 65))⟩,
  ⟨3,6,A1 67 (.load true 32 (.t 66))⟩,
  ⟨4,1,A1 68 (.mkmth 2 (.t 64))⟩,
  ⟨5,17,A1 69 (.nilm 2 [422,426] (.t 68))⟩,
  ⟨6,49,mt 70 64⟩,
  ⟨7,127,⟨(some 71),.dyn (.c (.fcons 2 .junk .fnil)) [(.t 70),(.t 67)],none⟩⟩,
  ⟨8,255,mt 63 71⟩,
  ⟨9,511,A1 72 (.ext (.t 63) 0)⟩,
  ⟨11,0,A1 20 (.alloc (.ar 64 (.int .u8)))⟩,
  ⟨12,2047,A0 (.store 64 (.t 20) (.t 72))⟩,
  ⟨10,511,A1 73 (.ext (.t 63) 1)⟩,
  ⟨13,8191,mt 21 73⟩])
 (.seq (sr [mt 74 21,
  A1 75 (.eq true true (.iface [74]) (.t 74) (.c .nili))]
 (.cond (.t 75) (sr [A1 76 (.load true 19 (.t 5)),
  mt 77 21,
  A0 (.store 19 (.t 10) (.t 76)),
  mt 11 77]
 (.ret)) (.skip)))
 (.reg [A1 78 (.slarr 64 1 (.t 20) none none),
  mt 18 78])))))
 (.seq (sr [mt 79 13,
  A1 80 (.mv (cU 0))]
 (.block 2 (.loop (sr [A1 81 (.ari .lss (.t 80) (.t 79))]
 (.seq (.cond (.t 81) (.skip) (.exit 2))
 (.seq (.block 3 (sr [mt 82 80,
  mt 22 82]
 (.seq (.regd [⟨4,0,mt 87 18⟩,
  ⟨5,0,mt 88 22⟩,
  ⟨6,2,A1 89 (.ari .mul (cU 8) (.t 88))⟩,
  ⟨7,7,A1 90 (.slsl 1 (.t 87) (some (.t 89)) none)⟩,
  ⟨8,15,kl 91 308 [(.t 90)]⟩,
  ⟨0,0,mt 83 1⟩,
  ⟨1,0,mt 84 4⟩,
  ⟨2,0,mt 85 22⟩,
  ⟨3,192,A1 86 (.ari .add (.t 84) (.t 85))⟩,
  ⟨9,32,A1 92 (.mkmth 1 (.t 83))⟩,
  ⟨10,544,A1 93 (.nilm 1 [422,426] (.t 92))⟩,
  ⟨11,1568,mt 94 83⟩,
  ⟨12,4095,⟨(some 95),.dyn (.c (.fcons 1 .junk .fnil)) [(.t 94),(.t 86),(.t 91)],none⟩⟩,
  ⟨13,8191,mt 23 95⟩])
 (sr [mt 96 23,
  A1 97 (.eq true true (.iface [74]) (.t 96) (.c .nili))]
 (.cond (.t 97) (sr [A1 98 (.load true 19 (.t 5)),
  mt 99 23,
  A0 (.store 19 (.t 10) (.t 98)),
  mt 11 99]
 (.ret)) (.skip))))))
 (.reg [A1 100 (.ari .add (.t 80) (cU 1)),
  mt 80 100])))))))
 (sr [A1 101 (.fadr 16 (.t 5)),
  A1 102 (.load false 1 (.t 101)),
  A1 103 (.ari .add (.t 102) (cU 1)),
  A1 104 (.fadr 16 (.t 5)),
  A0 (.store 1 (.t 104) (.t 103))]
 (sr [A1 105 (.load true 19 (.t 5)),
  A0 (.store 19 (.t 10) (.t 105)),
  mn 11]
 (.ret))))))))))))
def PS:LF:=⟨QG,5,0,106,[.cell 10 true 19,.tmp 11]⟩
def Af6:LC:=(sr [A1 4 (.mv (.c (.bool false)))]
 (sr [mt 5 0,
  A1 6 (.ari .leq (.t 5) (cU 8192)),
  mt 7 6,
  A2 8 7 true (.mv (.t 1)),
  A2 9 7 true (.mv (.t 0)),
  A2 10 7 true (.ari .sub (cU 8192) (.t 9)),
  A2 11 7 true (.ari .leq (.t 8) (.t 10)),
  A1 12 (.pick (.t 7) (.t 11) (.c (.bool false))),
  mt 4 12]
 (.ret)))
def Acq:LF:=⟨Af6,2,0,13,[.tmp 4]⟩
def Ad5:LC:=(sr [A1 3 (.box (.t 1)),
 A1 4 (.alloc (.ar 64 (.int .u8))),
 mn 5]
 (.seq (.regd [⟨0,0,mt 9 0⟩,
  ⟨1,1,A1 10 (.nilc (.t 9))⟩,
  ⟨2,3,A1 11 (.fadr 1 (.t 10))⟩,
  ⟨3,7,A1 12 (.load false 1 (.t 11))⟩,
  ⟨4,15,kl 13 167 [(.t 12)]⟩,
  ⟨5,0,A1 14 (.load true 32 (.t 3))⟩,
  ⟨6,63,kl 15 328 [(.t 13),(.t 14)]⟩,
  ⟨7,127,mt 8 15⟩,
  ⟨8,255,A1 16 (.ext (.t 8) 0)⟩,
  ⟨10,0,A1 6 (.alloc (.ar 64 (.int .u8)))⟩,
  ⟨11,1023,A0 (.store 64 (.t 6) (.t 16))⟩,
  ⟨9,255,A1 17 (.ext (.t 8) 1)⟩,
  ⟨12,4095,mt 7 17⟩])
 (sr [mt 18 0,
  A1 19 (.load true 64 (.t 6)),
  A1 20 (.nilc (.t 18)),
  A1 21 (.fadr 3 (.t 20)),
  A0 (.store 64 (.t 21) (.t 19))]
 (sr [A1 22 (.load true 64 (.t 6)),
  mt 23 7,
  A0 (.store 64 (.t 4) (.t 22)),
  mt 5 23]
 (.ret)))))
def Ach:LF:=⟨Ad5,2,0,24,[.cell 4 true 64,.tmp 5]⟩
def Xx:LC:=(sr [A1 4 (.mv (cU 0)),
 mn 5]
 (sr [mt 9 0,
  A1 10 (.nilc (.t 9)),
  A1 11 (.fadr 0 (.t 10)),
  A1 12 (.load false 1 (.t 11)),
  mt 13 1,
  kl 14 50 [(.t 12),(.t 13)],
  mt 8 14,
  A1 15 (.ext (.t 8) 0),
  A1 16 (.ext (.t 8) 1),
  A1 6 (.alloc (.st (.cons (.int .u64) (.cons .slice .nil)))),
  A0 (.store 2 (.t 6) (.t 15)),
  mt 7 16]
 (.seq (.regd [⟨1,0,mt 18 0⟩,
  ⟨2,1,A1 19 (.nilc (.t 18))⟩,
  ⟨3,3,A1 20 (.fadr 2 (.t 19))⟩,
  ⟨4,7,A1 21 (.load false 1 (.t 20))⟩,
  ⟨5,0,A1 22 (.load true 2 (.t 6))⟩,
  ⟨6,16,A1 23 (.bsl 2 1 (.st (.cons (.int .u64) (.cons .slice .nil))) [(.i 2 0,2,(.t 22))])⟩,
  ⟨7,63,A1 24 (.app 2 32 (.t 21) (.t 23))⟩,
  ⟨0,0,mt 17 0⟩,
  ⟨8,255,A1 25 (.nilc (.t 17))⟩,
  ⟨9,511,A1 26 (.fadr 2 (.t 25))⟩,
  ⟨10,1023,A0 (.store 1 (.t 26) (.t 24))⟩])
 (sr [A1 27 (.fadr 0 (.t 6)),
  A1 28 (.load false 1 (.t 27)),
  mt 29 7,
  mt 4 28,
  mt 5 29]
 (.ret)))))
def U4:LF:=⟨Xx,2,0,30,[.tmp 4,.tmp 5]⟩
def Aev:LC:=(sr [mn 6]
 (sr [mt 10 0,
  mt 11 1,
  kl 12 596 [(.t 10),(.t 11)],
  mt 9 12,
  A1 13 (.ext (.t 9) 0),
  A1 14 (.ext (.t 9) 1),
  mt 7 13,
  mt 8 14]
 (sr [mt 15 0,
  A1 16 (.nilc (.t 15)),
  A1 17 (.fadr 0 (.t 16)),
  A1 18 (.load false 1 (.t 17)),
  mt 19 1,
  mt 20 2,
  A1 21 (.nilc (.t 18)),
  A1 22 (.fadr 0 (.t 21)),
  A1 23 (.iarr 8192 1 (.t 22) (.t 19)),
  A0 (.store 1 (.t 23) (.t 20))]
 (sr [mt 24 8,
  mt 6 24]
 (.ret)))))
def Ab5:LF:=⟨Aev,3,0,25,[.tmp 6]⟩
def Ai1:LC:=(sr [A1 3 (.box (.t 1)),
 A1 4 (.alloc (.ar 64 (.int .u8))),
 mn 5]
 (.seq (.seq (.regd [⟨0,0,mt 6 0⟩,
  ⟨1,1,A1 7 (.nilc (.t 6))⟩,
  ⟨2,3,A1 8 (.fadr 33 (.t 7))⟩,
  ⟨3,7,A1 9 (.slarr 64 1 (.t 8) none none)⟩,
  ⟨4,15,kl 10 319 [(.t 9)]⟩,
  ⟨5,0,A1 11 (.load true 32 (.t 3))⟩,
  ⟨6,63,A1 12 (.eq true false (.ar 32 1 false .int) (.t 10) (.t 11))⟩])
 (.cond (.t 12) (sr [A1 13 (.build (.ar 64 (.int .u8)) []),
  A1 14 (.mkif 74 (cI 31)),
  A0 (.store 64 (.t 4) (.t 13)),
  mt 5 14]
 (.ret)) (.skip)))
 (sr [mt 15 0,
  A1 16 (.nilc (.t 15)),
  A1 17 (.fadr 33 (.t 16)),
  A1 18 (.load true 64 (.t 17)),
  A0 (.store 64 (.t 4) (.t 18)),
  mn 5]
 (.ret))))
def Ab8:LF:=⟨Ai1,2,0,19,[.cell 4 true 64,.tmp 5]⟩
def XK:LC:=(sr [A1 4 (.mv (cU 0)),
 mn 5]
 (sr [mt 10 0,
  kl 11 601 [(.t 10)],
  mt 9 11,
  A1 12 (.ext (.t 9) 0),
  A1 13 (.ext (.t 9) 1),
  A1 6 (.alloc (.st (.cons (.int .u64) (.cons .slice .nil)))),
  A0 (.store 2 (.t 6) (.t 12)),
  mt 7 13]
 (.seq (sr [mt 14 7,
  A1 15 (.eq true true (.iface [74]) (.t 14) (.c .nili))]
 (.cond (.t 15) (sr [mt 16 7,
  A1 4 (.mv (cU 0)),
  mt 5 16]
 (.ret)) (.skip)))
 (.seq (.regd [⟨0,0,mt 18 0⟩,
  ⟨1,1,A1 19 (.nilc (.t 18))⟩,
  ⟨2,3,A1 20 (.fadr 0 (.t 19))⟩,
  ⟨3,7,A1 21 (.load true 32 (.t 20))⟩,
  ⟨4,0,mt 22 1⟩,
  ⟨5,0,A1 23 (.load true 2 (.t 6))⟩,
  ⟨6,63,kl 24 53 [(.t 21),(.t 22),(.t 23)]⟩,
  ⟨7,127,mt 17 24⟩,
  ⟨8,255,A1 25 (.ext (.t 17) 0)⟩,
  ⟨9,255,A1 26 (.ext (.t 17) 1)⟩,
  ⟨10,511,mt 8 25⟩,
  ⟨11,2047,mt 7 26⟩])
 (.seq (sr [mt 27 7,
  A1 28 (.eq false true (.iface [74]) (.t 27) (.c .nili)),
  mt 29 28,
  A2 30 29 true (.mv (.t 8)),
  A2 31 29 true (.un .not (.t 30)),
  A1 32 (.pick (.t 29) (.t 31) (.c (.bool false)))]
 (.cond (.t 32) (.reg [A1 33 (.mkif 74 (cI 31)),
  mt 7 33]) (.skip)))
 (sr [A1 34 (.fadr 0 (.t 6)),
  A1 35 (.load false 1 (.t 34)),
  mt 36 7,
  mt 4 35,
  mt 5 36]
 (.ret)))))))
def Uc:LF:=⟨XK,2,0,37,[.tmp 4,.tmp 5]⟩
def Vu:LC:=(sr [mn 6]
 (sr [mt 11 0,
  kl 12 601 [(.t 11)],
  mt 10 12,
  A1 13 (.ext (.t 10) 0),
  A1 14 (.ext (.t 10) 1),
  A1 7 (.alloc (.st (.cons (.int .u64) (.cons .slice .nil)))),
  A0 (.store 2 (.t 7) (.t 13)),
  mt 8 14]
 (.seq (sr [mt 15 8,
  A1 16 (.eq true true (.iface [74]) (.t 15) (.c .nili))]
 (.cond (.t 16) (sr [mt 17 8,
  mt 6 17]
 (.ret)) (.skip)))
 (.seq (.regd [⟨0,0,mt 19 0⟩,
  ⟨1,1,A1 20 (.nilc (.t 19))⟩,
  ⟨2,3,A1 21 (.fadr 0 (.t 20))⟩,
  ⟨3,7,A1 22 (.load true 32 (.t 21))⟩,
  ⟨4,0,mt 23 1⟩,
  ⟨5,0,A1 24 (.load true 2 (.t 7))⟩,
  ⟨6,0,mt 25 2⟩,
  ⟨7,127,kl 26 52 [(.t 22),(.t 23),(.t 24),(.t 25)]⟩,
  ⟨8,255,mt 18 26⟩,
  ⟨9,511,A1 27 (.ext (.t 18) 0)⟩,
  ⟨11,0,A1 9 (.alloc (.ar 32 (.int .u8)))⟩,
  ⟨12,2047,A0 (.store 32 (.t 9) (.t 27))⟩,
  ⟨10,511,A1 28 (.ext (.t 18) 1)⟩,
  ⟨13,8191,mt 8 28⟩])
 (.seq (sr [mt 29 8,
  A1 30 (.eq false true (.iface [74]) (.t 29) (.c .nili))]
 (.cond (.t 30) (.reg [mt 31 0,
  A1 32 (.load true 32 (.t 9)),
  A1 33 (.nilc (.t 31)),
  A1 34 (.fadr 0 (.t 33)),
  A0 (.store 32 (.t 34) (.t 32))]) (.skip)))
 (sr [mt 35 8,
  mt 6 35]
 (.ret)))))))
def T1:LF:=⟨Vu,3,0,36,[.tmp 6]⟩
def Aet:LC:=(sr [A1 2 (.alloc (.st (.cons (.int .u64) (.cons .slice .nil)))),
 mn 3]
 (.seq (sr [mt 5 0,
  A1 6 (.nilc (.t 5)),
  A1 7 (.fadr 32 (.t 6)),
  A1 8 (.load false 1 (.t 7)),
  A1 9 (.len 0 (.t 8)),
  A1 10 (.ari .eql (.t 9) (cI 0))]
 (.cond (.t 10) (sr [A1 11 (.build (.st (.cons (.int .u64) (.cons .slice .nil))) []),
  A1 12 (.mkif 74 (cI 3)),
  A0 (.store 2 (.t 2) (.t 11)),
  mt 3 12]
 (.ret)) (.skip)))
 (sr [mt 13 0,
  A1 14 (.nilc (.t 13)),
  A1 15 (.fadr 32 (.t 14)),
  A1 16 (.load false 1 (.t 15)),
  A1 17 (.isl 2 (.t 16) (cI 0)),
  A1 18 (.load true 2 (.t 17)),
  A1 4 (.alloc (.st (.cons (.int .u64) (.cons .slice .nil)))),
  A0 (.store 2 (.t 4) (.t 18))]
 (sr [mt 19 0,
  mt 20 0,
  A1 21 (.nilc (.t 20)),
  A1 22 (.fadr 32 (.t 21)),
  A1 23 (.load false 1 (.t 22)),
  A1 24 (.slsl 2 (.t 23) (some (cI 1)) none),
  A1 25 (.nilc (.t 19)),
  A1 26 (.fadr 32 (.t 25)),
  A0 (.store 1 (.t 26) (.t 24))]
 (sr [A1 27 (.load true 2 (.t 4)),
  A0 (.store 2 (.t 2) (.t 27)),
  mn 3]
 (.ret))))))
def Aco:LF:=⟨Aet,1,0,28,[.cell 2 true 2,.tmp 3]⟩
variable {M:Seat}
def Oh:=(aq4 @LZ @Aj6.eq_1 @Aiv.eq_1 @AU.eq_1)
structure Hd where
 g:Nat→BitVec 64
 pc:BitVec 64
 hl:Bool
 xt:BitVec 64
def Hd.v (h:Hd):V:=AU h.g h.pc h.hl h.xt
def Hd.stop (h:Hd) (x:BitVec 64):Hd:=⟨h.g,h.pc,true,x⟩
def isI (w:BitVec 64):Bool:=decide (AT w≤35∧w >>> 32 &&& 255#64=0#64)
def Vx (op:Nat) (h:Hd) (d a:Nat) (to:BitVec 64):Hd :=
 if (op=30∧¬ h.g a=0#64) ∨ (op=31∧h.g a=0#64) then ⟨h.g,h.pc + 1#64,h.hl,h.xt⟩
 else if 8192#64≤(if op=33 then h.g a else to) then h.stop Ap
 else ⟨if op=32 then E9 h.g d (h.pc + 1#64) else h.g,if op=33 then h.g a else to,h.hl,h.xt⟩
section
variable {σ:Type} (m:Mm σ)
def Jy (a:BitVec 64):Nat→Nat→σ→List (BitVec 64)→Option Int × σ × List (BitVec 64)
 | 0,_,s,l=>(none,s,l)
 | n + 1, i, s, l => match (m.rd s (a + BitVec.ofNat 64 i)).2.1 with
   | some e=>(some e,(m.rd s (a + BitVec.ofNat 64 i)).2.2,l)
   | none=>Jy a n (i + 1) (m.rd s (a + BitVec.ofNat 64 i)).2.2 (l ++ [(m.rd s (a + BitVec.ofNat 64 i)).1])
def Ph (a:BitVec 64) (f:Nat→BitVec 64):Nat→Nat→σ→Option Int × σ
 | 0,_,s=>(none,s)
 | n + 1, i, s => match (m.wr s (a + BitVec.ofNat 64 i) (f i)).1 with
   | some e=>(some e,(m.wr s (a + BitVec.ofNat 64 i) (f i)).2)
   | none=>Ph a f n (i + 1) (m.wr s (a + BitVec.ofNat 64 i) (f i)).2
def Vh (p:Nat→BitVec 8) (i:Nat):BitVec 64:=Jp (fun j=>p (8 * i + j)) 8
def CS (l:List (BitVec 64)):Nat→BitVec 8:=A6 fun j=>l.getD j 0#64
def GL (h:Hd) (s:σ) (to:BitVec 64) (t:Nat) (p:Nat→BitVec 8):Hd × Option Int × σ :=
 match Ph m to (Vh p) t 0 s with
 | (some e,s')=>(h,some e,s')
 | (none,s')=>(⟨h.g,h.pc + 1#64,h.hl,h.xt⟩,none,s')
def QC (h:Hd) (s:σ) (to:BitVec 64) (d:Dg):Hd × Option Int × σ :=
 match m.pi s d with
 | (_,some e,s')=>(h,some e,s')
 | (p,none,s')=>GL m h s' to 8 p.at
def MX (op:Nat) (h:Hd) (s:σ) (a b:BitVec 64):Hd × Option Int × σ :=
 if (wi a (if op=35 then 4#64 else 8#64) && wi b (if op=35 then 8#64 else 4#64))=false then (h.stop Ap,none,s)
 else match Jy m a (if op=35 then 4 else 8) 0 s [] with
  | (some e,s',_)=>(h,some e,s')
  | (none, s', l) =>
    if op=34 then GL m h s' b 4 (B9 (Pr.mk' (CS l)).at).at
    else QC m h s' b (Dg.mk' (CS l))
def Of (h:Hd) (w:BitVec 64) (s:σ):Hd × Option Int × σ :=
 if isI w=false then (h.stop Ap,none,s)
 else if AT w=0 then (h.stop (h.g (pF w 48)),none,s)
 else if AT w < 26 then (⟨E9 h.g (pF w 52) (P1 (AT w) (h.g (pF w 48)) (h.g (pF w 44)) (h.g (pF w 40))),h.pc + 1#64,h.hl,h.xt⟩,none,s)
 else if AT w=26 then (⟨E9 h.g (pF w 52) (BitVec.ofInt 64 (pN w)),h.pc + 1#64,h.hl,h.xt⟩,none,s)
 else if AT w=27 ∨ AT w=28 then
  if 8192#64≤h.g (pF w 48) + BitVec.ofInt 64 (pN w) then (h.stop Ap,none,s)
  else if AT w=27 then (⟨E9 h.g (pF w 52) (m.rd s (h.g (pF w 48) + BitVec.ofInt 64 (pN w))).1,h.pc + 1#64,h.hl,h.xt⟩,(m.rd s (h.g (pF w 48) + BitVec.ofInt 64 (pN w))).2)
  else (⟨h.g,h.pc + 1#64,h.hl,h.xt⟩,m.wr s (h.g (pF w 48) + BitVec.ofInt 64 (pN w)) (h.g (pF w 44)))
 else if AT w < 34 then (Vx (AT w) h (pF w 52) (pF w 48) (BitVec.ofInt 64 (pN w)),none,s)
 else MX m (AT w) h s (h.g (pF w 48)) (h.g (pF w 44))
def nx (h:Hd) (s:σ):Hd × Option Int × σ :=
 match (m.rd s h.pc).2.1 with
 | some e=>(h,some e,(m.rd s h.pc).2.2)
 | none=>Of m h (m.rd s h.pc).1 (m.rd s h.pc).2.2
end
structure OkNx (M:Seat):Prop where
 k241:Al M 241 Aiv=true
 k346:Al M 346 Aeo=true
 k347:Al M 347 Ahp=true
 k348:Al M 348 PS=true
 k448:Al M 448 Acq=true
theorem Bs (ok:OkNx M) (g:Nat→BitVec 64) (pc:BitVec 64) (hl:Bool) (xt e:BitVec 64) :
 Af M 346 [AU g pc hl xt,W e] [] 0 (Q3 (AU g pc true e) [] 0):=by
 refine Ac ok.k346 rfl fun x hx=>?_
 refine es 2000 ?_;(simp only [Aeo,Alc,G4,seval])
 have zz:=@AU.eq_1;exact Bg hx [] ⟨rfl,rfl,rfl⟩
theorem Bh (ok:OkNx M) (a b:BitVec 64) :
 Af M 448 [W a,W b] [] 0 (Q3 (.bool (wi a b)) [] 0):=by
 refine Ac ok.k448 rfl fun x hx=>?_
 unfold wi
 by_cases h1:a≤8192#64
 ·refine es 2000 ?_;(simp only [Acq,Af6,h1,LZ,seval])
  have zz:=h1;exact Bg hx [] ⟨rfl,rfl,rfl⟩
 ·refine es 2000 ?_;(simp only [Acq,Af6,h1,LZ,seval])
  have zz:=h1;exact Bg hx [] ⟨rfl,rfl,rfl⟩
theorem P5 (ok:OkNx M) (op:Nat) (ho:op=29 ∨ op=30 ∨ op=31 ∨ op=32 ∨ op=33) (g:Nat→BitVec 64) (pc:BitVec 64) (hl:Bool) (xt:BitVec 64) (d a:Nat) (hd:d < 16) (ha:a < 16) (to:BitVec 64) :
 Af M 347 [AU g pc hl xt,.int .i64 op,.int .i64 d,.int .i64 a,W to] [] 0 (Q3 ((Vx op ⟨g,pc,hl,xt⟩ d a to).v) [] 0):=by
 refine Ac ok.k347 rfl fun x hx=>?_
 by_cases h0:g a=0#64 <;> by_cases h1:8192#64≤to <;> by_cases h2:8192#64≤g a <;> rcases ho with rfl | rfl | rfl | rfl | rfl
 all_goals simp only [Vx,h0,h1,h2,seval,Vj,true_and,false_and,or_false,not_false_eq_true,false_or,Hd.v,Hd.stop]
 all_goals refine es 2000 ?_;(simp only [Ahp,Aj4,AU,h0,h1,h2,Lbp,seval])
 all_goals repeat refine sd ?_
 all_goals try ((have zz:=aq2 @AU.eq_1 Og;exact Bg hx [] ⟨rfl,rfl,rfl⟩))
 all_goals
  have zz:=@AU.eq_1;refine CI (Bs ok g pc hl xt Ap) ?_
  (simp only [G4,seval])
  have zz:=aq2 @AU.eq_1 Og;exact Bg hx [] ⟨rfl,rfl,rfl⟩
end Mv
