/- A part. -/
import Derived.Test.YtncipgmjhaiagaaGreatDoorEN
set_option linter.all false
namespace Mv
open Go
def c49:LC:=(sr [A1 2 (.mv (.c .nilp))]
 (.seq (sr [mt 4 0,
  A1 5 (.eq false true .ptr (.t 4) (.c .nilp))]
 (.cond (.t 5) (sr [A1 2 (.mv (.c .nilp))]
 (.ret)) (.skip)))
 (sr [mt 6 0,
  A1 7 (.nilc (.t 6)),
  A1 8 (.load true 8211 (.t 7)),
  A1 3 (.alloc (.st (.cons (.ar 8192 (.int .u64)) (.cons (.ar 16 (.int .u64)) (.cons (.int .u64) (.cons .bool (.cons (.int .u64) .nil))))))),
  A0 (.store 8211 (.t 3) (.t 8))]
 (sr [mt 2 3]
 (.ret)))))
def f49:LF:=⟨c49,1,0,9,[.tmp 2]⟩
def c50:LC:=(sr [A1 4 (.alloc (.st (.cons (.int .u64) (.cons .slice .nil)))),
 mn 5]
 (.seq (.block 0 (sr [mt 9 0,
  A1 10 (.eq false true .ptr (.t 9) (.c .nilp)),
  mt 8 10]
 (.cond (.t 8) (sr [A1 11 (.build (.st (.cons (.int .u64) (.cons .slice .nil))) []),
  A1 12 (.mkif 74 (cI 1)),
  A0 (.store 2 (.t 4) (.t 11)),
  mt 5 12]
 (.ret)) (sr [mt 14 1,
  A1 15 (.ari .geq (.t 14) (cU 8192)),
  mt 13 15]
 (.cond (.t 13) (sr [A1 16 (.build (.st (.cons (.int .u64) (.cons .slice .nil))) []),
  A1 17 (.mkif 74 (cI 2)),
  A0 (.store 2 (.t 4) (.t 16)),
  mt 5 17]
 (.ret)) (.skip))))))
 (sr [mt 19 0,
  kl 20 199 [(.t 19)],
  mt 21 1,
  A1 22 (.conv .i64 (.t 21)),
  kl 23 198 [(cI 13),(.t 20),(.t 22)],
  mt 18 23,
  A1 24 (.ext (.t 18) 0),
  A1 25 (.ext (.t 18) 1),
  mt 6 24,
  mt 7 25]
 (sr [mt 26 0,
  mt 27 1,
  A1 28 (.nilc (.t 26)),
  A1 29 (.fadr 0 (.t 28)),
  A1 30 (.iarr 8192 1 (.t 29) (.t 27)),
  A1 31 (.load false 1 (.t 30)),
  mt 32 6,
  A1 33 (.build (.st (.cons (.int .u64) (.cons .slice .nil))) [(.f 0,1,(.t 31)),(.f 1,1,(.t 32))]),
  mt 34 7,
  A0 (.store 2 (.t 4) (.t 33)),
  mt 5 34]
 (.ret)))))
def f50:LF:=⟨c50,2,0,35,[.cell 4 true 2,.tmp 5]⟩
def c51:LC:=(sr [A1 2 (.alloc (.ar 32 (.int .u8))),
 mn 3]
 (.seq (sr [mt 4 0,
  A1 5 (.eq false true .ptr (.t 4) (.c .nilp))]
 (.cond (.t 5) (sr [A1 6 (.build (.ar 32 (.int .u8)) []),
  A1 7 (.mkif 74 (cI 1)),
  A0 (.store 32 (.t 2) (.t 6)),
  mt 3 7]
 (.ret)) (.skip)))
 (sr [mt 8 0,
  kl 9 199 [(.t 8)],
  kl 10 200 [(cI 13),(.t 9)],
  A1 11 (.ext (.t 10) 0),
  A1 12 (.ext (.t 10) 1),
  A0 (.store 32 (.t 2) (.t 11)),
  mt 3 12]
 (.ret))))
def f51:LF:=⟨c51,1,0,13,[.cell 2 true 32,.tmp 3]⟩
def c52:LC:=(sr [A1 4 (.box (.t 0)),
 A1 6 (.box (.t 2)),
 A1 8 (.alloc (.ar 32 (.int .u8))),
 mn 9]
 (sr [A1 13 (.load true 32 (.t 4)),
  mt 14 1,
  A1 15 (.load true 2 (.t 6)),
  kl 16 53 [(.t 13),(.t 14),(.t 15)],
  mt 12 16,
  A1 17 (.ext (.t 12) 0),
  A1 18 (.ext (.t 12) 1),
  mt 10 17,
  mt 11 18]
 (.seq (.block 0 (sr [mt 20 11,
  A1 21 (.eq true true (.iface [74]) (.t 20) (.c .nili)),
  mt 19 21]
 (.cond (.t 19) (sr [A1 22 (.build (.ar 32 (.int .u8)) []),
  mt 23 11,
  A0 (.store 32 (.t 8) (.t 22)),
  mt 9 23]
 (.ret)) (sr [mt 25 10,
  A1 26 (.un .not (.t 25)),
  mt 24 26]
 (.cond (.t 24) (sr [A1 27 (.build (.ar 32 (.int .u8)) []),
  A1 28 (.mkif 74 (cI 31)),
  A0 (.store 32 (.t 8) (.t 27)),
  mt 9 28]
 (.ret)) (.skip))))))
 (.seq (.regd [⟨2,0,mt 31 3⟩,
  ⟨3,1,kl 32 202 [(.t 31)]⟩,
  ⟨0,0,mt 29 1⟩,
  ⟨1,4,A1 30 (.conv .i64 (.t 29))⟩,
  ⟨4,0,A1 33 (.fadr 1 (.t 6))⟩,
  ⟨5,16,A1 34 (.load false 1 (.t 33))⟩,
  ⟨6,63,kl 35 201 [(.t 30),(.t 32),(.t 34)]⟩,
  ⟨7,127,A1 36 (.ext (.t 35) 0)⟩,
  ⟨8,127,A1 37 (.ext (.t 35) 1)⟩,
  ⟨9,511,A0 (.store 32 (.t 8) (.t 36))⟩,
  ⟨10,1023,mt 9 37⟩])
 (.ret)))))
def f52:LF:=⟨c52,4,0,38,[.cell 8 true 32,.tmp 9]⟩
def c53:LC:=(sr [A1 3 (.box (.t 0)),
 A1 5 (.box (.t 2)),
 A1 6 (.mv (.c (.bool false))),
 mn 7]
 (.seq (.block 0 (sr [mt 11 1,
  A1 12 (.ari .geq (.t 11) (cU 8192)),
  mt 10 12]
 (.cond (.t 10) (sr [A1 13 (.mkif 74 (cI 2)),
  A1 6 (.mv (.c (.bool false))),
  mt 7 13]
 (.ret)) (sr [A1 15 (.fadr 1 (.t 5)),
  A1 16 (.load false 1 (.t 15)),
  A1 17 (.len 0 (.t 16)),
  A1 18 (.ari .neq (.t 17) (cI 13)),
  mt 14 18]
 (.cond (.t 14) (sr [A1 19 (.mkif 74 (cI 3)),
  A1 6 (.mv (.c (.bool false))),
  mt 7 19]
 (.ret)) (.skip))))))
 (.seq (.regd [⟨2,0,A1 23 (.fadr 0 (.t 5))⟩,
  ⟨3,1,A1 24 (.load false 1 (.t 23))⟩,
  ⟨4,3,kl 25 202 [(.t 24)]⟩,
  ⟨0,0,mt 21 1⟩,
  ⟨1,8,A1 22 (.conv .i64 (.t 21))⟩,
  ⟨5,0,A1 26 (.fadr 1 (.t 5))⟩,
  ⟨6,32,A1 27 (.load false 1 (.t 26))⟩,
  ⟨7,127,kl 28 201 [(.t 22),(.t 25),(.t 27)]⟩,
  ⟨8,255,mt 20 28⟩,
  ⟨9,511,A1 29 (.ext (.t 20) 0)⟩,
  ⟨11,0,A1 8 (.alloc (.ar 32 (.int .u8)))⟩,
  ⟨12,2047,A0 (.store 32 (.t 8) (.t 29))⟩,
  ⟨10,511,A1 30 (.ext (.t 20) 1)⟩,
  ⟨13,8191,mt 9 30⟩])
 (sr [A1 31 (.load true 32 (.t 8)),
  A1 32 (.load true 32 (.t 3)),
  A1 33 (.eq false false (.ar 32 1 false .int) (.t 31) (.t 32)),
  mt 34 33,
  A2 35 34 true (.mv (.t 9)),
  A2 36 34 true (.eq false true (.iface [74]) (.t 35) (.c .nili)),
  A1 37 (.pick (.t 34) (.t 36) (.c (.bool false))),
  mt 38 9,
  mt 6 37,
  mt 7 38]
 (.ret)))))
def f53:LF:=⟨c53,3,0,39,[.tmp 6,.tmp 7]⟩
def c74:LC:=(sr [A1 2 (.mv (.c .nilp)),
 mn 3]
 (.seq (sr [mt 5 0,
  A1 6 (.len 0 (.t 5)),
  A1 7 (.ari .gtr (.t 6) (cI 8192))]
 (.cond (.t 7) (sr [A1 8 (.mkif 74 (cI 5)),
  A1 2 (.mv (.c .nilp)),
  mt 3 8]
 (.ret)) (.skip)))
 (sr [A1 9 (.build (.st (.cons (.ar 8192 (.int .u64)) (.cons (.ar 16 (.int .u64)) (.cons (.int .u64) (.cons .bool (.cons (.int .u64) .nil)))))) []),
  A1 10 (.box (.t 9)),
  mt 4 10]
 (sr [mt 11 4,
  A1 12 (.nilc (.t 11)),
  A1 13 (.fadr 0 (.t 12)),
  A1 14 (.slarr 8192 1 (.t 13) none none),
  mt 15 0,
  A1 16 (.copy 1 (.t 14) (.t 15))]
 (sr [mt 17 4,
  mt 2 17,
  mn 3]
 (.ret))))))
def f74:LF:=⟨c74,1,0,18,[.tmp 2,.tmp 3]⟩
def Aem:LC:=(sr [A1 2 (.mv (.c .nilp))]
 (.seq (.regd [⟨0,0,A1 4 (.mksl 1 8 (.int .u64) (cI 8192) (cI 8192))⟩,
  ⟨1,0,A1 5 (.mksl 1 8 (.int .u64) (cI 16) (cI 16))⟩,
  ⟨2,3,A1 6 (.build (.st (.cons .slice (.cons .slice (.cons (.int .u64) (.cons .bool (.cons (.int .u64) .nil)))))) [(.f 0,1,(.t 4)),(.f 1,1,(.t 5))])⟩,
  ⟨3,7,A1 7 (.box (.t 6))⟩,
  ⟨4,15,mt 3 7⟩])
 (sr [mt 8 3,
  A1 9 (.nilc (.t 8)),
  A1 10 (.fadr 0 (.t 9)),
  A1 11 (.load false 1 (.t 10)),
  mt 12 0,
  A1 13 (.copy 1 (.t 11) (.t 12))]
 (sr [mt 14 3,
  mt 2 14]
 (.ret)))))
def Qz:LF:=⟨Aem,1,0,15,[.tmp 2]⟩
def Akr:LC:=(sr [A1 2 (.alloc (.ar 32 (.int .u8))),
 mn 3]
 (.seq (sr [mt 4 0,
  A1 5 (.ari .lss (.t 4) (cI 0)),
  mt 6 5,
  A2 7 6 false (.mv (.t 0)),
  A2 8 6 false (.ari .gtr (.t 7) (cI 16)),
  A1 9 (.pick (.t 6) (.c (.bool true)) (.t 8))]
 (.cond (.t 9) (sr [A1 10 (.build (.ar 32 (.int .u8)) []),
  A1 11 (.mkif 74 (cI 2)),
  A0 (.store 32 (.t 2) (.t 10)),
  mt 3 11]
 (.ret)) (.skip)))
 (sr [kl 12 315 [],
  mt 13 0,
  A1 14 (.idx 17 32 true (.t 12) (.t 13)),
  A0 (.store 32 (.t 2) (.t 14)),
  mn 3]
 (.ret))))
def Ai5:LF:=⟨Akr,1,0,15,[.cell 2 true 32,.tmp 3]⟩
def Ajp:LC:=(sr [A1 6 (.mv (.c .nils)),
 mn 7]
 (sr [mt 16 0,
  mt 17 1,
  kl 18 316 [(.t 16),(.t 17)],
  mt 15 18,
  A1 19 (.ext (.t 15) 0),
  A1 20 (.ext (.t 15) 1),
  A1 21 (.ext (.t 15) 2),
  A1 9 (.alloc (.ar 17 (.ar 32 (.int .u8)))),
  mt 8 19,
  A0 (.store 544 (.t 9) (.t 20)),
  mt 10 21]
 (.seq (sr [mt 22 10,
  A1 23 (.eq true true (.iface [74]) (.t 22) (.c .nili))]
 (.cond (.t 23) (sr [mt 24 10,
  A1 6 (.mv (.c .nils)),
  mt 7 24]
 (.ret)) (.skip)))
 (.seq (sr [mt 25 2,
  A1 26 (.ari .lss (.t 25) (cI 0)),
  mt 27 26,
  A2 28 27 false (.mv (.t 2)),
  A2 29 27 false (.mv (.t 0)),
  A2 30 27 false (.ari .shl (cI 1) (.t 29)),
  A2 31 27 false (.ari .geq (.t 28) (.t 30)),
  A1 32 (.pick (.t 27) (.c (.bool true)) (.t 31))]
 (.cond (.t 32) (sr [A1 33 (.mkif 74 (cI 2)),
  A1 6 (.mv (.c .nils)),
  mt 7 33]
 (.ret)) (.skip)))
 (sr [A1 11 (.mv (.c .nils))]
 (.seq (sr [mt 34 0,
  A1 35 (.mv (cI 0))]
 (.block 0 (.loop (sr [A1 36 (.ari .lss (.t 35) (.t 34))]
 (.seq (.cond (.t 36) (.skip) (.exit 0))
 (.seq (.block 1 (sr [mt 37 35,
  mt 12 37]
 (sr [mt 38 12,
  A1 39 (.iarr 17 32 (.t 9) (.t 38)),
  A1 40 (.load true 32 (.t 39)),
  A1 13 (.alloc (.ar 32 (.int .u8))),
  A0 (.store 32 (.t 13) (.t 40))]
 (.seq (sr [mt 41 2,
  A1 42 (.ari .xor (.t 41) (cI 1)),
  mt 14 42]
 (sr [mt 43 14,
  mt 44 8,
  mt 45 12,
  A1 46 (.isl 1 (.t 44) (.t 45)),
  A1 47 (.load false 1 (.t 46)),
  A1 48 (.len 0 (.t 47)),
  A1 49 (.ari .lss (.t 43) (.t 48))]
 (.cond (.t 49) (.reg [mt 50 8,
  mt 51 12,
  A1 52 (.isl 1 (.t 50) (.t 51)),
  A1 53 (.load false 1 (.t 52)),
  mt 54 14,
  A1 55 (.isl 32 (.t 53) (.t 54)),
  A1 56 (.load true 32 (.t 55)),
  A0 (.store 32 (.t 13) (.t 56))]) (.skip))))
 (sr [mt 57 11,
  A1 58 (.load true 32 (.t 13)),
  A1 59 (.bsl 32 1 (.ar 32 (.int .u8)) [(.i 32 0,32,(.t 58))]),
  A1 60 (.app 32 32 (.t 57) (.t 59)),
  mt 11 60]
 (.reg [mt 61 2,
  A1 62 (.ari .quo (.t 61) (cI 2)),
  mt 2 62]))))))
 (.reg [A1 63 (.ari .add (.t 35) (cI 1)),
  mt 35 63])))))))
 (sr [mt 64 11,
  mt 6 64,
  mn 7]
 (.ret))))))))
def Ae4:LF:=⟨Ajp,3,0,65,[.tmp 6,.tmp 7]⟩
def Akk:LC:=(sr [A1 4 (.alloc (.ar 32 (.int .u8))),
 mn 5]
 (sr [mt 10 0,
  mt 11 1,
  kl 12 316 [(.t 10),(.t 11)],
  mt 9 12,
  A1 13 (.ext (.t 9) 0),
  A1 14 (.ext (.t 9) 1),
  A1 15 (.ext (.t 9) 2),
  A1 7 (.alloc (.ar 17 (.ar 32 (.int .u8)))),
  mt 6 13,
  A0 (.store 544 (.t 7) (.t 14)),
  mt 8 15]
 (.seq (.block 0 (sr [mt 17 8,
  A1 18 (.eq true true (.iface [74]) (.t 17) (.c .nili)),
  mt 16 18]
 (.cond (.t 16) (sr [A1 19 (.build (.ar 32 (.int .u8)) []),
  mt 20 8,
  A0 (.store 32 (.t 4) (.t 19)),
  mt 5 20]
 (.ret)) (sr [mt 22 1,
  A1 23 (.len 0 (.t 22)),
  A1 24 (.ari .eql (.t 23) (cI 0)),
  mt 21 24]
 (.cond (.t 21) (sr [mt 25 0,
  A1 26 (.iarr 17 32 (.t 7) (.t 25)),
  A1 27 (.load true 32 (.t 26)),
  A0 (.store 32 (.t 4) (.t 27)),
  mn 5]
 (.ret)) (.skip))))))
 (sr [mt 28 6,
  mt 29 0,
  A1 30 (.isl 1 (.t 28) (.t 29)),
  A1 31 (.load false 1 (.t 30)),
  A1 32 (.isl 32 (.t 31) (cI 0)),
  A1 33 (.load true 32 (.t 32)),
  A0 (.store 32 (.t 4) (.t 33)),
  mn 5]
 (.ret)))))
def Ai6:LF:=⟨Akk,2,0,34,[.cell 4 true 32,.tmp 5]⟩
def Amf:LC:=(sr [A1 4 (.box (.t 1)),
 A1 6 (.alloc (.ar 32 (.int .u8))),
 mn 7]
 (.seq (sr [mt 10 2,
  A1 11 (.len 0 (.t 10)),
  A1 12 (.ari .gtr (.t 11) (cI 16)),
  mt 13 12,
  A2 14 13 false (.mv (.t 0)),
  A2 15 13 false (.ari .lss (.t 14) (cI 0)),
  A1 16 (.pick (.t 13) (.c (.bool true)) (.t 15)),
  mt 17 16,
  A2 18 17 false (.mv (.t 0)),
  A2 19 17 false (.mv (.t 2)),
  A2 20 17 false (.len 0 (.t 19)),
  A2 21 17 false (.ari .shl (cI 1) (.t 20)),
  A2 22 17 false (.ari .geq (.t 18) (.t 21)),
  A1 23 (.pick (.t 17) (.c (.bool true)) (.t 22))]
 (.cond (.t 23) (sr [A1 24 (.build (.ar 32 (.int .u8)) []),
  A1 25 (.mkif 74 (cI 2)),
  A0 (.store 32 (.t 6) (.t 24)),
  mt 7 25]
 (.ret)) (.skip)))
 (.seq (sr [mt 26 2,
  A1 27 (.len 0 (.t 26)),
  A1 28 (.mv (cI 0))]
 (.block 0 (.loop (sr [A1 29 (.ari .lss (.t 28) (.t 27))]
 (.seq (.cond (.t 29) (.skip) (.exit 0))
 (.seq (.block 1 (sr [A1 30 (.isl 32 (.t 26) (.t 28)),
  A1 31 (.load true 32 (.t 30)),
  A1 9 (.alloc (.ar 32 (.int .u8))),
  A0 (.store 32 (.t 9) (.t 31))]
 (.seq (sr [mt 32 0,
  A1 33 (.ari .rem (.t 32) (cI 2)),
  A1 34 (.ari .eql (.t 33) (cI 0))]
 (.cond (.t 34) (.reg [A1 35 (.load true 32 (.t 4)),
  A1 36 (.load true 32 (.t 9)),
  kl 37 207 [(.t 35),(.t 36)],
  A0 (.store 32 (.t 4) (.t 37))]) (.reg [A1 38 (.load true 32 (.t 9)),
  A1 39 (.load true 32 (.t 4)),
  kl 40 207 [(.t 38),(.t 39)],
  A0 (.store 32 (.t 4) (.t 40))])))
 (.reg [mt 41 0,
  A1 42 (.ari .quo (.t 41) (cI 2)),
  mt 0 42]))))
 (.reg [A1 43 (.ari .add (.t 28) (cI 1)),
  mt 28 43])))))))
 (sr [A1 44 (.load true 32 (.t 4)),
  A0 (.store 32 (.t 6) (.t 44)),
  mn 7]
 (.ret)))))
def Afc:LF:=⟨Amf,3,0,45,[.cell 6 true 32,.tmp 7]⟩
def Akm:LC:=(sr [A1 2 (.mv (.c .nils))]
 (sr [A1 3 (.mv (cI 8192))]
 (.seq (.block 0 (.loop (.seq (sr [mt 6 3,
  A1 7 (.ari .gtr (.t 6) (cI 0)),
  mt 8 7,
  A2 9 8 true (.mv (.t 0)),
  A2 10 8 true (.mv (.t 3)),
  A2 11 8 true (.ari .sub (.t 10) (cI 1)),
  A2 12 8 true (.nilc (.t 9)),
  A2 13 8 true (.fadr 0 (.t 12)),
  A2 14 8 true (.iarr 8192 1 (.t 13) (.t 11)),
  A2 15 8 true (.load false 1 (.t 14)),
  A2 16 8 true (.ari .eql (.t 15) (cU 0)),
  A1 17 (.pick (.t 8) (.t 16) (.c (.bool false)))]
 (.cond (.t 17) (.skip) (.exit 0)))
 (.block 1 (.reg [mt 18 3,
  A1 19 (.ari .sub (.t 18) (cI 1)),
  mt 3 19])))))
 (sr [mt 20 3,
  A1 21 (.mksl 32 32 (.ar 32 (.int .u8)) (.t 20) (.t 20)),
  mt 4 21]
 (.seq (sr [mt 22 4,
  A1 23 (.len 0 (.t 22)),
  A1 24 (.mv (cI 0))]
 (.block 2 (.loop (sr [A1 25 (.ari .lss (.t 24) (.t 23))]
 (.seq (.cond (.t 25) (.skip) (.exit 2))
 (.seq (.block 3 (sr [mt 26 24,
  mt 5 26]
 (.reg [mt 27 4,
  mt 28 5,
  mt 29 0,
  mt 30 5,
  A1 31 (.nilc (.t 29)),
  A1 32 (.fadr 0 (.t 31)),
  A1 33 (.iarr 8192 1 (.t 32) (.t 30)),
  A1 34 (.load false 1 (.t 33)),
  kl 35 202 [(.t 34)],
  A1 36 (.isl 32 (.t 27) (.t 28)),
  A0 (.store 32 (.t 36) (.t 35))])))
 (.reg [A1 37 (.ari .add (.t 24) (cI 1)),
  mt 24 37])))))))
 (sr [mt 38 4,
  mt 2 38]
 (.ret)))))))
def Ael:LF:=⟨Akm,1,0,39,[.tmp 2]⟩
def Ajo:LC:=(sr [A1 2 (.alloc (.ar 32 (.int .u8)))]
 (sr [A1 3 (.alloc (.ar 32 (.int .u8)))]
 (sr [A1 4 (.slarr 32 1 (.t 3) (some (cI 24)) none),
  mt 5 0,
  kl 6 312 [(.t 4),(.t 5)]]
 (sr [A1 7 (.load true 32 (.t 3)),
  A0 (.store 32 (.t 2) (.t 7))]
 (.ret)))))
def Ag5:LF:=⟨Ajo,1,0,8,[.cell 2 true 32]⟩
def Alv:LC:=(sr [A1 2 (.box (.t 0)),
 A1 3 (.box (.t 1)),
 A1 4 (.alloc (.ar 32 (.int .u8)))]
 (sr [A1 5 (.alloc (.ar 136 (.int .u8)))]
 (.seq (.regd [⟨0,0,A1 6 (.slarr 136 1 (.t 5) none none)⟩,
  ⟨1,0,A1 7 (.slarr 32 1 (.t 2) none none)⟩,
  ⟨2,3,A1 8 (.copy 1 (.t 6) (.t 7))⟩])
 (.seq (.regd [⟨0,0,A1 9 (.slarr 136 1 (.t 5) (some (cI 32)) none)⟩,
  ⟨1,0,A1 10 (.slarr 32 1 (.t 3) none none)⟩,
  ⟨2,3,A1 11 (.copy 1 (.t 9) (.t 10))⟩])
 (sr [A1 12 (.iarr 136 1 (.t 5) (cI 64)),
  A0 (.store 1 (.t 12) (.c (.int .u8 1))),
  A1 13 (.iarr 136 1 (.t 5) (cI 135)),
  A0 (.store 1 (.t 13) (.c (.int .u8 128)))]
 (sr [A1 14 (.build (.ar 25 (.int .u64)) []),
  A1 15 (.slarr 136 1 (.t 5) none none),
  kl 16 318 [(.t 14),(.t 15)],
  kl 17 317 [(.t 16)],
  A0 (.store 32 (.t 4) (.t 17))]
 (.ret)))))))
def Ah5:LF:=⟨Alv,2,0,18,[.cell 4 true 32]⟩
def Aj2:LC:=(sr [A1 0 (.alloc (.ar 17 (.ar 32 (.int .u8))))]
 (sr [A1 1 (.alloc (.ar 17 (.ar 32 (.int .u8))))]
 (.seq (sr [A1 2 (.mv (cI 1))]
 (.block 0 (.loop (.seq (sr [mt 3 2,
  A1 4 (.ari .leq (.t 3) (cI 16))]
 (.cond (.t 4) (.skip) (.exit 0)))
 (.seq (.block 1 (.regd [⟨1,0,mt 8 2⟩,
  ⟨2,1,A1 9 (.ari .sub (.t 8) (cI 1))⟩,
  ⟨3,3,A1 10 (.iarr 17 32 (.t 1) (.t 9))⟩,
  ⟨4,7,A1 11 (.load true 32 (.t 10))⟩,
  ⟨5,0,mt 12 2⟩,
  ⟨6,16,A1 13 (.ari .sub (.t 12) (cI 1))⟩,
  ⟨7,48,A1 14 (.iarr 17 32 (.t 1) (.t 13))⟩,
  ⟨8,112,A1 15 (.load true 32 (.t 14))⟩,
  ⟨9,255,kl 16 207 [(.t 11),(.t 15)]⟩,
  ⟨0,0,mt 7 2⟩,
  ⟨10,1023,A1 17 (.iarr 17 32 (.t 1) (.t 7))⟩,
  ⟨11,2047,A0 (.store 32 (.t 17) (.t 16))⟩]))
 (.reg [mt 5 2,
  A1 6 (.ari .add (.t 5) (cI 1)),
  mt 2 6]))))))
 (sr [A1 18 (.load true 544 (.t 1)),
  A0 (.store 544 (.t 0) (.t 18))]
 (.ret)))))
def Ahy:LF:=⟨Aj2,0,0,19,[.cell 0 true 544]⟩
def Akj:LC:=(sr [A1 4 (.mv (.c .nils)),
 A1 5 (.alloc (.ar 17 (.ar 32 (.int .u8)))),
 mn 6]
 (sr [kl 14 315 [],
  A1 7 (.alloc (.ar 17 (.ar 32 (.int .u8)))),
  A0 (.store 544 (.t 7) (.t 14))]
 (.seq (.block 0 (sr [mt 16 0,
  A1 17 (.ari .lss (.t 16) (cI 0)),
  mt 18 17,
  A2 19 18 false (.mv (.t 0)),
  A2 20 18 false (.ari .gtr (.t 19) (cI 16)),
  A1 21 (.pick (.t 18) (.c (.bool true)) (.t 20)),
  mt 15 21]
 (.cond (.t 15) (.seq (.regd [⟨0,0,A1 22 (.load true 544 (.t 7))⟩,
  ⟨2,0,A1 4 (.mv (.c .nils))⟩,
  ⟨3,3,A0 (.store 544 (.t 5) (.t 22))⟩,
  ⟨1,0,A1 23 (.mkif 74 (cI 2))⟩,
  ⟨4,15,mt 6 23⟩])
 (.ret)) (sr [mt 25 1,
  A1 26 (.len 0 (.t 25)),
  mt 27 0,
  A1 28 (.ari .shl (cI 1) (.t 27)),
  A1 29 (.ari .gtr (.t 26) (.t 28)),
  mt 24 29]
 (.cond (.t 24) (.seq (.regd [⟨0,0,A1 30 (.load true 544 (.t 7))⟩,
  ⟨2,0,A1 4 (.mv (.c .nils))⟩,
  ⟨3,3,A0 (.store 544 (.t 5) (.t 30))⟩,
  ⟨1,0,A1 31 (.mkif 74 (cI 5))⟩,
  ⟨4,15,mt 6 31⟩])
 (.ret)) (.skip))))))
 (sr [mt 32 1,
  A1 33 (.bsl 1 1 .slice [(.i 1 0,1,(.t 32))]),
  mt 8 33]
 (.seq (sr [mt 34 0,
  A1 35 (.mv (cI 0))]
 (.block 1 (.loop (sr [A1 36 (.ari .lss (.t 35) (.t 34))]
 (.seq (.cond (.t 36) (.skip) (.exit 1))
 (.seq (.block 2 (sr [mt 37 35,
  mt 9 37]
 (sr [A1 10 (.mv (.c .nils))]
 (sr [mt 38 8,
  mt 39 9,
  A1 40 (.isl 1 (.t 38) (.t 39)),
  A1 41 (.load false 1 (.t 40)),
  mt 11 41]
 (.seq (sr [A1 12 (.mv (cI 0))]
 (.block 3 (.loop (.seq (sr [mt 42 12,
  mt 43 11,
  A1 44 (.len 0 (.t 43)),
  A1 45 (.ari .lss (.t 42) (.t 44))]
 (.cond (.t 45) (.skip) (.exit 3)))
 (.seq (.block 4 (sr [mt 48 9,
  A1 49 (.iarr 17 32 (.t 7) (.t 48)),
  A1 50 (.load true 32 (.t 49)),
  A1 13 (.alloc (.ar 32 (.int .u8))),
  A0 (.store 32 (.t 13) (.t 50))]
 (.seq (sr [mt 51 12,
  A1 52 (.ari .add (.t 51) (cI 1)),
  mt 53 11,
  A1 54 (.len 0 (.t 53)),
  A1 55 (.ari .lss (.t 52) (.t 54))]
 (.cond (.t 55) (.reg [mt 56 11,
  mt 57 12,
  A1 58 (.ari .add (.t 57) (cI 1)),
  A1 59 (.isl 32 (.t 56) (.t 58)),
  A1 60 (.load true 32 (.t 59)),
  A0 (.store 32 (.t 13) (.t 60))]) (.skip)))
 (.seq (.regd [⟨0,0,mt 61 11⟩,
  ⟨1,0,mt 62 12⟩,
  ⟨2,3,A1 63 (.isl 32 (.t 61) (.t 62))⟩,
  ⟨3,7,A1 64 (.load true 32 (.t 63))⟩,
  ⟨4,0,mt 65 9⟩,
  ⟨5,16,A1 66 (.iarr 17 32 (.t 7) (.t 65))⟩,
  ⟨6,48,A1 67 (.load true 32 (.t 66))⟩,
  ⟨7,127,A1 68 (.eq false false (.ar 32 1 false .int) (.t 64) (.t 67))⟩,
  ⟨8,255,mt 69 68⟩,
  ⟨9,511,A2 70 69 true (.load true 32 (.t 13))⟩,
  ⟨10,511,A2 71 69 true (.mv (.t 9))⟩,
  ⟨11,1535,A2 72 69 true (.iarr 17 32 (.t 7) (.t 71))⟩,
  ⟨12,3583,A2 73 69 true (.load true 32 (.t 72))⟩,
  ⟨13,8191,A2 74 69 true (.eq false false (.ar 32 1 false .int) (.t 70) (.t 73))⟩,
  ⟨14,16383,A1 75 (.pick (.t 69) (.t 74) (.c (.bool false)))⟩])
 (.cond (.t 75) (.reg [mt 76 10,
  mt 77 9,
  A1 78 (.ari .add (.t 77) (cI 1)),
  A1 79 (.iarr 17 32 (.t 7) (.t 78)),
  A1 80 (.load true 32 (.t 79)),
  A1 81 (.bsl 32 1 (.ar 32 (.int .u8)) [(.i 32 0,32,(.t 80))]),
  A1 82 (.app 32 32 (.t 76) (.t 81)),
  mt 10 82]) (.regd [⟨1,0,mt 84 11⟩,
  ⟨2,0,mt 85 12⟩,
  ⟨3,3,A1 86 (.isl 32 (.t 84) (.t 85))⟩,
  ⟨4,7,A1 87 (.load true 32 (.t 86))⟩,
  ⟨5,0,A1 88 (.load true 32 (.t 13))⟩,
  ⟨6,31,kl 89 207 [(.t 87),(.t 88)]⟩,
  ⟨0,0,mt 83 10⟩,
  ⟨7,63,A1 90 (.bsl 32 1 (.ar 32 (.int .u8)) [(.i 32 0,32,(.t 89))])⟩,
  ⟨8,255,A1 91 (.app 32 32 (.t 83) (.t 90))⟩,
  ⟨9,511,mt 10 91⟩]))))))
 (.reg [mt 46 12,
  A1 47 (.ari .add (.t 46) (cI 2)),
  mt 12 47]))))))
 (.reg [mt 92 8,
  mt 93 10,
  A1 94 (.bsl 1 1 .slice [(.i 1 0,1,(.t 93))]),
  A1 95 (.app 1 24 (.t 92) (.t 94)),
  mt 8 95]))))))
 (.reg [A1 96 (.ari .add (.t 35) (cI 1)),
  mt 35 96])))))))
 (.seq (.regd [⟨0,0,mt 97 8⟩,
  ⟨1,0,A1 98 (.load true 544 (.t 7))⟩,
  ⟨2,1,mt 4 97⟩,
  ⟨3,7,A0 (.store 544 (.t 5) (.t 98))⟩,
  ⟨4,15,mn 6⟩])
 (.ret)))))))
def Aee:LF:=⟨Akj,2,0,99,[.tmp 4,.cell 5 true 544,.tmp 6]⟩
def Aks:LC:=(sr [A1 1 (.box (.t 0)),
 A1 2 (.alloc (.ar 32 (.int .u8)))]
 (sr [A1 3 (.alloc (.ar 32 (.int .u8)))]
 (.seq (sr [A1 5 (.mv (cI 0))]
 (.block 0 (.loop (sr [A1 6 (.ari .lss (.t 5) (cI 32))]
 (.seq (.cond (.t 6) (.skip) (.exit 0))
 (.seq (.block 1 (sr [mt 7 5,
  mt 4 7]
 (.reg [mt 8 4,
  mt 9 4,
  A1 10 (.ari .quo (.t 9) (cI 8)),
  A1 11 (.iarr 25 1 (.t 1) (.t 10)),
  A1 12 (.load false 1 (.t 11)),
  mt 13 4,
  A1 14 (.ari .rem (.t 13) (cI 8)),
  A1 15 (.ari .mul (cI 8) (.t 14)),
  A1 16 (.ari .shr (.t 12) (.t 15)),
  A1 17 (.conv .u8 (.t 16)),
  A1 18 (.iarr 32 1 (.t 3) (.t 8)),
  A0 (.store 1 (.t 18) (.t 17))])))
 (.reg [A1 19 (.ari .add (.t 5) (cI 1)),
  mt 5 19])))))))
 (sr [A1 20 (.load true 32 (.t 3)),
  A0 (.store 32 (.t 2) (.t 20))]
 (.ret)))))
def Afs:LF:=⟨Aks,1,0,21,[.cell 2 true 32]⟩
def Al0:LC:=(sr [A1 2 (.box (.t 0)),
 A1 4 (.alloc (.ar 25 (.int .u64)))]
 (.seq (sr [A1 8 (.mv (cI 0))]
 (.block 0 (.loop (sr [A1 9 (.ari .lss (.t 8) (cI 17))]
 (.seq (.cond (.t 9) (.skip) (.exit 0))
 (.seq (.block 1 (sr [mt 10 8,
  mt 5 10]
 (sr [mt 11 1,
  mt 12 5,
  A1 13 (.ari .mul (cI 8) (.t 12)),
  mt 14 5,
  A1 15 (.ari .mul (cI 8) (.t 14)),
  A1 16 (.ari .add (.t 15) (cI 8)),
  A1 17 (.slsl 1 (.t 11) (some (.t 13)) (some (.t 16))),
  A1 18 (.len 0 (.t 17)),
  A1 19 (.mv (cI 0))]
 (.block 2 (.loop (sr [A1 20 (.ari .lss (.t 19) (.t 18))]
 (.seq (.cond (.t 20) (.skip) (.exit 2))
 (.seq (.block 3 (sr [mt 21 19,
  A1 22 (.isl 1 (.t 17) (.t 19)),
  A1 23 (.load false 1 (.t 22)),
  mt 6 21,
  mt 7 23]
 (.regd [⟨0,0,mt 24 5⟩,
  ⟨1,1,A1 25 (.iarr 25 1 (.t 2) (.t 24))⟩,
  ⟨2,3,A1 26 (.load false 1 (.t 25))⟩,
  ⟨3,0,mt 27 7⟩,
  ⟨4,8,A1 28 (.conv .u64 (.t 27))⟩,
  ⟨5,0,mt 29 6⟩,
  ⟨6,32,A1 30 (.ari .mul (cI 8) (.t 29))⟩,
  ⟨7,120,A1 31 (.ari .shl (.t 28) (.t 30))⟩,
  ⟨8,255,A1 32 (.ari .xor (.t 26) (.t 31))⟩,
  ⟨9,511,A1 33 (.iarr 25 1 (.t 2) (.t 24))⟩,
  ⟨10,1023,A0 (.store 1 (.t 33) (.t 32))⟩])))
 (.reg [A1 34 (.ari .add (.t 19) (cI 1)),
  mt 19 34])))))))))
 (.reg [A1 35 (.ari .add (.t 8) (cI 1)),
  mt 8 35])))))))
 (sr [A1 36 (.load true 25 (.t 2)),
  kl 37 417 [(.t 36)],
  A0 (.store 25 (.t 4) (.t 37))]
 (.ret))))
def Afi:LF:=⟨Al0,2,0,38,[.cell 4 true 25]⟩
def Aly:LC:=(sr [A1 5 (.mv (cI 0))]
 (.block 0 (.loop (sr [A1 6 (.ari .lss (.t 5) (cI 8))]
 (.seq (.cond (.t 6) (.skip) (.exit 0))
 (.seq (.block 1 (sr [mt 7 5,
  mt 4 7]
 (.reg [mt 8 0,
  mt 9 4,
  mt 10 1,
  mt 11 4,
  A1 12 (.ari .mul (cI 8) (.t 11)),
  A1 13 (.ari .sub (cI 56) (.t 12)),
  A1 14 (.ari .shr (.t 10) (.t 13)),
  A1 15 (.conv .u8 (.t 14)),
  A1 16 (.isl 1 (.t 8) (.t 9)),
  A0 (.store 1 (.t 16) (.t 15))])))
 (.reg [A1 17 (.ari .add (.t 5) (cI 1)),
  mt 5 17])))))))
def UJ:LF:=⟨Aly,2,0,18,[]⟩
def Akc:LC:=(sr [A1 1 (.box (.t 0)),
 A1 2 (.alloc (.ar 25 (.int .u64)))]
 (.seq (sr [A1 27 (.load true 24 (.g 1)),
  A1 28 (.mv (cI 0))]
 (.block 0 (.loop (sr [A1 29 (.ari .lss (.t 28) (cI 24))]
 (.seq (.cond (.t 29) (.skip) (.exit 0))
 (.seq (.block 1 (sr [A1 30 (.idx 24 1 false (.t 27) (.t 28)),
  mt 4 30]
 (.seq (.regd [⟨0,0,A1 31 (.iarr 25 1 (.t 1) (cI 0))⟩,
  ⟨1,1,A1 32 (.load false 1 (.t 31))⟩,
  ⟨2,0,A1 33 (.iarr 25 1 (.t 1) (cI 5))⟩,
  ⟨3,4,A1 34 (.load false 1 (.t 33))⟩,
  ⟨4,15,A1 35 (.ari .xor (.t 32) (.t 34))⟩,
  ⟨5,0,A1 36 (.iarr 25 1 (.t 1) (cI 10))⟩,
  ⟨6,32,A1 37 (.load false 1 (.t 36))⟩,
  ⟨7,127,A1 38 (.ari .xor (.t 35) (.t 37))⟩,
  ⟨8,0,A1 39 (.iarr 25 1 (.t 1) (cI 15))⟩,
  ⟨9,256,A1 40 (.load false 1 (.t 39))⟩,
  ⟨10,1023,A1 41 (.ari .xor (.t 38) (.t 40))⟩,
  ⟨11,0,A1 42 (.iarr 25 1 (.t 1) (cI 20))⟩,
  ⟨12,2048,A1 43 (.load false 1 (.t 42))⟩,
  ⟨13,8191,A1 44 (.ari .xor (.t 41) (.t 43))⟩,
  ⟨14,0,A1 45 (.iarr 25 1 (.t 1) (cI 1))⟩,
  ⟨15,16384,A1 46 (.load false 1 (.t 45))⟩,
  ⟨16,0,A1 47 (.iarr 25 1 (.t 1) (cI 6))⟩,
  ⟨17,65536,A1 48 (.load false 1 (.t 47))⟩,
  ⟨18,245760,A1 49 (.ari .xor (.t 46) (.t 48))⟩,
  ⟨19,0,A1 50 (.iarr 25 1 (.t 1) (cI 11))⟩,
  ⟨20,524288,A1 51 (.load false 1 (.t 50))⟩,
  ⟨21,2080768,A1 52 (.ari .xor (.t 49) (.t 51))⟩,
  ⟨22,0,A1 53 (.iarr 25 1 (.t 1) (cI 16))⟩,
  ⟨23,4194304,A1 54 (.load false 1 (.t 53))⟩,
  ⟨24,16760832,A1 55 (.ari .xor (.t 52) (.t 54))⟩,
  ⟨25,0,A1 56 (.iarr 25 1 (.t 1) (cI 21))⟩,
  ⟨26,33554432,A1 57 (.load false 1 (.t 56))⟩,
  ⟨27,134201344,A1 58 (.ari .xor (.t 55) (.t 57))⟩,
  ⟨28,0,A1 59 (.iarr 25 1 (.t 1) (cI 2))⟩,
  ⟨29,268435456,A1 60 (.load false 1 (.t 59))⟩,
  ⟨30,0,A1 61 (.iarr 25 1 (.t 1) (cI 7))⟩,
  ⟨31,1073741824,A1 62 (.load false 1 (.t 61))⟩,
  ⟨32,4026531840,A1 63 (.ari .xor (.t 60) (.t 62))⟩,
  ⟨33,0,A1 64 (.iarr 25 1 (.t 1) (cI 12))⟩,
  ⟨34,8589934592,A1 65 (.load false 1 (.t 64))⟩,
  ⟨35,34091302912,A1 66 (.ari .xor (.t 63) (.t 65))⟩,
  ⟨36,0,A1 67 (.iarr 25 1 (.t 1) (cI 17))⟩,
  ⟨37,68719476736,A1 68 (.load false 1 (.t 67))⟩,
  ⟨38,274609471488,A1 69 (.ari .xor (.t 66) (.t 68))⟩,
  ⟨39,0,A1 70 (.iarr 25 1 (.t 1) (cI 22))⟩,
  ⟨40,549755813888,A1 71 (.load false 1 (.t 70))⟩,
  ⟨41,2198754820096,A1 72 (.ari .xor (.t 69) (.t 71))⟩,
  ⟨42,0,A1 73 (.iarr 25 1 (.t 1) (cI 3))⟩,
  ⟨43,4398046511104,A1 74 (.load false 1 (.t 73))⟩,
  ⟨44,0,A1 75 (.iarr 25 1 (.t 1) (cI 8))⟩,
  ⟨45,17592186044416,A1 76 (.load false 1 (.t 75))⟩,
  ⟨46,65970697666560,A1 77 (.ari .xor (.t 74) (.t 76))⟩,
  ⟨47,0,A1 78 (.iarr 25 1 (.t 1) (cI 13))⟩,
  ⟨48,140737488355328,A1 79 (.load false 1 (.t 78))⟩,
  ⟨49,558551906910208,A1 80 (.ari .xor (.t 77) (.t 79))⟩,
  ⟨50,0,A1 81 (.iarr 25 1 (.t 1) (cI 18))⟩,
  ⟨51,1125899906842624,A1 82 (.load false 1 (.t 81))⟩,
  ⟨52,4499201580859392,A1 83 (.ari .xor (.t 80) (.t 82))⟩,
  ⟨53,0,A1 84 (.iarr 25 1 (.t 1) (cI 23))⟩,
  ⟨54,9007199254740992,A1 85 (.load false 1 (.t 84))⟩,
  ⟨55,36024398972452864,A1 86 (.ari .xor (.t 83) (.t 85))⟩,
  ⟨56,0,A1 87 (.iarr 25 1 (.t 1) (cI 4))⟩,
  ⟨57,72057594037927936,A1 88 (.load false 1 (.t 87))⟩,
  ⟨58,0,A1 89 (.iarr 25 1 (.t 1) (cI 9))⟩,
  ⟨59,288230376151711744,A1 90 (.load false 1 (.t 89))⟩,
  ⟨60,1080863910568919040,A1 91 (.ari .xor (.t 88) (.t 90))⟩,
  ⟨61,0,A1 92 (.iarr 25 1 (.t 1) (cI 14))⟩,
  ⟨62,2305843009213693952,A1 93 (.load false 1 (.t 92))⟩,
  ⟨63,9151314442816847872,A1 94 (.ari .xor (.t 91) (.t 93))⟩,
  ⟨64,0,A1 95 (.iarr 25 1 (.t 1) (cI 19))⟩,
  ⟨65,18446744073709551616,A1 96 (.load false 1 (.t 95))⟩,
  ⟨66,73714918700800278528,A1 97 (.ari .xor (.t 94) (.t 96))⟩,
  ⟨67,0,A1 98 (.iarr 25 1 (.t 1) (cI 24))⟩,
  ⟨68,147573952589676412928,A1 99 (.load false 1 (.t 98))⟩,
  ⟨69,590223752764667723776,A1 100 (.ari .xor (.t 97) (.t 99))⟩,
  ⟨70,16383,mt 5 44⟩,
  ⟨71,1180591620717679738879,mt 6 58⟩,
  ⟨72,3541774866550280421375,mt 7 72⟩,
  ⟨73,8264213402615917051903,mt 8 86⟩,
  ⟨74,18889465931478580854783,mt 9 100⟩])
 (sr [mt 101 9,
  mt 102 6,
  kl 103 462 [(.t 102),(cI 1)],
  A1 104 (.ari .xor (.t 101) (.t 103)),
  mt 105 5,
  mt 106 7,
  kl 107 462 [(.t 106),(cI 1)],
  A1 108 (.ari .xor (.t 105) (.t 107)),
  mt 109 6,
  mt 110 8,
  kl 111 462 [(.t 110),(cI 1)],
  A1 112 (.ari .xor (.t 109) (.t 111)),
  mt 113 7,
  mt 114 9,
  kl 115 462 [(.t 114),(cI 1)],
  A1 116 (.ari .xor (.t 113) (.t 115)),
  mt 117 8,
  mt 118 5,
  kl 119 462 [(.t 118),(cI 1)],
  A1 120 (.ari .xor (.t 117) (.t 119)),
  mt 10 104,
  mt 11 108,
  mt 12 112,
  mt 13 116,
  mt 14 120]
 (.seq (sr [A1 15 (.mv (cI 0))]
 (.block 2 (.loop (.seq (sr [mt 121 15,
  A1 122 (.ari .lss (.t 121) (cI 25))]
 (.cond (.t 122) (.skip) (.exit 2)))
 (.seq (.block 3 (sr [mt 125 15,
  A1 126 (.slarr 25 1 (.t 1) (some (.t 125)) none),
  A1 127 (.s2a 5 1 (.t 126)),
  mt 16 127]
 (.regd [⟨0,0,mt 128 16⟩,
  ⟨5,0,mt 133 16⟩,
  ⟨6,2,A1 134 (.nilc (.t 133))⟩,
  ⟨7,6,A1 135 (.iarr 5 1 (.t 134) (cI 0))⟩,
  ⟨8,14,A1 136 (.load false 1 (.t 135))⟩,
  ⟨9,0,mt 137 10⟩,
  ⟨10,62,A1 138 (.ari .xor (.t 136) (.t 137))⟩,
  ⟨11,0,mt 139 16⟩,
  ⟨12,128,A1 140 (.nilc (.t 139))⟩,
  ⟨13,384,A1 141 (.iarr 5 1 (.t 140) (cI 1))⟩,
  ⟨14,896,A1 142 (.load false 1 (.t 141))⟩,
  ⟨17,0,mt 145 16⟩,
  ⟨18,2048,A1 146 (.nilc (.t 145))⟩,
  ⟨19,6144,A1 147 (.iarr 5 1 (.t 146) (cI 2))⟩,
  ⟨20,14336,A1 148 (.load false 1 (.t 147))⟩,
  ⟨23,0,mt 151 16⟩,
  ⟨24,32768,A1 152 (.nilc (.t 151))⟩,
  ⟨25,98304,A1 153 (.iarr 5 1 (.t 152) (cI 3))⟩,
  ⟨26,229376,A1 154 (.load false 1 (.t 153))⟩,
  ⟨29,0,mt 157 16⟩,
  ⟨30,524288,A1 158 (.nilc (.t 157))⟩,
  ⟨31,1572864,A1 159 (.iarr 5 1 (.t 158) (cI 4))⟩,
  ⟨32,3670016,A1 160 (.load false 1 (.t 159))⟩,
  ⟨35,1,A1 163 (.nilc (.t 128))⟩,
  ⟨36,16777215,A1 164 (.iarr 5 1 (.t 163) (cI 0))⟩,
  ⟨37,33554431,A0 (.store 1 (.t 164) (.t 138))⟩,
  ⟨1,0,mt 129 16⟩,
  ⟨15,0,mt 143 11⟩,
  ⟨16,134219648,A1 144 (.ari .xor (.t 142) (.t 143))⟩,
  ⟨38,67108864,A1 165 (.nilc (.t 129))⟩,
  ⟨39,1073741823,A1 166 (.iarr 5 1 (.t 165) (cI 1))⟩,
  ⟨40,2147483647,A0 (.store 1 (.t 166) (.t 144))⟩,
  ⟨2,0,mt 130 16⟩,
  ⟨21,0,mt 149 12⟩,
  ⟨22,8589965312,A1 150 (.ari .xor (.t 148) (.t 149))⟩,
  ⟨41,4294967296,A1 167 (.nilc (.t 130))⟩,
  ⟨42,68719476735,A1 168 (.iarr 5 1 (.t 167) (cI 2))⟩,
  ⟨43,137438953471,A0 (.store 1 (.t 168) (.t 150))⟩,
  ⟨3,0,mt 131 16⟩,
  ⟨27,0,mt 155 13⟩,
  ⟨28,549756305408,A1 156 (.ari .xor (.t 154) (.t 155))⟩,
  ⟨44,274877906944,A1 169 (.nilc (.t 131))⟩,
  ⟨45,4398046511103,A1 170 (.iarr 5 1 (.t 169) (cI 3))⟩,
  ⟨46,8796093022207,A0 (.store 1 (.t 170) (.t 156))⟩,
  ⟨4,0,mt 132 16⟩,
  ⟨33,0,mt 161 14⟩,
  ⟨34,35184379953152,A1 162 (.ari .xor (.t 160) (.t 161))⟩,
  ⟨47,17592186044416,A1 171 (.nilc (.t 132))⟩,
  ⟨48,281474976710655,A1 172 (.iarr 5 1 (.t 171) (cI 4))⟩,
  ⟨49,562949953421311,A0 (.store 1 (.t 172) (.t 162))⟩])))
 (.reg [mt 123 15,
  A1 124 (.ari .add (.t 123) (cI 5)),
  mt 15 124]))))))
 (sr [A1 173 (.iarr 25 1 (.t 1) (cI 1)),
  A1 174 (.load false 1 (.t 173)),
  mt 17 174]
 (.seq (sr [A1 175 (.load true 24 (.g 2)),
  A1 176 (.mv (cI 0))]
 (.block 4 (.loop (sr [A1 177 (.ari .lss (.t 176) (cI 24))]
 (.seq (.cond (.t 177) (.skip) (.exit 4))
 (.seq (.block 5 (sr [mt 178 176,
  A1 179 (.idx 24 1 false (.t 175) (.t 176)),
  mt 18 178,
  mt 19 179]
 (.regd [⟨4,0,mt 184 17⟩,
  ⟨5,0,mt 185 18⟩,
  ⟨6,2,A1 186 (.iarr 24 1 (.g 3) (.t 185))⟩,
  ⟨7,6,A1 187 (.load false 1 (.t 186))⟩,
  ⟨8,15,kl 188 462 [(.t 184),(.t 187)]⟩,
  ⟨0,0,mt 180 19⟩,
  ⟨1,0,mt 181 19⟩,
  ⟨2,64,A1 182 (.iarr 25 1 (.t 1) (.t 181))⟩,
  ⟨3,192,A1 183 (.load false 1 (.t 182))⟩,
  ⟨9,479,mt 17 183⟩,
  ⟨10,1023,A1 189 (.iarr 25 1 (.t 1) (.t 180))⟩,
  ⟨11,2047,A0 (.store 1 (.t 189) (.t 188))⟩])))
 (.reg [A1 190 (.ari .add (.t 176) (cI 1)),
  mt 176 190])))))))
 (.seq (sr [A1 20 (.mv (cI 0))]
 (.block 6 (.loop (.seq (sr [mt 191 20,
  A1 192 (.ari .lss (.t 191) (cI 25))]
 (.cond (.t 192) (.skip) (.exit 6)))
 (.seq (.block 7 (sr [mt 195 20,
  A1 196 (.slarr 25 1 (.t 1) (some (.t 195)) none),
  A1 197 (.s2a 5 1 (.t 196)),
  mt 21 197]
 (.seq (.regd [⟨0,0,mt 198 21⟩,
  ⟨1,1,A1 199 (.nilc (.t 198))⟩,
  ⟨2,3,A1 200 (.iarr 5 1 (.t 199) (cI 0))⟩,
  ⟨3,7,A1 201 (.load false 1 (.t 200))⟩,
  ⟨4,0,mt 202 21⟩,
  ⟨5,16,A1 203 (.nilc (.t 202))⟩,
  ⟨6,48,A1 204 (.iarr 5 1 (.t 203) (cI 1))⟩,
  ⟨7,112,A1 205 (.load false 1 (.t 204))⟩,
  ⟨8,0,mt 206 21⟩,
  ⟨9,256,A1 207 (.nilc (.t 206))⟩,
  ⟨10,768,A1 208 (.iarr 5 1 (.t 207) (cI 2))⟩,
  ⟨11,1792,A1 209 (.load false 1 (.t 208))⟩,
  ⟨12,0,mt 210 21⟩,
  ⟨13,4096,A1 211 (.nilc (.t 210))⟩,
  ⟨14,12288,A1 212 (.iarr 5 1 (.t 211) (cI 3))⟩,
  ⟨15,28672,A1 213 (.load false 1 (.t 212))⟩,
  ⟨16,0,mt 214 21⟩,
  ⟨17,65536,A1 215 (.nilc (.t 214))⟩,
  ⟨18,196608,A1 216 (.iarr 5 1 (.t 215) (cI 4))⟩,
  ⟨19,458752,A1 217 (.load false 1 (.t 216))⟩,
  ⟨20,15,mt 22 201⟩,
  ⟨21,1048831,mt 23 205⟩,
  ⟨22,3149823,mt 24 209⟩,
  ⟨23,7405567,mt 25 213⟩,
  ⟨24,16777215,mt 26 217⟩])
 (.regd [⟨0,0,mt 218 21⟩,
  ⟨5,0,mt 223 22⟩,
  ⟨6,0,mt 224 23⟩,
  ⟨7,4,A1 225 (.un .xor (.t 224))⟩,
  ⟨8,0,mt 226 24⟩,
  ⟨9,28,A1 227 (.ari .and (.t 225) (.t 226))⟩,
  ⟨10,62,A1 228 (.ari .xor (.t 223) (.t 227))⟩,
  ⟨35,1,A1 253 (.nilc (.t 218))⟩,
  ⟨36,255,A1 254 (.iarr 5 1 (.t 253) (cI 0))⟩,
  ⟨37,511,A0 (.store 1 (.t 254) (.t 228))⟩,
  ⟨1,0,mt 219 21⟩,
  ⟨11,0,mt 229 23⟩,
  ⟨12,0,mt 230 24⟩,
  ⟨13,4096,A1 231 (.un .xor (.t 230))⟩,
  ⟨14,0,mt 232 25⟩,
  ⟨15,28672,A1 233 (.ari .and (.t 231) (.t 232))⟩,
  ⟨16,63488,A1 234 (.ari .xor (.t 229) (.t 233))⟩,
  ⟨38,1024,A1 255 (.nilc (.t 219))⟩,
  ⟨39,262143,A1 256 (.iarr 5 1 (.t 255) (cI 1))⟩,
  ⟨40,524287,A0 (.store 1 (.t 256) (.t 234))⟩,
  ⟨2,0,mt 220 21⟩,
  ⟨17,0,mt 235 24⟩,
  ⟨18,0,mt 236 25⟩,
  ⟨19,4194304,A1 237 (.un .xor (.t 236))⟩,
  ⟨20,0,mt 238 26⟩,
  ⟨21,29360128,A1 239 (.ari .and (.t 237) (.t 238))⟩,
  ⟨22,65011712,A1 240 (.ari .xor (.t 235) (.t 239))⟩,
  ⟨41,1048576,A1 257 (.nilc (.t 220))⟩,
  ⟨42,268435455,A1 258 (.iarr 5 1 (.t 257) (cI 2))⟩,
  ⟨43,536870911,A0 (.store 1 (.t 258) (.t 240))⟩,
  ⟨3,0,mt 221 21⟩,
  ⟨23,0,mt 241 25⟩,
  ⟨24,0,mt 242 26⟩,
  ⟨25,4294967296,A1 243 (.un .xor (.t 242))⟩,
  ⟨26,0,mt 244 22⟩,
  ⟨27,30064771072,A1 245 (.ari .and (.t 243) (.t 244))⟩,
  ⟨28,66571993088,A1 246 (.ari .xor (.t 241) (.t 245))⟩,
  ⟨44,1073741824,A1 259 (.nilc (.t 221))⟩,
  ⟨45,274877906943,A1 260 (.iarr 5 1 (.t 259) (cI 3))⟩,
  ⟨46,549755813887,A0 (.store 1 (.t 260) (.t 246))⟩,
  ⟨4,0,mt 222 21⟩,
  ⟨29,0,mt 247 26⟩,
  ⟨30,0,mt 248 22⟩,
  ⟨31,4398046511104,A1 249 (.un .xor (.t 248))⟩,
  ⟨32,0,mt 250 23⟩,
  ⟨33,30786325577728,A1 251 (.ari .and (.t 249) (.t 250))⟩,
  ⟨34,68169720922112,A1 252 (.ari .xor (.t 247) (.t 251))⟩,
  ⟨47,1099511627776,A1 261 (.nilc (.t 222))⟩,
  ⟨48,281474976710655,A1 262 (.iarr 5 1 (.t 261) (cI 4))⟩,
  ⟨49,562949953421311,A0 (.store 1 (.t 262) (.t 252))⟩]))))
 (.reg [mt 193 20,
  A1 194 (.ari .add (.t 193) (cI 5)),
  mt 20 194]))))))
 (.reg [A1 263 (.iarr 25 1 (.t 1) (cI 0)),
  A1 264 (.load false 1 (.t 263)),
  mt 265 4,
  A1 266 (.ari .xor (.t 264) (.t 265)),
  A1 267 (.iarr 25 1 (.t 1) (cI 0)),
  A0 (.store 1 (.t 267) (.t 266))])))))))))
 (.reg [A1 268 (.ari .add (.t 28) (cI 1)),
  mt 28 268])))))))
 (sr [A1 269 (.load true 25 (.t 1)),
  A0 (.store 25 (.t 2) (.t 269))]
 (.ret))))
def Ac0:LF:=⟨Akc,1,0,270,[.cell 2 true 25]⟩
def Akl:LC:=(sr [A1 4 (.mv (cU 0))]
 (sr [mt 6 1,
  A1 7 (.conv .u64 (.t 6)),
  A1 8 (.ari .and (.t 7) (cU 63)),
  mt 5 8]
 (sr [mt 9 0,
  mt 10 5,
  A1 11 (.ari .shl (.t 9) (.t 10)),
  mt 12 0,
  mt 13 5,
  A1 14 (.ari .sub (cU 64) (.t 13)),
  A1 15 (.ari .shr (.t 12) (.t 14)),
  A1 16 (.ari .or (.t 11) (.t 15)),
  mt 4 16]
 (.ret))))
def UX:LF:=⟨Akl,2,0,17,[.tmp 4]⟩
end Mv
