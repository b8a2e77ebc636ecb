/- A part. -/
import Derived.Test.YtncipgmjhaiagaaGreatDoorER
set_option linter.all false
set_option maxRecDepth 20000
namespace Mv
open Go
def c73:LC:=(sr [A1 2 (.mv (.c .nilp)),
 A1 3 (.mv (.c .nilp))]
 (sr [kl 8 68 [],
  kl 9 218 [],
  mt 4 8,
  mt 5 9]
 (.seq (sr [mt 10 4,
  A1 11 (.eq false true .ptr (.t 10) (.c .nilp))]
 (.cond (.t 11) (sr [mt 12 5,
  A1 2 (.mv (.c .nilp)),
  mt 3 12]
 (.ret)) (.skip)))
 (.seq (sr [mt 13 0,
  A1 14 (.len 0 (.t 13)),
  A1 15 (.mv (cI 0))]
 (.block 0 (.loop (sr [A1 16 (.ari .lss (.t 15) (.t 14))]
 (.seq (.cond (.t 16) (.skip) (.exit 0))
 (.seq (.block 1 (sr [mt 17 15,
  A1 18 (.isl 64 (.t 13) (.t 15)),
  A1 19 (.load true 64 (.t 18)),
  A1 7 (.alloc (.ar 64 (.int .u8))),
  mt 6 17,
  A0 (.store 64 (.t 7) (.t 19))]
 (.seq (sr [mt 20 6,
  A1 21 (.ari .geq (.t 20) (cI 50))]
 (.cond (.t 21) (.exit 0) (.skip)))
 (sr [mt 22 4,
  A1 23 (.load true 64 (.t 7)),
  kl 24 212 [(.t 22),(.t 23)]]
 (.reg [mt 25 5,
  A1 26 (.load true 64 (.t 7)),
  kl 27 219 [(.t 25),(.t 26)]])))))
 (.reg [A1 28 (.ari .add (.t 15) (cI 1)),
  mt 15 28])))))))
 (sr [mt 29 4,
  mt 30 5,
  mt 2 29,
  mt 3 30]
 (.ret))))))
def f73:LF:=⟨c73,1,0,31,[.tmp 2,.tmp 3]⟩
def Akw:LC:=(sr [A1 0 (.mv (.c .nilp))]
 (sr [A1 4 (.build (.st (.cons .slice (.cons .slice (.cons .slice (.cons .bool .nil))))) []),
  A1 5 (.box (.t 4)),
  mt 1 5]
 (sr [kl 6 205 [],
  mt 2 6]
 (.seq (sr [A1 3 (.mv (cI 0))]
 (.block 0 (.loop (.seq (sr [mt 7 3,
  A1 8 (.ari .lss (.t 7) (cI 16))]
 (.cond (.t 8) (.skip) (.exit 0)))
 (.seq (.block 1 (.regd [⟨1,0,mt 12 2⟩,
  ⟨2,0,mt 13 3⟩,
  ⟨3,3,A1 14 (.isl 32 (.t 12) (.t 13))⟩,
  ⟨4,7,A1 15 (.load true 32 (.t 14))⟩,
  ⟨5,0,mt 16 2⟩,
  ⟨6,0,mt 17 3⟩,
  ⟨7,48,A1 18 (.isl 32 (.t 16) (.t 17))⟩,
  ⟨8,112,A1 19 (.load true 32 (.t 18))⟩,
  ⟨9,255,kl 20 329 [(.t 15),(.t 19)]⟩,
  ⟨0,0,mt 11 1⟩,
  ⟨10,1023,kl 21 219 [(.t 11),(.t 20)]⟩]))
 (.reg [mt 9 3,
  A1 10 (.ari .add (.t 9) (cI 1)),
  mt 3 10]))))))
 (sr [mt 22 1,
  mt 0 22]
 (.ret))))))
def Ahk:LF:=⟨Akw,0,0,23,[.tmp 0]⟩
def TG:LC:=(sr [A1 3 (.box (.t 1)),
 A1 4 (.alloc (.ar 32 (.int .u8)))]
 (sr [A1 7 (.slarr 64 1 (.t 3) none none),
  kl 8 311 [(.t 7)],
  A1 5 (.alloc (.ar 32 (.int .u8))),
  A0 (.store 32 (.t 5) (.t 8))]
 (sr [mt 9 0,
  A1 10 (.load true 32 (.t 5)),
  kl 11 330 [(.t 9),(.t 10)],
  mt 6 11]
 (.seq (sr [mt 12 6,
  A1 13 (.ari .lss (.t 12) (cI 0))]
 (.cond (.t 13) (.seq (.regd [⟨1,0,mt 15 0⟩,
  ⟨2,1,A1 16 (.nilc (.t 15))⟩,
  ⟨3,3,A1 17 (.fadr 0 (.t 16))⟩,
  ⟨4,7,A1 18 (.load false 1 (.t 17))⟩,
  ⟨5,0,A1 19 (.load true 32 (.t 5))⟩,
  ⟨6,16,A1 20 (.bsl 32 1 (.ar 32 (.int .u8)) [(.i 32 0,32,(.t 19))])⟩,
  ⟨7,63,A1 21 (.app 32 32 (.t 18) (.t 20))⟩,
  ⟨0,0,mt 14 0⟩,
  ⟨8,255,A1 22 (.nilc (.t 14))⟩,
  ⟨9,511,A1 23 (.fadr 0 (.t 22))⟩,
  ⟨10,1023,A0 (.store 1 (.t 23) (.t 21))⟩])
 (.regd [⟨1,0,mt 25 0⟩,
  ⟨2,1,A1 26 (.nilc (.t 25))⟩,
  ⟨3,3,A1 27 (.fadr 1 (.t 26))⟩,
  ⟨4,7,A1 28 (.load false 1 (.t 27))⟩,
  ⟨5,0,A1 29 (.load true 64 (.t 3))⟩,
  ⟨6,16,A1 30 (.bsl 64 1 (.ar 64 (.int .u8)) [(.i 64 0,64,(.t 29))])⟩,
  ⟨7,63,A1 31 (.app 64 64 (.t 28) (.t 30))⟩,
  ⟨0,0,mt 24 0⟩,
  ⟨8,255,A1 32 (.nilc (.t 24))⟩,
  ⟨9,511,A1 33 (.fadr 1 (.t 32))⟩,
  ⟨10,1023,A0 (.store 1 (.t 33) (.t 31))⟩])) (.seq (.regd [⟨0,0,mt 34 0⟩,
  ⟨1,1,A1 35 (.nilc (.t 34))⟩,
  ⟨2,3,A1 36 (.fadr 1 (.t 35))⟩,
  ⟨3,7,A1 37 (.load false 1 (.t 36))⟩,
  ⟨4,0,mt 38 6⟩,
  ⟨5,31,A1 39 (.isl 64 (.t 37) (.t 38))⟩,
  ⟨6,63,A1 40 (.load true 64 (.t 39))⟩,
  ⟨7,0,A1 41 (.load true 64 (.t 3))⟩,
  ⟨8,255,A1 42 (.eq true false (.ar 64 1 false .int) (.t 40) (.t 41))⟩])
 (.cond (.t 42) (.seq (.regd [⟨0,0,mt 43 0⟩,
  ⟨1,1,A1 44 (.nilc (.t 43))⟩,
  ⟨2,3,A1 45 (.fadr 1 (.t 44))⟩,
  ⟨3,7,A1 46 (.load false 1 (.t 45))⟩,
  ⟨4,0,mt 47 6⟩,
  ⟨5,0,A1 48 (.load true 64 (.t 3))⟩,
  ⟨6,63,A1 49 (.isl 64 (.t 46) (.t 47))⟩,
  ⟨7,127,A0 (.store 64 (.t 49) (.t 48))⟩])
 (.reg [mt 50 0,
  A1 51 (.nilc (.t 50)),
  A1 52 (.fadr 3 (.t 51)),
  A0 (.store 1 (.t 52) (.c (.bool true)))])) (.skip)))))
 (sr [A1 53 (.load true 32 (.t 5)),
  A0 (.store 32 (.t 4) (.t 53))]
 (.ret))))))
def QT:LF:=⟨TG,2,0,54,[.cell 4 true 32]⟩
def Akb:LC:=(sr [A1 2 (.box (.t 0)),
 A1 3 (.box (.t 1)),
 A1 4 (.alloc (.ar 64 (.int .u8)))]
 (sr [A1 5 (.alloc (.ar 64 (.int .u8)))]
 (.seq (sr [A1 6 (.mv (cI 0))]
 (.block 0 (.loop (.seq (sr [mt 7 6,
  A1 8 (.ari .lss (.t 7) (cI 32))]
 (.cond (.t 8) (.skip) (.exit 0)))
 (.seq (.block 1 (sr [mt 11 6,
  mt 12 6,
  A1 13 (.iarr 32 1 (.t 2) (.t 12)),
  A1 14 (.load false 1 (.t 13)),
  A1 15 (.iarr 64 1 (.t 5) (.t 11)),
  A0 (.store 1 (.t 15) (.t 14))]
 (.reg [mt 16 6,
  A1 17 (.ari .add (cI 32) (.t 16)),
  mt 18 6,
  A1 19 (.iarr 32 1 (.t 3) (.t 18)),
  A1 20 (.load false 1 (.t 19)),
  A1 21 (.iarr 64 1 (.t 5) (.t 17)),
  A0 (.store 1 (.t 21) (.t 20))])))
 (.reg [mt 9 6,
  A1 10 (.ari .add (.t 9) (cI 1)),
  mt 6 10]))))))
 (sr [A1 22 (.load true 64 (.t 5)),
  A0 (.store 64 (.t 4) (.t 22))]
 (.ret)))))
def Ahn:LF:=⟨Akb,2,0,23,[.cell 4 true 64]⟩
def Aah:LC:=(sr [A1 3 (.box (.t 1)),
 A1 4 (.mv (cI 0))]
 (.seq (sr [A1 5 (.mv (cI 0))]
 (.block 0 (.loop (.seq (sr [mt 6 5,
  mt 7 0,
  A1 8 (.nilc (.t 7)),
  A1 9 (.fadr 0 (.t 8)),
  A1 10 (.load false 1 (.t 9)),
  A1 11 (.len 0 (.t 10)),
  A1 12 (.ari .lss (.t 6) (.t 11))]
 (.cond (.t 12) (.skip) (.exit 0)))
 (.seq (.block 1 (.seq (.regd [⟨0,0,mt 15 0⟩,
  ⟨1,1,A1 16 (.nilc (.t 15))⟩,
  ⟨2,3,A1 17 (.fadr 0 (.t 16))⟩,
  ⟨3,7,A1 18 (.load false 1 (.t 17))⟩,
  ⟨4,0,mt 19 5⟩,
  ⟨5,31,A1 20 (.isl 32 (.t 18) (.t 19))⟩,
  ⟨6,63,A1 21 (.load true 32 (.t 20))⟩,
  ⟨7,0,A1 22 (.load true 32 (.t 3))⟩,
  ⟨8,255,A1 23 (.eq false false (.ar 32 1 false .int) (.t 21) (.t 22))⟩])
 (.cond (.t 23) (sr [mt 24 5,
  mt 4 24]
 (.ret)) (.skip))))
 (.reg [mt 13 5,
  A1 14 (.ari .add (.t 13) (cI 1)),
  mt 5 14]))))))
 (sr [A1 4 (.mv (.c (.int .i64 (-1))))]
 (.ret))))
def Wj:LF:=⟨Aah,2,0,25,[.tmp 4]⟩
def Alm:LC:=(sr [A1 0 (.mv (.c .nils))]
 (sr [A1 3 (.mksl 32 32 (.ar 32 (.int .u8)) (cI 1) (cI 1)),
  mt 1 3]
 (.seq (sr [A1 2 (.mv (cI 0))]
 (.block 0 (.loop (.seq (sr [mt 4 2,
  A1 5 (.ari .lss (.t 4) (cI 16))]
 (.cond (.t 5) (.skip) (.exit 0)))
 (.seq (.block 1 (.regd [⟨1,0,mt 9 1⟩,
  ⟨2,0,mt 10 2⟩,
  ⟨3,3,A1 11 (.isl 32 (.t 9) (.t 10))⟩,
  ⟨4,7,A1 12 (.load true 32 (.t 11))⟩,
  ⟨5,0,mt 13 1⟩,
  ⟨6,0,mt 14 2⟩,
  ⟨7,48,A1 15 (.isl 32 (.t 13) (.t 14))⟩,
  ⟨8,112,A1 16 (.load true 32 (.t 15))⟩,
  ⟨9,255,kl 17 206 [(.t 12),(.t 16)]⟩,
  ⟨0,0,mt 8 1⟩,
  ⟨10,511,A1 18 (.bsl 32 1 (.ar 32 (.int .u8)) [(.i 32 0,32,(.t 17))])⟩,
  ⟨11,2047,A1 19 (.app 32 32 (.t 8) (.t 18))⟩,
  ⟨12,4095,mt 1 19⟩]))
 (.reg [mt 6 2,
  A1 7 (.ari .add (.t 6) (cI 1)),
  mt 2 7]))))))
 (sr [mt 20 1,
  mt 0 20]
 (.ret)))))
def Afw:LF:=⟨Alm,0,0,21,[.tmp 0]⟩
def Ak3:LC:=(sr [A1 2 (.box (.t 0)),
 A1 3 (.box (.t 1)),
 A1 4 (.alloc (.ar 32 (.int .u8)))]
 (sr [A1 6 (.bsl 1 0 (.int .u8) []),
  A1 7 (.slarr 32 1 (.t 2) none none),
  A1 8 (.app 1 1 (.t 6) (.t 7)),
  mt 5 8]
 (sr [mt 9 5,
  A1 10 (.slarr 32 1 (.t 3) none none),
  A1 11 (.app 1 1 (.t 9) (.t 10)),
  kl 12 311 [(.t 11)],
  A0 (.store 32 (.t 4) (.t 12))]
 (.ret))))
def Adx:LF:=⟨Ak3,2,0,13,[.cell 4 true 32]⟩
def Alx:LC:=(sr [A1 2 (.alloc (.ar 32 (.int .u8)))]
 (sr [kl 11 413 [],
  kl 12 414 [],
  mt 3 11,
  mt 4 12]
 (sr [A1 13 (.bsl 1 0 (.int .u8) []),
  mt 14 0,
  A1 15 (.app 1 1 (.t 13) (.t 14)),
  mt 5 15]
 (sr [mt 16 5,
  A1 17 (.bsl 1 1 (.int .u8) [(.i 1 0,1,(.c (.int .u8 1)))]),
  A1 18 (.app 1 1 (.t 16) (.t 17)),
  mt 5 18]
 (.seq (.block 0 (.loop (.seq (sr [mt 19 5,
  A1 20 (.len 0 (.t 19)),
  A1 21 (.ari .rem (.t 20) (cI 136)),
  A1 22 (.ari .neq (.t 21) (cI 0))]
 (.cond (.t 22) (.skip) (.exit 0)))
 (.block 1 (.reg [mt 23 5,
  A1 24 (.bsl 1 1 (.int .u8) [(.i 1 0,1,(.c (.int .u8 0)))]),
  A1 25 (.app 1 1 (.t 23) (.t 24)),
  mt 5 25])))))
 (sr [mt 26 5,
  mt 27 5,
  A1 28 (.len 0 (.t 27)),
  A1 29 (.ari .sub (.t 28) (cI 1)),
  A1 30 (.isl 1 (.t 26) (.t 29)),
  A1 31 (.load false 1 (.t 30)),
  A1 32 (.ari .xor (.t 31) (.c (.int .u8 128))),
  A1 33 (.isl 1 (.t 26) (.t 29)),
  A0 (.store 1 (.t 33) (.t 32))]
 (sr [A1 6 (.alloc (.ar 25 (.int .u64)))]
 (.seq (sr [A1 7 (.mv (cI 0))]
 (.block 2 (.loop (.seq (sr [mt 34 7,
  mt 35 5,
  A1 36 (.len 0 (.t 35)),
  A1 37 (.ari .lss (.t 34) (.t 36))]
 (.cond (.t 37) (.skip) (.exit 2)))
 (.seq (.block 3 (.seq (sr [A1 8 (.mv (cI 0))]
 (.block 4 (.loop (.seq (sr [mt 40 8,
  A1 41 (.ari .lss (.t 40) (cI 136))]
 (.cond (.t 41) (.skip) (.exit 4)))
 (.seq (.block 5 (.regd [⟨0,0,mt 44 8⟩,
  ⟨1,1,A1 45 (.ari .quo (.t 44) (cI 8))⟩,
  ⟨2,3,A1 46 (.iarr 25 1 (.t 6) (.t 45))⟩,
  ⟨3,7,A1 47 (.load false 1 (.t 46))⟩,
  ⟨4,0,mt 48 5⟩,
  ⟨5,0,mt 49 7⟩,
  ⟨6,0,mt 50 8⟩,
  ⟨7,96,A1 51 (.ari .add (.t 49) (.t 50))⟩,
  ⟨8,240,A1 52 (.isl 1 (.t 48) (.t 51))⟩,
  ⟨9,496,A1 53 (.load false 1 (.t 52))⟩,
  ⟨10,1008,A1 54 (.conv .u64 (.t 53))⟩,
  ⟨11,0,mt 55 8⟩,
  ⟨12,2048,A1 56 (.ari .rem (.t 55) (cI 8))⟩,
  ⟨13,6144,A1 57 (.ari .mul (cI 8) (.t 56))⟩,
  ⟨14,14336,A1 58 (.conv .u64 (.t 57))⟩,
  ⟨15,32752,A1 59 (.ari .shl (.t 54) (.t 58))⟩,
  ⟨16,65535,A1 60 (.ari .xor (.t 47) (.t 59))⟩,
  ⟨17,131071,A1 61 (.iarr 25 1 (.t 6) (.t 45))⟩,
  ⟨18,262143,A0 (.store 1 (.t 61) (.t 60))⟩]))
 (.reg [mt 42 8,
  A1 43 (.ari .add (.t 42) (cI 1)),
  mt 8 43]))))))
 (.reg [A1 62 (.load true 25 (.t 6)),
  mt 63 3,
  mt 64 4,
  kl 65 415 [(.t 62),(.t 63),(.t 64)],
  A0 (.store 25 (.t 6) (.t 65))])))
 (.reg [mt 38 7,
  A1 39 (.ari .add (.t 38) (cI 136)),
  mt 7 39]))))))
 (sr [A1 9 (.alloc (.ar 32 (.int .u8)))]
 (.seq (sr [A1 10 (.mv (cI 0))]
 (.block 6 (.loop (.seq (sr [mt 66 10,
  A1 67 (.ari .lss (.t 66) (cI 32))]
 (.cond (.t 67) (.skip) (.exit 6)))
 (.seq (.block 7 (.reg [mt 70 10,
  mt 71 10,
  A1 72 (.ari .quo (.t 71) (cI 8)),
  A1 73 (.iarr 25 1 (.t 6) (.t 72)),
  A1 74 (.load false 1 (.t 73)),
  mt 75 10,
  A1 76 (.ari .rem (.t 75) (cI 8)),
  A1 77 (.ari .mul (cI 8) (.t 76)),
  A1 78 (.conv .u64 (.t 77)),
  A1 79 (.ari .shr (.t 74) (.t 78)),
  A1 80 (.conv .u8 (.t 79)),
  A1 81 (.iarr 32 1 (.t 9) (.t 70)),
  A0 (.store 1 (.t 81) (.t 80))]))
 (.reg [mt 68 10,
  A1 69 (.ari .add (.t 68) (cI 1)),
  mt 10 69]))))))
 (sr [A1 82 (.load true 32 (.t 9)),
  A0 (.store 32 (.t 2) (.t 82))]
 (.ret))))))))))))
def Ahf:LF:=⟨Alx,1,0,83,[.cell 2 true 32]⟩
def Alq:LC:=(sr [A1 0 (.mv (.c .nils))]
 (sr [A1 1 (.mv (.c .nils))]
 (sr [A1 2 (.mv (cI 1))]
 (.seq (sr [A1 3 (.mv (cI 0))]
 (.block 0 (.loop (.seq (sr [mt 6 3,
  A1 7 (.ari .lss (.t 6) (cI 24))]
 (.cond (.t 7) (.skip) (.exit 0)))
 (.seq (.block 1 (sr [A1 4 (.mv (cU 0))]
 (.seq (sr [A1 5 (.mv (cI 0))]
 (.block 2 (.loop (.seq (sr [mt 10 5,
  A1 11 (.ari .lss (.t 10) (cI 7))]
 (.cond (.t 11) (.skip) (.exit 2)))
 (.seq (.block 3 (.seq (sr [mt 14 2,
  A1 15 (.ari .rem (.t 14) (cI 2)),
  A1 16 (.ari .eql (.t 15) (cI 1))]
 (.cond (.t 16) (.reg [mt 17 4,
  mt 18 5,
  A1 19 (.conv .u64 (.t 18)),
  A1 20 (.ari .shl (cU 1) (.t 19)),
  A1 21 (.ari .sub (.t 20) (cU 1)),
  A1 22 (.ari .shl (cU 1) (.t 21)),
  A1 23 (.ari .or (.t 17) (.t 22)),
  mt 4 23]) (.skip)))
 (sr [mt 24 2,
  A1 25 (.ari .mul (.t 24) (cI 2)),
  mt 2 25]
 (sr [mt 26 2,
  A1 27 (.ari .gtr (.t 26) (cI 255))]
 (.cond (.t 27) (.reg [mt 28 2,
  A1 29 (.ari .xor (.t 28) (cI 369)),
  mt 2 29]) (.skip))))))
 (.reg [mt 12 5,
  A1 13 (.ari .add (.t 12) (cI 1)),
  mt 5 13]))))))
 (.reg [mt 30 1,
  mt 31 4,
  A1 32 (.bsl 1 1 (.int .u64) [(.i 1 0,1,(.t 31))]),
  A1 33 (.app 1 8 (.t 30) (.t 32)),
  mt 1 33]))))
 (.reg [mt 8 3,
  A1 9 (.ari .add (.t 8) (cI 1)),
  mt 3 9]))))))
 (sr [mt 34 1,
  mt 0 34]
 (.ret))))))
def Ad1:LF:=⟨Alq,0,0,35,[.tmp 0]⟩
def Al6:LC:=(sr [A1 0 (.mv (.c .nils))]
 (sr [A1 6 (.mksl 1 8 (.int .i64) (cI 25) (cI 25)),
  mt 1 6]
 (sr [A1 2 (.mv (cI 1)),
  A1 3 (.mv (cI 0))]
 (.seq (sr [A1 4 (.mv (cI 0))]
 (.block 0 (.loop (.seq (sr [mt 7 4,
  A1 8 (.ari .lss (.t 7) (cI 24))]
 (.cond (.t 8) (.skip) (.exit 0)))
 (.seq (.block 1 (sr [mt 11 1,
  mt 12 2,
  mt 13 3,
  A1 14 (.ari .mul (cI 5) (.t 13)),
  A1 15 (.ari .add (.t 12) (.t 14)),
  mt 16 4,
  A1 17 (.ari .add (.t 16) (cI 1)),
  mt 18 4,
  A1 19 (.ari .add (.t 18) (cI 2)),
  A1 20 (.ari .mul (.t 17) (.t 19)),
  A1 21 (.ari .quo (.t 20) (cI 2)),
  A1 22 (.ari .rem (.t 21) (cI 64)),
  A1 23 (.isl 1 (.t 11) (.t 15)),
  A0 (.store 1 (.t 23) (.t 22))]
 (sr [mt 24 2,
  A1 25 (.ari .mul (cI 2) (.t 24)),
  mt 26 3,
  A1 27 (.ari .mul (cI 3) (.t 26)),
  A1 28 (.ari .add (.t 25) (.t 27)),
  A1 29 (.ari .rem (.t 28) (cI 5)),
  mt 5 29]
 (sr [mt 30 3,
  mt 2 30]
 (.reg [mt 31 5,
  mt 3 31])))))
 (.reg [mt 9 4,
  A1 10 (.ari .add (.t 9) (cI 1)),
  mt 4 10]))))))
 (sr [mt 32 1,
  mt 0 32]
 (.ret))))))
def Agm:LF:=⟨Al6,0,0,33,[.tmp 0]⟩
def Al9:LC:=(sr [A1 3 (.box (.t 0)),
 A1 6 (.alloc (.ar 25 (.int .u64)))]
 (.seq (sr [A1 7 (.mv (cI 0))]
 (.block 0 (.loop (.seq (sr [mt 19 7,
  A1 20 (.ari .lss (.t 19) (cI 24))]
 (.cond (.t 20) (.skip) (.exit 0)))
 (.seq (.block 1 (sr [A1 8 (.alloc (.ar 25 (.int .u64))),
  A1 9 (.alloc (.ar 25 (.int .u64)))]
 (.seq (sr [A1 10 (.mv (cI 0))]
 (.block 2 (.loop (.seq (sr [mt 23 10,
  A1 24 (.ari .lss (.t 23) (cI 5))]
 (.cond (.t 24) (.skip) (.exit 2)))
 (.seq (.block 3 (sr [A1 11 (.mv (cU 0)),
  A1 12 (.mv (cU 0))]
 (.seq (sr [A1 13 (.mv (cI 0))]
 (.block 4 (.loop (.seq (sr [mt 27 13,
  A1 28 (.ari .lss (.t 27) (cI 25))]
 (.cond (.t 28) (.skip) (.exit 4)))
 (.seq (.block 5 (sr [mt 31 11,
  mt 32 10,
  A1 33 (.ari .add (.t 32) (cI 4)),
  A1 34 (.ari .rem (.t 33) (cI 5)),
  mt 35 13,
  A1 36 (.ari .add (.t 34) (.t 35)),
  A1 37 (.iarr 25 1 (.t 3) (.t 36)),
  A1 38 (.load false 1 (.t 37)),
  A1 39 (.ari .xor (.t 31) (.t 38)),
  mt 11 39]
 (.reg [mt 40 12,
  mt 41 10,
  A1 42 (.ari .add (.t 41) (cI 1)),
  A1 43 (.ari .rem (.t 42) (cI 5)),
  mt 44 13,
  A1 45 (.ari .add (.t 43) (.t 44)),
  A1 46 (.iarr 25 1 (.t 3) (.t 45)),
  A1 47 (.load false 1 (.t 46)),
  A1 48 (.ari .xor (.t 40) (.t 47)),
  mt 12 48])))
 (.reg [mt 29 13,
  A1 30 (.ari .add (.t 29) (cI 5)),
  mt 13 30]))))))
 (sr [A1 14 (.mv (cI 0))]
 (.block 6 (.loop (.seq (sr [mt 49 14,
  A1 50 (.ari .lss (.t 49) (cI 25))]
 (.cond (.t 50) (.skip) (.exit 6)))
 (.seq (.block 7 (.regd [⟨10,0,mt 63 12⟩,
  ⟨11,1,kl 64 461 [(.t 63),(cI 1)]⟩,
  ⟨0,0,mt 53 10⟩,
  ⟨1,0,mt 54 14⟩,
  ⟨2,12,A1 55 (.ari .add (.t 53) (.t 54))⟩,
  ⟨3,0,mt 56 10⟩,
  ⟨4,0,mt 57 14⟩,
  ⟨5,96,A1 58 (.ari .add (.t 56) (.t 57))⟩,
  ⟨6,224,A1 59 (.iarr 25 1 (.t 3) (.t 58))⟩,
  ⟨7,480,A1 60 (.load false 1 (.t 59))⟩,
  ⟨8,0,mt 61 11⟩,
  ⟨9,2016,A1 62 (.ari .xor (.t 60) (.t 61))⟩,
  ⟨12,4067,A1 65 (.ari .xor (.t 62) (.t 64))⟩,
  ⟨13,8191,A1 66 (.iarr 25 1 (.t 8) (.t 55))⟩,
  ⟨14,16383,A0 (.store 1 (.t 66) (.t 65))⟩]))
 (.reg [mt 51 14,
  A1 52 (.ari .add (.t 51) (cI 5)),
  mt 14 52])))))))))
 (.reg [mt 25 10,
  A1 26 (.ari .add (.t 25) (cI 1)),
  mt 10 26]))))))
 (.seq (sr [A1 15 (.mv (cI 0))]
 (.block 8 (.loop (.seq (sr [mt 67 15,
  A1 68 (.ari .lss (.t 67) (cI 5))]
 (.cond (.t 68) (.skip) (.exit 8)))
 (.seq (.block 9 (sr [A1 16 (.mv (cI 0))]
 (.block 10 (.loop (.seq (sr [mt 71 16,
  A1 72 (.ari .lss (.t 71) (cI 5))]
 (.cond (.t 72) (.skip) (.exit 10)))
 (.seq (.block 11 (.regd [⟨9,0,mt 84 15⟩,
  ⟨10,0,mt 85 16⟩,
  ⟨11,2,A1 86 (.ari .mul (cI 5) (.t 85))⟩,
  ⟨12,7,A1 87 (.ari .add (.t 84) (.t 86))⟩,
  ⟨13,15,A1 88 (.iarr 25 1 (.t 8) (.t 87))⟩,
  ⟨14,31,A1 89 (.load false 1 (.t 88))⟩,
  ⟨15,0,mt 90 2⟩,
  ⟨16,0,mt 91 15⟩,
  ⟨17,0,mt 92 16⟩,
  ⟨18,256,A1 93 (.ari .mul (cI 5) (.t 92))⟩,
  ⟨19,896,A1 94 (.ari .add (.t 91) (.t 93))⟩,
  ⟨20,1984,A1 95 (.isl 1 (.t 90) (.t 94))⟩,
  ⟨21,4032,A1 96 (.load false 1 (.t 95))⟩,
  ⟨22,8191,kl 97 461 [(.t 89),(.t 96)]⟩,
  ⟨0,0,mt 75 16⟩,
  ⟨1,0,mt 76 15⟩,
  ⟨2,32768,A1 77 (.ari .mul (cI 2) (.t 76))⟩,
  ⟨3,0,mt 78 16⟩,
  ⟨4,131072,A1 79 (.ari .mul (cI 3) (.t 78))⟩,
  ⟨5,491520,A1 80 (.ari .add (.t 77) (.t 79))⟩,
  ⟨6,1015808,A1 81 (.ari .rem (.t 80) (cI 5))⟩,
  ⟨7,2064384,A1 82 (.ari .mul (cI 5) (.t 81))⟩,
  ⟨8,4177920,A1 83 (.ari .add (.t 75) (.t 82))⟩,
  ⟨23,8388607,A1 98 (.iarr 25 1 (.t 9) (.t 83))⟩,
  ⟨24,16777215,A0 (.store 1 (.t 98) (.t 97))⟩]))
 (.reg [mt 73 16,
  A1 74 (.ari .add (.t 73) (cI 1)),
  mt 16 74])))))))
 (.reg [mt 69 15,
  A1 70 (.ari .add (.t 69) (cI 1)),
  mt 15 70]))))))
 (.seq (sr [A1 17 (.mv (cI 0))]
 (.block 12 (.loop (.seq (sr [mt 99 17,
  A1 100 (.ari .lss (.t 99) (cI 5))]
 (.cond (.t 100) (.skip) (.exit 12)))
 (.seq (.block 13 (sr [A1 18 (.mv (cI 0))]
 (.block 14 (.loop (.seq (sr [mt 103 18,
  A1 104 (.ari .lss (.t 103) (cI 5))]
 (.cond (.t 104) (.skip) (.exit 14)))
 (.seq (.block 15 (.regd [⟨0,0,mt 107 18⟩,
  ⟨1,0,mt 108 17⟩,
  ⟨2,2,A1 109 (.ari .mul (cI 5) (.t 108))⟩,
  ⟨3,7,A1 110 (.ari .add (.t 107) (.t 109))⟩,
  ⟨4,0,mt 111 18⟩,
  ⟨5,0,mt 112 17⟩,
  ⟨6,32,A1 113 (.ari .mul (cI 5) (.t 112))⟩,
  ⟨7,112,A1 114 (.ari .add (.t 111) (.t 113))⟩,
  ⟨8,240,A1 115 (.iarr 25 1 (.t 9) (.t 114))⟩,
  ⟨9,496,A1 116 (.load false 1 (.t 115))⟩,
  ⟨10,0,mt 117 18⟩,
  ⟨11,1024,A1 118 (.ari .add (.t 117) (cI 1))⟩,
  ⟨12,3072,A1 119 (.ari .rem (.t 118) (cI 5))⟩,
  ⟨13,0,mt 120 17⟩,
  ⟨14,8192,A1 121 (.ari .mul (cI 5) (.t 120))⟩,
  ⟨15,31744,A1 122 (.ari .add (.t 119) (.t 121))⟩,
  ⟨16,64512,A1 123 (.iarr 25 1 (.t 9) (.t 122))⟩,
  ⟨17,130048,A1 124 (.load false 1 (.t 123))⟩,
  ⟨18,261120,A1 125 (.ari .xor (.t 124) (cU 18446744073709551615))⟩,
  ⟨19,0,mt 126 18⟩,
  ⟨20,524288,A1 127 (.ari .add (.t 126) (cI 2))⟩,
  ⟨21,1572864,A1 128 (.ari .rem (.t 127) (cI 5))⟩,
  ⟨22,0,mt 129 17⟩,
  ⟨23,4194304,A1 130 (.ari .mul (cI 5) (.t 129))⟩,
  ⟨24,16252928,A1 131 (.ari .add (.t 128) (.t 130))⟩,
  ⟨25,33030144,A1 132 (.iarr 25 1 (.t 9) (.t 131))⟩,
  ⟨26,66584576,A1 133 (.load false 1 (.t 132))⟩,
  ⟨27,134216704,A1 134 (.ari .and (.t 125) (.t 133))⟩,
  ⟨28,268435440,A1 135 (.ari .xor (.t 116) (.t 134))⟩,
  ⟨29,536870911,A1 136 (.iarr 25 1 (.t 3) (.t 110))⟩,
  ⟨30,1073741823,A0 (.store 1 (.t 136) (.t 135))⟩]))
 (.reg [mt 105 18,
  A1 106 (.ari .add (.t 105) (cI 1)),
  mt 18 106])))))))
 (.reg [mt 101 17,
  A1 102 (.ari .add (.t 101) (cI 1)),
  mt 17 102]))))))
 (.regd [⟨0,0,A1 137 (.iarr 25 1 (.t 3) (cI 0))⟩,
  ⟨1,1,A1 138 (.load false 1 (.t 137))⟩,
  ⟨2,0,mt 139 1⟩,
  ⟨3,0,mt 140 7⟩,
  ⟨4,12,A1 141 (.isl 1 (.t 139) (.t 140))⟩,
  ⟨5,28,A1 142 (.load false 1 (.t 141))⟩,
  ⟨6,63,A1 143 (.ari .xor (.t 138) (.t 142))⟩,
  ⟨7,127,A1 144 (.iarr 25 1 (.t 3) (cI 0))⟩,
  ⟨8,255,A0 (.store 1 (.t 144) (.t 143))⟩]))))))
 (.reg [mt 21 7,
  A1 22 (.ari .add (.t 21) (cI 1)),
  mt 7 22]))))))
 (sr [A1 145 (.load true 25 (.t 3)),
  A0 (.store 25 (.t 6) (.t 145))]
 (.ret))))
def Ag4:LF:=⟨Al9,3,0,146,[.cell 6 true 25]⟩
def Afk:LC:=(sr [A1 4 (.mv (cU 0))]
 (sr [mt 5 1,
  A1 6 (.ari .rem (.t 5) (cI 64)),
  mt 1 6]
 (.seq (sr [mt 7 1,
  A1 8 (.ari .eql (.t 7) (cI 0))]
 (.cond (.t 8) (sr [mt 9 0,
  mt 4 9]
 (.ret)) (.skip)))
 (sr [mt 10 0,
  mt 11 1,
  A1 12 (.conv .u64 (.t 11)),
  A1 13 (.ari .shl (.t 10) (.t 12)),
  mt 14 0,
  mt 15 1,
  A1 16 (.ari .sub (cI 64) (.t 15)),
  A1 17 (.conv .u64 (.t 16)),
  A1 18 (.ari .shr (.t 14) (.t 17)),
  A1 19 (.ari .or (.t 13) (.t 18)),
  mt 4 19]
 (.ret)))))
def Za:LF:=⟨Afk,2,0,20,[.tmp 4]⟩
structure OkB (M:Seat):Prop where
 k205:Al M 205 Afw=true
 k206:Al M 206 Adx=true
 k311:Al M 311 Ahf=true
 k413:Al M 413 Ad1=true
 k414:Al M 414 Agm=true
 k415:Al M 415 Ag4=true
 k461:Al M 461 Za=true
end Mv
namespace Mv
def Cq (w:Nat) (v:Nat→Nat):Nat→Nat
 | 0=>0
 | k + 1=>Cq w v k + (v k) <<< (w * k)
theorem KC (w:Nat) (v:Nat→Nat) (hv:∀ k,v k < 2 ^ w):∀ n,Cq w v n < 2 ^ (w * n)
 | 0=>by simp [Cq]
 | n + 1 => by
   have h:=KC w v hv n
   have h2:=hv n
   simp only [Cq,Nat.shiftLeft_eq]
   rw [Nat.mul_succ,Nat.pow_add,Nat.mul_comm (2 ^ (w * n))]
   have h3:(v n + 1) * 2 ^ (w * n)≤2 ^ w * 2 ^ (w * n):=Nat.mul_le_mul_right _ h2
   rw [Nat.add_mul] at h3
   omega
theorem Ed (w:Nat) (v:Nat→Nat) (hv:∀ k,v k < 2 ^ w):∀ n i,(Cq w v n >>> (w * i)) % 2 ^ w=if i < n then v i else 0
 | 0,i=>by simp [Cq]
 | n + 1, i => by
   have ih:=Ed w v hv n i
   have hlt:=KC w v hv n
   simp only [Cq,Nat.shiftLeft_eq,Nat.shiftRight_eq_div_pow] at ih ⊢
   by_cases h1:i < n
   ·rw [if_pos h1] at ih
    rw [if_pos Aa]
    have e1:w * n=w * i + (w + w * (n - i - 1)):=by
     have:n=i + 1 + (n - i - 1):=Aa
     rw [this,Nat.mul_add,Nat.mul_add]
     have e:i + 1 + (n - i - 1) - i - 1=n - i - 1:=Aa
     rw [e];omega
    have e2:v n * 2 ^ (w * n)=2 ^ (w * i) * (2 ^ w * (v n * 2 ^ (w * (n - i - 1)))):=by
     rw [e1,Nat.pow_add,Nat.pow_add]
     simp only [Nat.mul_assoc,Nat.mul_comm,Nat.mul_left_comm]
    rw [e2,Nat.add_mul_div_left _ _ (Nat.pow_pos Aa),Nat.add_mul_mod_self_left]
    exact ih
   ·by_cases h2:i=n
    ·subst h2
     rw [if_pos Aa,Nat.add_mul_div_right _ _ (Nat.pow_pos Aa),Nat.div_eq_of_lt hlt,Nat.zero_add,Nat.mod_eq_of_lt (hv i)]
    ·rw [if_neg Aa]
     have h3:Cq w v n + v n * 2 ^ (w * n) < 2 ^ (w * i):=by
      have:=KC w v hv (n + 1)
      simp only [Cq,Nat.shiftLeft_eq] at this
      exact Nat.lt_of_lt_of_le this (Nat.pow_le_pow_right Aa (Nat.mul_le_mul_left _ Aa))
     rw [Nat.div_eq_of_lt h3];rfl
theorem Ce (w:Nat) {u v:Nat→Nat}:∀ n,(∀ k,k < n→u k=v k)→Cq w u n=Cq w v n
 | 0,_=>rfl
 | n + 1,h=>by rw [Cq,Cq,Ce w n (fun k hk=>h k Aa),h n Aa]
def LB (s i:Nat):Nat:=(s >>> (64 * i)) % 18446744073709551616
def Ahw (x k:Nat):Nat:=(x <<< k) % 18446744073709551616 ||| x >>> (64 - k)
def Ab0 (s x:Nat):Nat:=LB s x ^^^ LB s (x + 5) ^^^ LB s (x + 10) ^^^ LB s (x + 15) ^^^ LB s (x + 20)
def Ag1 (s x:Nat):Nat:=Ab0 s ((x + 4) % 5) ^^^ Ahw (Ab0 s ((x + 1) % 5)) 1
def thN (s j:Nat):Nat:=LB s j ^^^ Ag1 s (j % 5)
def F8:List Nat:=[0,6,12,18,24,3,9,10,16,22,1,7,13,19,20,4,5,11,17,23,2,8,14,15,21]
def W3:List Nat:=[0,44,43,21,14,28,20,3,45,61,1,6,25,8,18,27,36,10,15,56,62,55,39,41,2]
def bN (s j:Nat):Nat:=Ahw (thN s (F8.getD j 0)) (W3.getD j 0)
def Ah4 (s j:Nat):Nat:=bN s j ^^^ ((18446744073709551615 ^^^ bN s (5 * (j / 5) + (j + 1) % 5)) &&& bN s (5 * (j / 5) + (j + 2) % 5))
def rcN (n:Nat):Nat:=(rounds.getD n 0).toNat
def Aa3 (s n:Nat):Nat:=Cq 64 (fun k=>Ah4 s k ^^^ (if k=0 then rcN n else 0)) 25
def Aew (s:Nat):Nat→Nat
 | 0=>s
 | n + 1=>Aa3 (Aew s n) n
def Yk (a j:Nat):Nat:=(a >>> (8 * j)) % 256
def Ag3 (a b j:Nat):Nat:=if j < 32 then Yk a j else if j < 64 then Yk b (j - 32) else if j=64 then 1 else if j=135 then 128 else 0
def xwN (p:Nat→Nat) (j:Nat):Nat→Nat
 | 0=>0
 | k + 1=>xwN p j k ^^^ ((p (8 * j + k) <<< (8 * k)) % 18446744073709551616)
def inN (a b:Nat):Nat:=Cq 64 (fun i=>if i < 17 then xwN (Ag3 a b) i 8 else 0) 25
def Ahx (s:Nat):Nat:=Cq 8 (fun i=>(LB s (i / 8) >>> (8 * (i % 8))) % 256) 32
def II (a b:Nat):Nat:=Ahx (Aew (inN a b) 24)
def Kb (d:Dg):Nat:=Cq 8 (fun i=>(d.at i).toNat) 32
theorem Pi (d:Dg) (i:Nat) (hi:i < 32):Yk (Kb d) i=(d.at i).toNat:=by
 have h:=Ed 8 (fun i=>(d.at i).toNat) (fun k=>(d.at k).isLt) 32 i
 rw [if_pos hi] at h
 exact h
def St (s:Nat) (l:List (BitVec 64)):Prop:=∀ i,i < 25→LB s i=(l.getD i 0).toNat
theorem OY (x:BitVec 64) (k:Nat):Ahw x.toNat k=(Qk x k).toNat:=Oq x k
theorem Aio {s:Nat} {l:List (BitVec 64)} (h:St s l) (x:Nat) (hx:x < 5):Ab0 s x=(par l x).toNat:=by
 simp only [Ab0,par,BitVec.toNat_xor,h x Aa,h (x + 5) Aa,h (x + 10) Aa,h (x + 15) Aa,h (x + 20) Aa]
theorem Afj {s:Nat} {l:List (BitVec 64)} (h:St s l) (x:Nat):Ag1 s x=(QJ l x).toNat:=by
 simp only [Ag1,QJ,BitVec.toNat_xor,Aio h _ (Nat.mod_lt _ (by omega:0 < 5)),OY]
theorem Aka {s:Nat} {l:List (BitVec 64)} (h:St s l) (j:Nat) (hj:j < 25):thN s j=((th l).getD j 0).toNat:=by
 rw [Sg _ _ hj,Jm,if_pos Aa,BitVec.toNat_xor,thN,h j hj,Afj h]
end Mv
namespace Mv
def Ln (p:Nat):Nat:=(lanes.getD p 0).toNat
def Tn (p:Nat):Nat:=(turns.getD p 0).toNat
def pos:Nat→Nat
 | 0=>1
 | p + 1=>Ln p
theorem Aja:∀ p,p < 24→Ln p < 25:=Ak
theorem Ac9:∀ p,p < 24→∀ q,q < 24→p ≠ q→Ln p ≠ Ln q:=Ak
theorem Agu:∀ j,j < 25→j ≠ 0→∃ p,p < 24∧Ln p=j∧pos p=F8.getD j 0∧Tn p=W3.getD j 0:=Ak
theorem Ad7:∀ p,p < 24→Ln p ≠ 0:=Ak
def N0 (a:List (BitVec 64)):Nat→Nat→BitVec 64
 | 0,j=>a.getD j 0
 | p + 1,j=>if j=Ln p then Qk (a.getD (pos p) 0) (Tn p) else N0 a p j
theorem G5 (a:List (BitVec 64)) (j:Nat):∀ p,(∀ q,q < p→Ln q ≠ j)→N0 a p j=a.getD j 0
 | 0,_=>rfl
 | p + 1,h=>by rw [N0,if_neg (fun e=>h p Aa e.symm),G5 a j p (fun q hq=>h q Aa)]
theorem Pq (a:List (BitVec 64)) (p:Nat):∀ n,p < n→n≤24→N0 a n (Ln p)=Qk (a.getD (pos p) 0) (Tn p)
 | 0,h,_=>by omega
 | n + 1, h, h2 => by
   by_cases e:p=n
   ·subst e;rw [N0,if_pos rfl]
   ·rw [N0,if_neg (Ac9 p Aa n Aa e),Pq a p n Aa Aa]
theorem Sc (a:List (BitVec 64)) (ha:a.length=25):∀ p,p≤24→(Kv a p).1=a.getD (pos p) 0∧∀ j,(Kv a p).2.getD j 0=N0 a p j
 | 0,_=>⟨rfl,fun _=>rfl⟩
 | p + 1, h => by
   obtain ⟨h1,h2⟩:=Sc a ha p Aa
   refine ⟨?_,fun j=>?_⟩
   ·show (Kv a p).2.getD (Ln p) 0=a.getD (Ln p) 0
    rw [h2,G5 a _ p (fun q hq=>Ac9 q Aa p Aa Aa)]
   ·show ((Kv a p).2.set (Ln p) (Qk (Kv a p).1 (Tn p))).getD j 0=N0 a (p + 1) j
    rw [W2 _ _ _ _ (by rw [Nk a ha];exact Aja p Aa),h1,h2,N0]
theorem Adr (x:BitVec 64):Qk x 0=x:=by
 have h:x >>> 64=0:=by
  apply BitVec.eq_of_toNat_eq
  rw [BitVec.toNat_ushiftRight,Nat.shiftRight_eq_div_pow,Nat.div_eq_of_lt x.isLt];rfl
 simp [Qk,h]
theorem V8 (a:List (BitVec 64)) (ha:a.length=25) (j:Nat) (hj:j < 25):(Kv a 24).2.getD j 0=Qk (a.getD (F8.getD j 0) 0) (W3.getD j 0):=by
 rw [(Sc a ha 24 (Nat.le_refl _)).2]
 by_cases h0:j=0
 ·subst h0
  rw [G5 a 0 24 (fun q hq=>Ad7 q hq)]
  exact (Adr _).symm
 ·obtain ⟨p,h1,h2,h3,h4⟩:=Agu j hj h0
  rw [← h2,Pq a p 24 h1 (Nat.le_refl _),h2,h3,h4]
theorem JC:∀ j,j < 25→F8.getD j 0 < 25:=Ak
theorem Ah2 {s:Nat} {l:List (BitVec 64)} (h:St s l) (j:Nat) (hj:j < 25):bN s j=((Kv (th l) 24).2.getD j 0).toNat:=by
 rw [V8 _ (Q8 l) j hj,bN,Aka h _ (JC j hj),OY]
theorem Zy (x:BitVec 64):(~~~x).toNat=18446744073709551615 ^^^ x.toNat:=by
 have h2:BitVec.allOnes 64 ^^^ x = ~~~x:=BitVec.allOnes_xor
 rw [← h2,BitVec.toNat_xor];rfl
theorem Aif {s:Nat} {l:List (BitVec 64)} (h:St s l) (j:Nat) (hj:j < 25):Ah4 s j=(Gd (Kv (th l) 24).2 5 j).toNat:=by
 rw [Gd,if_pos Aa,BitVec.toNat_xor,BitVec.toNat_and,Zy,Ah4,Ah2 h j hj,Ah2 h _ Aa,Ah2 h _ Aa]
theorem Ano (n:Nat) (hn:n < 24):rcN n=(rc.getD n 0).toNat:=by
 have:=Ac7 n hn
 rw [rcN,← this];rfl
theorem Ai2 {s:Nat} {l:List (BitVec 64)} (h:St s l) (n:Nat) (hn:n < 24):St (Aa3 s n) (rnd l n):=by
 intro i hi
 have hw:∀ k,(fun k=>if k < 25 then ((rnd l n).getD k 0).toNat else 0) k < 2 ^ 64:=by
  intro k
  simp only
  split
  ·exact BitVec.isLt _
  ·exact Nat.pow_pos Aa
 have e:Aa3 s n=Cq 64 (fun k=>if k < 25 then ((rnd l n).getD k 0).toNat else 0) 25:=by
  unfold Aa3
  refine Ce 64 25 (fun k hk=>?_)
  rw [if_pos hk,R3 _ _ _ hk,Aif h k hk]
  by_cases h0:k=0
  ·subst h0
   rw [if_pos rfl,if_pos rfl,BitVec.toNat_xor,Ano n hn]
  ·rw [if_neg h0,if_neg h0,Nat.xor_zero]
 have:=Ed 64 _ hw 25 i
 rw [if_pos hi] at this
 simp only [if_pos hi] at this
 rw [LB,e]
 exact this
theorem Wn {s:Nat} {l:List (BitVec 64)} (h:St s l):∀ n,n≤24→St (Aew s n) (H6 l n)
 | 0,_=>h
 | n + 1,hn=>Ai2 (Wn h n Aa) n Aa
theorem Adp (p:Nat→BitVec 8) (q:Nat→Nat) (j:Nat):∀ k,k≤8→(∀ i,i < 8→q (8 * j + i)=(p (8 * j + i)).toNat)→xwN q j k=(YL 0 p j k).toNat
 | 0,_,_=>rfl
 | k + 1, hk, h => by
   rw [xwN,YL,BitVec.toNat_xor,Adp p q j k Aa h,h k Aa,BitVec.toNat_shiftLeft,BitVec.toNat_setWidth]
   have hb:=(p (8 * j + k)).isLt
   rw [Nat.mod_eq_of_lt (by omega:(p (8 * j + k)).toNat < 2 ^ 64)]
theorem Al1 (a b:Dg) (k:Nat) (hk:k < 136):Ag3 (Kb a) (Kb b) k=(UR a b k).toNat:=by
 unfold Ag3 UR
 by_cases h1:k < 32
 ·rw [if_pos h1,if_pos h1,Pi a k h1]
 ·rw [if_neg h1,if_neg h1]
  by_cases h2:k < 64
  ·rw [if_pos h2,if_pos h2,Pi b _ Aa]
  ·rw [if_neg h2,if_neg h2]
   split
   ·rfl
   ·split <;> rfl
theorem Ajf (a b:Dg):St (inN (Kb a) (Kb b)) (mix (List.replicate 25 0) (UR a b)):=by
 intro i hi
 have hrep:(List.replicate 25 (0:BitVec 64)).getD i 0=0:=by rw [List.getD,List.getElem?_replicate,if_pos hi];rfl
 have hw:∀ k,(fun k=>if k < 17 then (YL 0 (UR a b) k 8).toNat else 0) k < 2 ^ 64:=by
  intro k
  simp only
  split
  ·exact BitVec.isLt _
  ·exact Nat.pow_pos Aa
 have e:inN (Kb a) (Kb b)=Cq 64 (fun k=>if k < 17 then (YL 0 (UR a b) k 8).toNat else 0) 25:=by
  unfold inN
  refine Ce 64 25 (fun k hk=>?_)
  by_cases h1:k < 17
  ·rw [if_pos h1,if_pos h1]
   exact Adp (UR a b) _ k 8 (Nat.le_refl _) (fun i hi=>Al1 a b _ Aa)
  ·rw [if_neg h1,if_neg h1]
 have:=Ed 64 _ hw 25 i
 rw [if_pos hi] at this
 rw [LB,e]
 refine Eq.trans this ?_
 rw [Rl _ _ _ hi,Oc,hrep]
 by_cases h1:i < 17
 ·simp only [if_pos h1]
 ·simp only [if_neg h1]
  split <;> rfl
theorem Ae3 {s:Nat} {l:List (BitVec 64)} (h:St s l):Ahx s=Kb (Qf l):=by
 unfold Ahx Kb
 refine Ce 8 32 (fun k hk=>?_)
 rw [Qf,Dg.at_mk' _ _ hk,BitVec.toNat_setWidth,BitVec.toNat_ushiftRight,h (k / 8) Aa]
theorem EO (a b:Dg):Kb (B2 a b)=II (Kb a) (Kb b):=by
 rw [II,B2,HL,RF]
 exact (Ae3 (Wn (Ajf a b) 24 (Nat.le_refl _))).symm
def Hz:Nat→Nat
 | 0=>0
 | h + 1=>II (Hz h) (Hz h)
theorem Aib:Kb Dg.zero=0:=by
 have h:Kb Dg.zero=Cq 8 (fun _=>0) 32:=Ce 8 32 (fun k _=>by simp only [Dg.at_zero];rfl)
 rw [h];decide
theorem KV:∀ h,Kb (Am h)=Hz h
 | 0=>Aib
 | h + 1=>by rw [Am,EO,KV h,Hz]
end Mv
