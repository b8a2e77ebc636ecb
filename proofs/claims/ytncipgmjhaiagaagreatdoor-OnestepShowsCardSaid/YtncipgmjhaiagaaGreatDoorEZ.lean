/- A part. -/
import Derived.Test.YtncipgmjhaiagaaGreatDoorEX
set_option linter.all false
set_option maxRecDepth 20000
set_option maxHeartbeats 4000000
namespace Mv
open Go
def ZS:ByteArray:=⟨#[0,1,2,2,3,3,3,3,4,4,4,4,4,4,4,4,5,5,5,5,5,5,5,5,5,5,5,5,5,5,5,5,6,6,6,6,6,6,6,6,6,6,6,6,6,6,6,6,6,6,6,6,6,6,6,6,6,6,6,6,6,6,6,6,7,7,7,7,7,7,7,7,7,7,7,7,7,7,7,7,7,7,7,7,7,7,7,7,7,7,7,7,7,7,7,7,7,7,7,7,7,7,7,7,7,7,7,7,7,7,7,7,7,7,7,7,7,7,7,7,7,7,7,7,7,7,7,7,8,8,8,8,8,8,8,8,8,8,8,8,8,8,8,8,8,8,8,8,8,8,8,8,8,8,8,8,8,8,8,8,8,8,8,8,8,8,8,8,8,8,8,8,8,8,8,8,8,8,8,8,8,8,8,8,8,8,8,8,8,8,8,8,8,8,8,8,8,8,8,8,8,8,8,8,8,8,8,8,8,8,8,8,8,8,8,8,8,8,8,8,8,8,8,8,8,8,8,8,8,8,8,8,8,8,8,8,8,8,8,8,8,8,8,8,8,8,8,8,8,8,8,8,8,8,8,8]⟩
def Agr:LC:=(sr [A1 6 (.mv (cU 0))]
 (.seq (sr [mt 10 2,
  A1 11 (.ari .eql (.t 10) (cU 0))]
 (.cond (.t 11) (sr [A1 6 (.mv (cU 0))]
 (.ret)) (.skip)))
 (.seq (sr [mt 12 0]
 (.block 0 (sr [A1 14 (.ari .eql (.t 12) (cI 4)),
  mt 13 14]
 (.cond (.t 13) (sr [mt 15 1,
  mt 16 2,
  A1 17 (.ari .quo (.t 15) (.t 16)),
  mt 6 17]
 (.ret)) (sr [A1 19 (.ari .eql (.t 12) (cI 6)),
  mt 18 19]
 (.cond (.t 18) (sr [mt 20 1,
  mt 21 2,
  A1 22 (.ari .rem (.t 20) (.t 21)),
  mt 6 22]
 (.ret)) (.skip)))))))
 (sr [mt 23 2,
  A1 24 (.conv .i64 (.t 23)),
  A1 25 (.ari .lss (.t 24) (cI 0)),
  mt 26 1,
  A1 27 (.conv .i64 (.t 26)),
  A1 28 (.ari .lss (.t 27) (cI 0)),
  mt 7 25,
  mt 8 28]
 (.seq (sr [mt 29 7]
 (.cond (.t 29) (.reg [mt 30 2,
  A1 31 (.un .neg (.t 30)),
  mt 2 31]) (.skip)))
 (.seq (sr [mt 32 8]
 (.cond (.t 32) (.reg [mt 33 1,
  A1 34 (.un .neg (.t 33)),
  mt 1 34]) (.skip)))
 (sr [mt 35 1,
  mt 36 2,
  A1 37 (.ari .rem (.t 35) (.t 36)),
  mt 9 37]
 (.seq (sr [mt 38 0,
  A1 39 (.ari .eql (.t 38) (cI 5))]
 (.cond (.t 39) (.reg [mt 40 1,
  mt 41 2,
  A1 42 (.ari .quo (.t 40) (.t 41)),
  mt 43 8,
  mt 44 7,
  A1 45 (.eq true false .bool (.t 43) (.t 44)),
  mt 9 42,
  mt 8 45]) (.skip)))
 (.seq (sr [mt 46 8]
 (.cond (.t 46) (sr [mt 47 9,
  A1 48 (.un .neg (.t 47)),
  mt 6 48]
 (.ret)) (.skip)))
 (sr [mt 49 9,
  mt 6 49]
 (.ret)))))))))))
def YY:LF:=⟨Agr,3,0,50,[.tmp 6]⟩
def Wl:LC:=(sr [A1 8 (.mv (cU 0))]
 (.seq (sr [mt 13 3,
  A1 14 (.ari .eql (.t 13) (cU 0))]
 (.cond (.t 14) (sr [A1 8 (.mv (cU 0))]
 (.ret)) (.skip)))
 (.seq (.regd [⟨0,0,mt 15 1⟩,
  ⟨1,0,mt 16 3⟩,
  ⟨2,3,A1 17 (.ari .rem (.t 15) (.t 16))⟩,
  ⟨3,0,mt 18 2⟩,
  ⟨4,0,mt 19 3⟩,
  ⟨5,24,A1 20 (.ari .rem (.t 18) (.t 19))⟩,
  ⟨6,7,mt 1 17⟩,
  ⟨7,127,mt 2 20⟩])
 (sr [mt 22 1,
  mt 23 2,
  kl 24 421 [(.t 22),(.t 23)],
  mt 21 24,
  A1 25 (.ext (.t 21) 0),
  A1 26 (.ext (.t 21) 1),
  mt 9 25,
  mt 10 26]
 (.seq (sr [mt 27 0,
  A1 28 (.ari .eql (.t 27) (cI 8))]
 (.cond (.t 28) (.reg [mt 30 1,
  mt 31 2,
  A1 32 (.add64 (.t 30) (.t 31) (cU 0)),
  mt 29 32,
  A1 33 (.ext (.t 29) 0),
  A1 34 (.ext (.t 29) 1),
  mt 10 33,
  mt 9 34]) (.skip)))
 (sr [mt 36 9,
  mt 37 10,
  mt 38 3,
  kl 39 423 [(.t 36),(.t 37),(.t 38)],
  mt 35 39,
  A1 40 (.ext (.t 35) 0),
  A1 41 (.ext (.t 35) 1),
  mt 11 40,
  mt 12 41]
 (sr [mt 42 12,
  mt 8 42]
 (.ret))))))))
def UD:LF:=⟨Wl,4,0,43,[.tmp 8]⟩
def Alk:LC:=(sr [A1 4 (.mv (cU 0))]
 (sr [A1 5 (.mv (cU 1))]
 (.seq (.block 0 (.loop (.seq (sr [mt 6 1,
  A1 7 (.ari .gtr (.t 6) (cU 0))]
 (.cond (.t 7) (.skip) (.exit 0)))
 (.seq (.block 1 (.seq (sr [mt 10 1,
  A1 11 (.ari .and (.t 10) (cU 1)),
  A1 12 (.ari .eql (.t 11) (cU 1))]
 (.cond (.t 12) (.reg [mt 13 5,
  mt 14 0,
  A1 15 (.ari .mul (.t 13) (.t 14)),
  mt 5 15]) (.skip)))
 (.reg [mt 16 0,
  mt 17 0,
  A1 18 (.ari .mul (.t 16) (.t 17)),
  mt 0 18])))
 (.reg [mt 8 1,
  A1 9 (.ari .shr (.t 8) (cU 1)),
  mt 1 9])))))
 (sr [mt 19 5,
  mt 4 19]
 (.ret)))))
def Aei:LF:=⟨Alk,2,0,20,[.tmp 4]⟩
def OQ:LC:=(sr [A1 6 (.mv (cU 0))]
 (.seq (sr [mt 8 0]
 (.block 0 (sr [A1 10 (.ari .eql (.t 8) (cI 11)),
  mt 9 10]
 (.cond (.t 9) (.seq (sr [mt 11 1,
  A1 12 (.ari .geq (.t 11) (cU 7))]
 (.cond (.t 12) (sr [mt 13 2,
  mt 6 13]
 (.ret)) (.skip)))
 (sr [mt 14 1,
  A1 15 (.ari .mul (cU 8) (.t 14)),
  A1 16 (.ari .sub (cU 56) (.t 15)),
  mt 7 16]
 (sr [mt 17 2,
  mt 18 7,
  A1 19 (.ari .shl (.t 17) (.t 18)),
  A1 20 (.conv .i64 (.t 19)),
  mt 21 7,
  A1 22 (.ari .shr (.t 20) (.t 21)),
  A1 23 (.conv .u64 (.t 22)),
  mt 6 23]
 (.ret)))) (sr [A1 25 (.ari .eql (.t 8) (cI 12)),
  mt 24 25]
 (.cond (.t 24) (.seq (sr [mt 26 1,
  A1 27 (.ari .gtr (.t 26) (cU 7))]
 (.cond (.t 27) (sr [A1 6 (.mv (cU 0))]
 (.ret)) (.skip)))
 (sr [mt 28 2,
  mt 29 1,
  A1 30 (.ari .mul (cU 8) (.t 29)),
  A1 31 (.ari .sub (cU 56) (.t 30)),
  A1 32 (.ari .shr (.t 28) (.t 31)),
  A1 33 (.ari .and (.t 32) (cU 255)),
  mt 6 33]
 (.ret))) (sr [A1 35 (.ari .eql (.t 8) (cI 13)),
  mt 34 35]
 (.cond (.t 34) (sr [mt 36 2,
  mt 37 1,
  A1 38 (.ari .shl (.t 36) (.t 37)),
  mt 6 38]
 (.ret)) (sr [A1 40 (.ari .eql (.t 8) (cI 14)),
  mt 39 40]
 (.cond (.t 39) (sr [mt 41 2,
  mt 42 1,
  A1 43 (.ari .shr (.t 41) (.t 42)),
  mt 6 43]
 (.ret)) (.skip)))))))))))
 (sr [mt 44 2,
  A1 45 (.conv .i64 (.t 44)),
  mt 46 1,
  A1 47 (.ari .shr (.t 45) (.t 46)),
  A1 48 (.conv .u64 (.t 47)),
  mt 6 48]
 (.ret))))
def NF:LF:=⟨OQ,3,0,49,[.tmp 6]⟩
def Amc:LC:=(sr [A1 2 (.mv (cU 0))]
 (.seq (sr [mt 3 0]
 (.cond (.t 3) (sr [A1 2 (.mv (cU 1))]
 (.ret)) (.skip)))
 (sr [A1 2 (.mv (cU 0))]
 (.ret))))
def Agb:LF:=⟨Amc,1,0,4,[.tmp 2]⟩
def Amg:LC:=(sr [A1 4 (.mv (cU 0)),
 A1 5 (.mv (cU 0))]
 (sr [mt 14 0,
  A1 15 (.ari .and (.t 14) (cU 4294967295)),
  mt 6 15]
 (sr [mt 16 0,
  A1 17 (.ari .shr (.t 16) (cU 32)),
  mt 7 17]
 (sr [mt 18 1,
  A1 19 (.ari .and (.t 18) (cU 4294967295)),
  mt 8 19]
 (sr [mt 20 1,
  A1 21 (.ari .shr (.t 20) (cU 32)),
  mt 9 21]
 (sr [mt 22 6,
  mt 23 8,
  A1 24 (.ari .mul (.t 22) (.t 23)),
  mt 10 24]
 (sr [mt 25 7,
  mt 26 8,
  A1 27 (.ari .mul (.t 25) (.t 26)),
  mt 28 10,
  A1 29 (.ari .shr (.t 28) (cU 32)),
  A1 30 (.ari .add (.t 27) (.t 29)),
  mt 11 30]
 (sr [mt 31 11,
  A1 32 (.ari .and (.t 31) (cU 4294967295)),
  mt 12 32]
 (sr [mt 33 11,
  A1 34 (.ari .shr (.t 33) (cU 32)),
  mt 13 34]
 (sr [mt 35 12,
  mt 36 6,
  mt 37 9,
  A1 38 (.ari .mul (.t 36) (.t 37)),
  A1 39 (.ari .add (.t 35) (.t 38)),
  mt 12 39]
 (sr [mt 40 7,
  mt 41 9,
  A1 42 (.ari .mul (.t 40) (.t 41)),
  mt 43 13,
  A1 44 (.ari .add (.t 42) (.t 43)),
  mt 45 12,
  A1 46 (.ari .shr (.t 45) (cU 32)),
  A1 47 (.ari .add (.t 44) (.t 46)),
  mt 4 47]
 (sr [mt 48 0,
  mt 49 1,
  A1 50 (.ari .mul (.t 48) (.t 49)),
  mt 5 50]
 (.ret)))))))))))))
def Ad9:LF:=⟨Amg,2,0,51,[.tmp 4,.tmp 5]⟩
def Ags:LC:=(sr [A1 6 (.mv (cU 0)),
 A1 7 (.mv (cU 0))]
 (.seq (sr [mt 19 2,
  A1 20 (.ari .eql (.t 19) (cU 0))]
 (.cond (.t 20) (.reg [A1 21 .nope ,
  A0 .nope ]) (.skip)))
 (.seq (sr [mt 22 2,
  mt 23 0,
  A1 24 (.ari .leq (.t 22) (.t 23))]
 (.cond (.t 24) (.reg [A1 25 .nope ,
  A0 .nope ]) (.skip)))
 (.seq (sr [mt 26 0,
  A1 27 (.ari .eql (.t 26) (cU 0))]
 (.cond (.t 27) (.seq (.regd [⟨0,0,mt 28 1⟩,
  ⟨1,0,mt 29 2⟩,
  ⟨2,3,A1 30 (.ari .quo (.t 28) (.t 29))⟩,
  ⟨3,0,mt 31 1⟩,
  ⟨4,0,mt 32 2⟩,
  ⟨5,24,A1 33 (.ari .rem (.t 31) (.t 32))⟩,
  ⟨6,7,mt 6 30⟩,
  ⟨7,127,mt 7 33⟩])
 (.ret)) (.skip)))
 (sr [mt 34 2,
  kl 35 463 [(.t 34)],
  A1 36 (.conv .u64 (.t 35)),
  mt 8 36]
 (sr [mt 37 2,
  mt 38 8,
  A1 39 (.ari .shl (.t 37) (.t 38)),
  mt 2 39]
 (sr [mt 40 2,
  A1 41 (.ari .shr (.t 40) (cU 32)),
  mt 9 41]
 (sr [mt 42 2,
  A1 43 (.ari .and (.t 42) (cU 4294967295)),
  mt 10 43]
 (sr [mt 44 0,
  mt 45 8,
  A1 46 (.ari .shl (.t 44) (.t 45)),
  mt 47 1,
  mt 48 8,
  A1 49 (.ari .sub (cU 64) (.t 48)),
  A1 50 (.ari .shr (.t 47) (.t 49)),
  A1 51 (.ari .or (.t 46) (.t 50)),
  mt 11 51]
 (sr [mt 52 1,
  mt 53 8,
  A1 54 (.ari .shl (.t 52) (.t 53)),
  mt 12 54]
 (sr [mt 55 12,
  A1 56 (.ari .shr (.t 55) (cU 32)),
  mt 13 56]
 (sr [mt 57 12,
  A1 58 (.ari .and (.t 57) (cU 4294967295)),
  mt 14 58]
 (sr [mt 59 11,
  mt 60 9,
  A1 61 (.ari .quo (.t 59) (.t 60)),
  mt 15 61]
 (sr [mt 62 11,
  mt 63 15,
  mt 64 9,
  A1 65 (.ari .mul (.t 63) (.t 64)),
  A1 66 (.ari .sub (.t 62) (.t 65)),
  mt 16 66]
 (.seq (.block 0 (.loop (.seq (sr [mt 67 15,
  A1 68 (.ari .geq (.t 67) (cU 4294967296)),
  mt 69 68,
  A2 70 69 false (.mv (.t 15)),
  A2 71 69 false (.mv (.t 10)),
  A2 72 69 false (.ari .mul (.t 70) (.t 71)),
  A2 73 69 false (.mv (.t 16)),
  A2 74 69 false (.ari .mul (cU 4294967296) (.t 73)),
  A2 75 69 false (.mv (.t 13)),
  A2 76 69 false (.ari .add (.t 74) (.t 75)),
  A2 77 69 false (.ari .gtr (.t 72) (.t 76)),
  A1 78 (.pick (.t 69) (.c (.bool true)) (.t 77))]
 (.cond (.t 78) (.skip) (.exit 0)))
 (.block 1 (sr [mt 79 15,
  A1 80 (.ari .sub (.t 79) (cU 1)),
  mt 15 80]
 (sr [mt 81 16,
  mt 82 9,
  A1 83 (.ari .add (.t 81) (.t 82)),
  mt 16 83]
 (sr [mt 84 16,
  A1 85 (.ari .geq (.t 84) (cU 4294967296))]
 (.cond (.t 85) (.exit 0) (.skip)))))))))
 (sr [mt 86 11,
  A1 87 (.ari .mul (.t 86) (cU 4294967296)),
  mt 88 13,
  A1 89 (.ari .add (.t 87) (.t 88)),
  mt 90 15,
  mt 91 2,
  A1 92 (.ari .mul (.t 90) (.t 91)),
  A1 93 (.ari .sub (.t 89) (.t 92)),
  mt 17 93]
 (sr [mt 94 17,
  mt 95 9,
  A1 96 (.ari .quo (.t 94) (.t 95)),
  mt 18 96]
 (sr [mt 97 17,
  mt 98 18,
  mt 99 9,
  A1 100 (.ari .mul (.t 98) (.t 99)),
  A1 101 (.ari .sub (.t 97) (.t 100)),
  mt 16 101]
 (.seq (.block 2 (.loop (.seq (sr [mt 102 18,
  A1 103 (.ari .geq (.t 102) (cU 4294967296)),
  mt 104 103,
  A2 105 104 false (.mv (.t 18)),
  A2 106 104 false (.mv (.t 10)),
  A2 107 104 false (.ari .mul (.t 105) (.t 106)),
  A2 108 104 false (.mv (.t 16)),
  A2 109 104 false (.ari .mul (cU 4294967296) (.t 108)),
  A2 110 104 false (.mv (.t 14)),
  A2 111 104 false (.ari .add (.t 109) (.t 110)),
  A2 112 104 false (.ari .gtr (.t 107) (.t 111)),
  A1 113 (.pick (.t 104) (.c (.bool true)) (.t 112))]
 (.cond (.t 113) (.skip) (.exit 2)))
 (.block 3 (sr [mt 114 18,
  A1 115 (.ari .sub (.t 114) (cU 1)),
  mt 18 115]
 (sr [mt 116 16,
  mt 117 9,
  A1 118 (.ari .add (.t 116) (.t 117)),
  mt 16 118]
 (sr [mt 119 16,
  A1 120 (.ari .geq (.t 119) (cU 4294967296))]
 (.cond (.t 120) (.exit 2) (.skip)))))))))
 (sr [mt 121 15,
  A1 122 (.ari .mul (.t 121) (cU 4294967296)),
  mt 123 18,
  A1 124 (.ari .add (.t 122) (.t 123)),
  mt 125 17,
  A1 126 (.ari .mul (.t 125) (cU 4294967296)),
  mt 127 14,
  A1 128 (.ari .add (.t 126) (.t 127)),
  mt 129 18,
  mt 130 2,
  A1 131 (.ari .mul (.t 129) (.t 130)),
  A1 132 (.ari .sub (.t 128) (.t 131)),
  mt 133 8,
  A1 134 (.ari .shr (.t 132) (.t 133)),
  mt 6 124,
  mt 7 134]
 (.ret)))))))))))))))))))))
def Abi:LF:=⟨Ags,3,0,135,[.tmp 6,.tmp 7]⟩
def XD:LC:=(sr [A1 2 (.mv (cI 0))]
 (.seq (sr [mt 3 0,
  A1 4 (.ari .geq (.t 3) (cU 4294967296))]
 (.cond (.t 4) (sr [mt 5 0,
  A1 6 (.ari .shr (.t 5) (cU 32)),
  mt 0 6]
 (.reg [A1 2 (.mv (cI 32))])) (.skip)))
 (.seq (sr [mt 7 0,
  A1 8 (.ari .geq (.t 7) (cU 65536))]
 (.cond (.t 8) (sr [mt 9 0,
  A1 10 (.ari .shr (.t 9) (cU 16)),
  mt 0 10]
 (.reg [mt 11 2,
  A1 12 (.ari .add (.t 11) (cI 16)),
  mt 2 12])) (.skip)))
 (.seq (sr [mt 13 0,
  A1 14 (.ari .geq (.t 13) (cU 256))]
 (.cond (.t 14) (sr [mt 15 0,
  A1 16 (.ari .shr (.t 15) (cU 8)),
  mt 0 16]
 (.reg [mt 17 2,
  A1 18 (.ari .add (.t 17) (cI 8)),
  mt 2 18])) (.skip)))
 (sr [mt 19 2,
  mt 20 0,
  A1 21 (.conv .u8 (.t 20)),
  A1 22 (.sidx (.c (.str ZS)) (.t 21)),
  A1 23 (.conv .i64 (.t 22)),
  A1 24 (.ari .add (.t 19) (.t 23)),
  mt 2 24]
 (.ret))))))
def T2:LF:=⟨XD,1,0,25,[.tmp 2]⟩
def Aky:LC:=(sr [A1 2 (.mv (cI 0))]
 (sr [mt 3 0,
  kl 4 259 [(.t 3)],
  A1 5 (.ari .sub (cI 64) (.t 4)),
  mt 2 5]
 (.ret)))
def Aga:LF:=⟨Aky,1,0,6,[.tmp 2]⟩
variable {M:Seat}
def Lcb:=(aq3 @Ga @Qh.eq_1 @P3.eq_1)
structure OkP (M:Seat):Prop where
 k215:Al M 215 Ua=true
 k321:Al M 321 YY=true
 k322:Al M 322 UD=true
 k323:Al M 323 Aei=true
 k324:Al M 324 NF=true
 k325:Al M 325 Agb=true
 k421:Al M 421 Ad9=true
 k423:Al M 423 Abi=true
 k259:Al M 259 T2=true
 k463:Al M 463 Aga=true
def Vg (t:Bool):BitVec 64:=if t then 1#64 else 0#64
theorem UA (ok:OkP M) (t:Bool):Af M 325 [.bool t] [] 0 (Q3 (W (Vg t)) [] 0):=by
 refine Ac ok.k325 rfl fun x hx=>?_
 cases t
 all_goals refine es 2000 ?_;(simp only [Agb,Amc,LZ,seval])
 all_goals (have zz:=@Vg.eq_1;exact Bg hx [] ⟨rfl,rfl,rfl⟩)
def E3 (op:Nat) (a b:BitVec 64):BitVec 64 :=
 if b=0#64 then 0#64 else if op=4 then a / b else if op=6 then a % b
 else if op=5 then (if ((a.toInt < 0) ↔ (b.toInt < 0)) then (if a.toInt < 0 then -a else a) / (if b.toInt < 0 then -b else b) else -((if a.toInt < 0 then -a else a) / (if b.toInt < 0 then -b else b)))
 else if a.toInt < 0 then -((-a) % (if b.toInt < 0 then -b else b)) else a % (if b.toInt < 0 then -b else b)
theorem MV (ok:OkP M) (op:Nat) (ho:op=4 ∨ op=5 ∨ op=6 ∨ op=7) (a b:BitVec 64):Af M 321 [.int .i64 op,W a,W b] [] 0 (Q3 (W (E3 op a b)) [] 0):=by
 refine Ac ok.k321 rfl fun x hx=>?_
 by_cases hb:b=0#64
 ·subst hb
  refine es 2000 ?_;(simp only [YY,Agr,LZ,seval])
  have zz:=@E3.eq_1;exact Bg hx [] ⟨rfl,rfl,rfl⟩
 ·have hn:¬ -b=0#64:=fun h=>hb (by have:=congrArg (fun x=>-x) h;simpa using this)
  have e0:(b ≠ 0)=True:=eq_true hb
  have e1:(-b ≠ 0)=True:=eq_true hn
  rcases Classical.propComplete (a.toInt < 0) with h1 | h1 <;> rcases Classical.propComplete (b.toInt < 0) with h2 | h2 <;> rcases ho with rfl | rfl | rfl | rfl
  all_goals simp only [E3,hb,h1,h2,Vj,seval,iff_self,iff_true,iff_false,true_iff,false_iff,not_false_eq_true]
  all_goals refine es 2000 ?_;(simp only [YY,Agr,hb,h1,h2,e0,e1,Lbp,seval])
  all_goals repeat refine sd ?_
  all_goals exact Aq.mkZ hx [] ⟨rfl,rfl,rfl⟩
def Yd:Nat→BitVec 64→BitVec 64→BitVec 64→BitVec 64
 | 0,_,_,p=>p
 | k + 1,a,b,p=>if b=0#64 then p else Yd k (a * a) (b >>> 1) (if b &&& 1#64=1#64 then p * a else p)
theorem QD (ok:OkP M) (a b:BitVec 64):Af M 323 [W a,W b] [] 0 (Q3 (W (Yd 64 a b 1#64)) [] 0):=by
 refine Ac ok.k323 rfl fun x hx=>?_
 generalize hF:Yd 64 a b 1#64=F
 refine es 2000 ?_;(simp only [Aei,Alk,LZ,seval])
 refine Ag (σ:=Nat × BitVec 64 × BitVec 64 × BitVec 64) (fun s=>Yd s.1 s.2.1 s.2.2.1 s.2.2.2=F∧s.2.2.1.toNat < 2 ^ s.1) (fun s=>fr 20 [(0,W s.2.1),(1,W s.2.2.1),(5,W s.2.2.2)]) (fun _=>[]) (fun _=>0) (fun s=>s.1) (64,a,b,1#64) ⟨hF,b.isLt⟩ ?_ ?_
 ·refine Aj.fr [] [] hx Ax Ak ?_ ?_
  ·simp only [LY,seval]
  ·trivial
 ·rintro ⟨k,a,b,p⟩ ⟨h1,h2⟩
  dsimp only at h1 h2
  refine es 2000 ?_
  by_cases h0:b=0#64
  ·subst h0
   have hp:p=F:=by
    cases k with
    | zero=>exact h1
    | succ k=>rw [Yd,if_pos rfl] at h1;exact h1
   subst hp
   (simp only [LZ,seval])
   exact Aq.mkZ hx [] ⟨rfl,rfl,rfl⟩
  ·have hg:(0#64 < b)=True:=eq_true (by
    rw [BitVec.lt_def]
    have:b.toNat ≠ 0:=fun h=>h0 (BitVec.eq_of_toNat_eq Jk)
    show 0 < b.toNat;omega)
   cases k with
   | zero=>exact absurd (BitVec.eq_of_toNat_eq (by have:b.toNat < 1:=h2;show b.toNat=0;omega)) h0
   | succ k =>
     rw [Yd,if_neg h0] at h1
     have hs:(b >>> 1).toNat < 2 ^ k:=by
      rw [BitVec.toNat_ushiftRight,Nat.shiftRight_eq_div_pow]
      rw [Nat.pow_succ] at h2;omega
     by_cases h3:b &&& 1#64=1#64
     ·rw [if_pos h3] at h1
      (simp only [hg,h3,LZ,seval])
      refine ⟨(k,a * a,b >>> 1,p * a),h1,hs,by omega,?_⟩
      refine Aj.fr [] [] hx Ax Ak ?_ ?_
      ·simp only [LY,seval]
      ·trivial
     ·rw [if_neg h3] at h1
      (simp only [hg,h3,LZ,seval])
      refine ⟨(k,a * a,b >>> 1,p),h1,hs,by omega,?_⟩
      refine Aj.fr [] [] hx Ax Ak ?_ ?_
      ·simp only [LY,seval]
      ·trivial
variable {M:Seat}
def UH (a b:BitVec 64):BitVec 64 :=
 (a >>> 32) * (b >>> 32) + (((a >>> 32) * (b &&& 4294967295#64) + ((a &&& 4294967295#64) * (b &&& 4294967295#64)) >>> 32) >>> 32)
  + ((((a >>> 32) * (b &&& 4294967295#64) + ((a &&& 4294967295#64) * (b &&& 4294967295#64)) >>> 32) &&& 4294967295#64) + (a &&& 4294967295#64) * (b >>> 32)) >>> 32
theorem KE (ok:OkP M) (a b:BitVec 64):Af M 421 [W a,W b] [] 0 (Q3 (Ao (W (UH a b)) (W (a * b))) [] 0):=by
 refine Ac ok.k421 rfl fun x hx=>?_
 have e32:(32#64).toNat=32:=rfl
 refine es 2000 ?_;(simp only [Ad9,Amg,e32,LZ,seval])
 exact Aq.mkZ hx [] ⟨rfl,rfl,rfl⟩
theorem Ly (a:BitVec 64):(a &&& 4294967295#64).toNat=a.toNat % 4294967296:=by
 have e:(4294967295#64).toNat=2 ^ 32 - 1:=Ak
 rw [BitVec.toNat_and,e,Nat.and_two_pow_sub_one_eq_mod]
theorem Eu (a:BitVec 64):(a >>> 32).toNat=a.toNat / 4294967296:=by
 rw [BitVec.toNat_ushiftRight,Nat.shiftRight_eq_div_pow]
theorem IL {p q:Nat} (hp:p < 4294967296) (hq:q < 4294967296):p * q≤18446744065119617025:=by
 have:=Nat.mul_le_mul (show p≤4294967295 by omega) (show q≤4294967295 by omega)
 omega
theorem Q0 {p q:BitVec 64} (hp:p.toNat < 4294967296) (hq:q.toNat < 4294967296):(p * q).toNat=p.toNat * q.toNat:=by
 have:=IL hp hq
 rw [BitVec.toNat_mul,Nat.mod_eq_of_lt Aa]
theorem Rg {p q:BitVec 64} (h:p.toNat + q.toNat < 18446744073709551616):(p + q).toNat=p.toNat + q.toNat:=by
 rw [BitVec.toNat_add,Nat.mod_eq_of_lt Aa]
theorem NJ (a b:BitVec 64):(UH a b).toNat=a.toNat * b.toNat / 18446744073709551616:=by
 have ha:=a.isLt
 have hb:=b.isLt
 have l1:(a &&& 4294967295#64).toNat < 4294967296:=by rw [Ly];omega
 have l2:(b &&& 4294967295#64).toNat < 4294967296:=by rw [Ly];omega
 have l3:(a >>> 32).toNat < 4294967296:=by rw [Eu];omega
 have l4:(b >>> 32).toNat < 4294967296:=by rw [Eu];omega
 have m1:=Q0 l1 l2
 have m2:=Q0 l3 l2
 have m3:=Q0 l1 l4
 have m4:=Q0 l3 l4
 have b1:=IL l1 l2
 have b2:=IL l3 l2
 have b3:=IL l1 l4
 have b4:=IL l3 l4
 have ea:a.toNat=(a >>> 32).toNat * 4294967296 + (a &&& 4294967295#64).toNat:=ZV
 have eb:b.toNat=(b >>> 32).toNat * 4294967296 + (b &&& 4294967295#64).toNat:=ZV
 have ep:a.toNat * b.toNat=(a >>> 32).toNat * (b >>> 32).toNat * 18446744073709551616 + ((a >>> 32).toNat * (b &&& 4294967295#64).toNat + (a &&& 4294967295#64).toNat * (b >>> 32).toNat) * 4294967296 + (a &&& 4294967295#64).toNat * (b &&& 4294967295#64).toNat:=by
  rw [ea,eb]
  generalize (a >>> 32).toNat=p
  generalize (b >>> 32).toNat=q
  generalize (a &&& 4294967295#64).toNat=r
  generalize (b &&& 4294967295#64).toNat=s
  rw [Nat.add_mul,Nat.mul_add,Nat.mul_add,Nat.mul_mul_mul_comm,Nat.mul_right_comm p _ s,← Nat.mul_assoc r q,Nat.add_mul]
  omega
 rw [ep]
 unfold UH
 generalize (a &&& 4294967295#64)=x0 at *
 generalize (b &&& 4294967295#64)=y0 at *
 generalize (a >>> 32)=x1 at *
 generalize (b >>> 32)=y1 at *
 have t1:(x1 * y0 + (x0 * y0) >>> 32).toNat=x1.toNat * y0.toNat + x0.toNat * y0.toNat / 4294967296:=by
  rw [Rg (by rw [Eu,m1,m2];omega),Eu,m1,m2]
 have t2:(((x1 * y0 + (x0 * y0) >>> 32) &&& 4294967295#64) + x0 * y1).toNat=(x1.toNat * y0.toNat + x0.toNat * y0.toNat / 4294967296) % 4294967296 + x0.toNat * y1.toNat:=by
  rw [Rg (by rw [Ly,t1,m3];omega),Ly,t1,m3]
 have t3:(x1 * y1 + (x1 * y0 + (x0 * y0) >>> 32) >>> 32).toNat=x1.toNat * y1.toNat + (x1.toNat * y0.toNat + x0.toNat * y0.toNat / 4294967296) / 4294967296:=by
  rw [Rg (by rw [Eu,t1,m4];omega),Eu,t1,m4]
 rw [Rg (by rw [Eu,t2,t3];omega),Eu,t2,t3]
 omega
def I9 (i:Nat):Nat:=((ZS[i]?).getD 0).toNat
theorem Fd:∀ i,i < 256→I9 i≤8∧(i ≠ 0→1≤I9 i∧2 ^ (I9 i - 1)≤i∧i < 2 ^ I9 i):=by
 have h:(List.range 256).all (fun i=>decide (I9 i≤8) && (i == 0 || (decide (1≤I9 i) && decide (2 ^ (I9 i - 1)≤i) && decide (i < 2 ^ I9 i))))=true:=by kernel_rfl
 intro i hi
 have:=List.all_eq_true.1 h i (List.mem_range.2 hi)
 simp only [Bool.and_eq_true,Bool.or_eq_true,beq_iff_eq,decide_eq_true_eq] at this
 exact ⟨this.1,fun h0=>by rcases this.2 with h | h;exact absurd h h0;exact ⟨h.1.1,h.1.2,h.2⟩⟩
def OE (x:BitVec 64):Nat × BitVec 64:=if 4294967296#64≤x then (32,x >>> 32) else (0,x)
def PE (s:Nat × BitVec 64):Nat × BitVec 64:=if 65536#64≤s.2 then (s.1 + 16,s.2 >>> 16) else s
def Lv (s:Nat × BitVec 64):Nat × BitVec 64:=if 256#64≤s.2 then (s.1 + 8,s.2 >>> 8) else s
def Ec (x:BitVec 64):Nat:=(Lv (PE (OE x))).1 + I9 (Lv (PE (OE x))).2.toNat
theorem UM {n t i x:Nat} (hi:x / 2 ^ n=i) (h1:1≤t) (h2:2 ^ (t - 1)≤i) (h3:i < 2 ^ t):2 ^ (n + t - 1)≤x∧x < 2 ^ (n + t):=by
 have hp:0 < 2 ^ n:=Nat.two_pow_pos n
 have e1:2 ^ (n + t - 1)=2 ^ (t - 1) * 2 ^ n:=Aau
 have e2:2 ^ (n + t)=2 ^ t * 2 ^ n:=Aau
 rw [e1,e2]
 subst hi
 exact ⟨Nat.le_trans (Nat.mul_le_mul_right _ h2) (Nat.div_mul_le_self x _),(Nat.div_lt_iff_lt_mul hp).1 h3⟩
theorem PL (x:BitVec 64):∃ n,(Lv (PE (OE x))).1=n∧n≤56∧(Lv (PE (OE x))).2.toNat < 256∧x.toNat / 2 ^ n=(Lv (PE (OE x))).2.toNat∧(x ≠ 0#64→(Lv (PE (OE x))).2.toNat ≠ 0):=by
 have hx:=x.isLt
 have hz:x ≠ 0#64→x.toNat ≠ 0:=fun h h'=>h (BitVec.eq_of_toNat_eq (by simpa using h'))
 have e1:(4294967296#64).toNat=4294967296:=rfl
 have e2:(65536#64).toNat=65536:=rfl
 have e3:(256#64).toNat=256:=rfl
 by_cases h1:4294967296#64≤x
 all_goals simp only [OE,h1,CD,PE]
 ·have g1:=h1
  rw [BitVec.le_def,e1] at g1
  by_cases h2:65536#64≤x >>> 32
  all_goals simp only [h2,CD,Lv]
  ·have g2:=h2
   rw [BitVec.le_def,e2,BitVec.toNat_ushiftRight,Nat.shiftRight_eq_div_pow] at g2
   by_cases h3:256#64≤x >>> 32 >>> 16
   all_goals simp only [h3,CD]
   all_goals (have g3:=h3;rw [BitVec.le_def,e3,BitVec.toNat_ushiftRight,Nat.shiftRight_eq_div_pow,BitVec.toNat_ushiftRight,Nat.shiftRight_eq_div_pow] at g3)
   all_goals try simp only [Lb4]
   ·exact ⟨56,rfl,by omega,by omega,by omega,by omega⟩
   ·exact ⟨48,rfl,by omega,by omega,by omega,by omega⟩
  ·have g2:=h2
   rw [BitVec.le_def,e2,BitVec.toNat_ushiftRight,Nat.shiftRight_eq_div_pow] at g2
   by_cases h3:256#64≤x >>> 32
   all_goals simp only [h3,CD]
   all_goals (have g3:=h3;rw [BitVec.le_def,e3,BitVec.toNat_ushiftRight,Nat.shiftRight_eq_div_pow] at g3)
   all_goals try simp only [Lb4]
   ·exact ⟨40,rfl,by omega,by omega,by omega,by omega⟩
   ·exact ⟨32,rfl,by omega,by omega,by omega,by omega⟩
 ·have g1:=h1
  rw [BitVec.le_def,e1] at g1
  by_cases h2:65536#64≤x
  all_goals simp only [h2,CD,Lv]
  ·have g2:=h2
   rw [BitVec.le_def,e2] at g2
   by_cases h3:256#64≤x >>> 16
   all_goals simp only [h3,CD]
   all_goals (have g3:=h3;rw [BitVec.le_def,e3,BitVec.toNat_ushiftRight,Nat.shiftRight_eq_div_pow] at g3)
   all_goals try simp only [Lb4]
   ·exact ⟨24,rfl,by omega,by omega,by omega,by omega⟩
   ·exact ⟨16,rfl,by omega,by omega,by omega,by omega⟩
  ·have g2:=h2
   rw [BitVec.le_def,e2] at g2
   by_cases h3:256#64≤x
   all_goals simp only [h3,CD]
   all_goals (have g3:=h3;rw [BitVec.le_def,e3] at g3)
   all_goals try simp only [Lb4]
   ·exact ⟨8,rfl,by omega,by omega,by omega,by omega⟩
   ·exact ⟨0,rfl,by omega,by omega,by omega,by omega⟩
theorem PP (x:BitVec 64):Ec x≤64∧(x ≠ 0#64→1≤Ec x∧2 ^ (Ec x - 1)≤x.toNat∧x.toNat < 2 ^ Ec x):=by
 obtain ⟨n,h1,h2,h3,h4,h5⟩:=PL x
 obtain ⟨q1,q2⟩:=Fd _ h3
 unfold Ec
 rw [h1]
 refine ⟨by omega,fun h0=>?_⟩
 obtain ⟨k1,k2,k3⟩:=q2 (h5 h0)
 obtain ⟨j1,j2⟩:=UM h4 k1 k2 k3
 exact ⟨by omega,j1,j2⟩
theorem JI (b:BitVec 8) (H:Hp):XF (.str ZS) (B b) H=⟨True,.int .u8 (I9 b.toNat),H⟩:=by
 have h:=b.isLt
 have hs:ZS.size=256:=rfl
 show (⟨_,_,_⟩:Out)=_
 congr 1
 exact eq_true ⟨by omega,by rw [hs];omega⟩
theorem IH {n:Nat} (h:n < 9223372036854775808):IntKind.i64.wrap (n:Int)=n:=AI Aa
theorem Io (k:Int) (y:Nat) (hy:y < 256) (h0:0≤k) (h1:k≤56):IntKind.i64.wrap (k + (I9 y:Int))=k + (I9 y:Int):=by
 have:=(Fd y hy).1
 rw [AI Aa]
theorem Qp (ok:OkP M) (a:BitVec 64):Af M 259 [W a] [] 0 (Q3 (.int .i64 (Ec a)) [] 0):=by
 refine Ac ok.k259 rfl fun x hx=>?_
 have e32:(32#64).toNat=32:=rfl
 have e16:(16#64).toNat=16:=rfl
 have e8:(8#64).toNat=8:=rfl
 have w0:IntKind.i64.wrap 0=0:=rfl
 have w1:IntKind.i64.wrap 48=48:=rfl
 have w2:IntKind.i64.wrap 56=56:=rfl
 have w3:IntKind.i64.wrap 40=40:=rfl
 have w4:IntKind.i64.wrap 16=16:=rfl
 have w5:IntKind.i64.wrap 24=24:=rfl
 have w6:IntKind.i64.wrap 8=8:=rfl
 have w7:IntKind.i64.wrap 32=32:=rfl
 have hlen:=PL a
 unfold Ec
 have ht:∀ y:BitVec 64,y.toNat < 256→((BitVec.setWidth 8 y).toNat=y.toNat∧I9 y.toNat≤8):=fun y hy=>⟨by rw [BitVec.toNat_setWidth];omega,(Fd _ hy).1⟩
 by_cases h1:4294967296#64≤a
 all_goals simp only [OE,h1,CD,PE] at hlen ⊢
 ·by_cases h2:65536#64≤a >>> 32
  all_goals simp only [h2,CD,Lv] at hlen ⊢
  ·by_cases h3:256#64≤a >>> 32 >>> 16
   all_goals simp only [h3,CD] at hlen ⊢
   all_goals obtain ⟨n,hn,hn2,hy,-⟩:=hlen
   all_goals obtain ⟨hq,hk⟩:=ht _ hy
   all_goals (refine es 2000 ?_;(simp only [T2,XD,e32,e16,e8,w0,w1,w2,w3,w4,w5,w6,w7,h1,h2,h3,JI,hq,IH (Nat.lt_of_le_of_lt hk (by decide:8 < 9223372036854775808)),Io 56 _ hy Aa Aa,Io 48 _ hy Aa Aa,Io 40 _ hy Aa Aa,Io 32 _ hy Aa Aa,Io 24 _ hy Aa Aa,Io 16 _ hy Aa Aa,Io 8 _ hy Aa Aa,Int.zero_add,IH (Nat.lt_of_le_of_lt (Fd _ hy).1 (by decide:8 < 9223372036854775808)),LZ,seval]);exact Aq.mkZ hx [] ⟨rfl,rfl,rfl⟩)
  ·by_cases h3:256#64≤a >>> 32
   all_goals simp only [h3,CD] at hlen ⊢
   all_goals obtain ⟨n,hn,hn2,hy,-⟩:=hlen
   all_goals obtain ⟨hq,hk⟩:=ht _ hy
   all_goals (refine es 2000 ?_;(simp only [T2,XD,e32,e16,e8,w0,w1,w2,w3,w4,w5,w6,w7,h1,h2,h3,JI,hq,IH (Nat.lt_of_le_of_lt hk (by decide:8 < 9223372036854775808)),Io 56 _ hy Aa Aa,Io 48 _ hy Aa Aa,Io 40 _ hy Aa Aa,Io 32 _ hy Aa Aa,Io 24 _ hy Aa Aa,Io 16 _ hy Aa Aa,Io 8 _ hy Aa Aa,Int.zero_add,IH (Nat.lt_of_le_of_lt (Fd _ hy).1 (by decide:8 < 9223372036854775808)),LZ,seval]);exact Aq.mkZ hx [] ⟨rfl,rfl,rfl⟩)
 ·by_cases h2:65536#64≤a
  all_goals simp only [h2,CD,Lv] at hlen ⊢
  ·by_cases h3:256#64≤a >>> 16
   all_goals simp only [h3,CD] at hlen ⊢
   all_goals obtain ⟨n,hn,hn2,hy,-⟩:=hlen
   all_goals obtain ⟨hq,hk⟩:=ht _ hy
   all_goals (refine es 2000 ?_;(simp only [T2,XD,e32,e16,e8,w0,w1,w2,w3,w4,w5,w6,w7,h1,h2,h3,JI,hq,IH (Nat.lt_of_le_of_lt hk (by decide:8 < 9223372036854775808)),Io 56 _ hy Aa Aa,Io 48 _ hy Aa Aa,Io 40 _ hy Aa Aa,Io 32 _ hy Aa Aa,Io 24 _ hy Aa Aa,Io 16 _ hy Aa Aa,Io 8 _ hy Aa Aa,Int.zero_add,IH (Nat.lt_of_le_of_lt (Fd _ hy).1 (by decide:8 < 9223372036854775808)),LZ,seval]);exact Aq.mkZ hx [] ⟨rfl,rfl,rfl⟩)
  ·by_cases h3:256#64≤a
   all_goals simp only [h3,CD] at hlen ⊢
   all_goals obtain ⟨n,hn,hn2,hy,-⟩:=hlen
   all_goals obtain ⟨hq,hk⟩:=ht _ hy
   all_goals (refine es 2000 ?_;(simp only [T2,XD,e32,e16,e8,w0,w1,w2,w3,w4,w5,w6,w7,h1,h2,h3,JI,hq,IH (Nat.lt_of_le_of_lt hk (by decide:8 < 9223372036854775808)),Io 56 _ hy Aa Aa,Io 48 _ hy Aa Aa,Io 40 _ hy Aa Aa,Io 32 _ hy Aa Aa,Io 24 _ hy Aa Aa,Io 16 _ hy Aa Aa,Io 8 _ hy Aa Aa,Int.zero_add,IH (Nat.lt_of_le_of_lt (Fd _ hy).1 (by decide:8 < 9223372036854775808)),LZ,seval]);exact Aq.mkZ hx [] ⟨rfl,rfl,rfl⟩)
theorem Pp (ok:OkP M) (a:BitVec 64):Af M 463 [W a] [] 0 (Q3 (.int .i64 ((64 - Ec a:Nat):Int)) [] 0):=by
 refine Ac ok.k463 rfl fun x hx=>?_
 have h:=(PP a).1
 have w:IntKind.i64.wrap (64 - (Ec a:Int))=((64 - Ec a:Nat):Int):=A9
 refine es 2000 ?_;(simp only [Aga,Aky,LZ,seval])
 refine Ah (Qp ok a) ?_
 (simp only [w,LZ,seval])
 exact Aq.mkZ hx [] ⟨rfl,rfl,rfl⟩
end Mv
