/- A part. -/
import Derived.Test.YtfljfijnobocoaaDoorHA
set_option linter.all false
set_option maxRecDepth 20000
set_option maxHeartbeats 4000000
namespace Mv
open Go
def c89:LC:=(sr [mI 2 0,
 mI 3 0] (.seq (sr [mt 4 0,aI 5 .lss 4 1,mt 6 5,mg 7 6 false 0,A2 8 6 false (.ari .gtr (.t 7) (cI 25)),
  FB 9 6 8] (.cond (.t 9) (sr [mI 2 0,
  mI 3 10] .ret) .skip)) (.seq (sr [mt 10 0,aI 11 .eql 10 8,mt 12 11,mg 13 12 false 0,A2 14 12 false (.ari .eql (.t 13) (cI 9)),
  FB 15 12 14] (.cond (.t 15) (sr [mI 2 3,
  mI 3 0] .ret) .skip)) (.seq (sr [mt 16 0,aI 17 .eql 16 21,mt 18 17,mg 19 18 false 0,A2 20 18 false (.ari .eql (.t 19) (cI 25)),
  FB 21 18 20] (.cond (.t 21) (sr [mI 2 1,
  mI 3 0] .ret) .skip)) (sr [mI 2 2,
  mI 3 0] .ret)))))
def f89:LF:=⟨c89,1,0,22,[.tmp 2,.tmp 3]⟩
def c90:LC:=(sr [mU 8 0,
 mI 9 0] (.seq (sr [mt 18 0] (.block 0 (sr [aI 20 .eql 18 1,mt 19 20] (.cond (.t 19) (sr [mt 21 1,mt 22 2,ak 23 .add 21 22,mt 8 23,
  mI 9 0] .ret) (sr [aI 25 .eql 18 2,mt 24 25] (.cond (.t 24) (sr [mt 26 1,mt 27 2,ak 28 .sub 26 27,mt 8 28,
  mI 9 0] .ret) (sr [aI 30 .eql 18 3,mt 29 30] (.cond (.t 29) (sr [mt 32 1,mt 33 2,kl 34 226 [(.t 32),(.t 33)],mt 31 34,ee 35 31 0,ee 36 31 1,mt 10 35,mt 11 36] (sr [mt 37 11,mt 8 37,
  mI 9 0] .ret)) (.seq (sr [aI 39 .eql 18 4,mt 38 39] (.cond (.t 38) .skip (sr [aI 40 .eql 18 5,mt 38 40] (.cond (.t 38) .skip (sr [aI 41 .eql 18 6,mt 38 41] (.cond (.t 38) .skip (.reg [aI 42 .eql 18 7,mt 38 42]))))))) (.cond (.t 38) (sr [mt 43 0,mt 44 1,mt 45 2,kl 46 227 [(.t 43),(.t 44),(.t 45)],mt 8 46,
  mI 9 0] .ret) (.seq (sr [aI 48 .eql 18 8,mt 47 48] (.cond (.t 47) .skip (.reg [aI 49 .eql 18 9,mt 47 49]))) (.cond (.t 47) (.seq (sr [mt 50 3,
  aU 51 .eql 50 0] (.cond (.t 51) (sr [mU 8 0,
  mI 9 0] .ret) .skip)) (sr [mt 53 1,mt 54 2,kl 55 226 [(.t 53),(.t 54)],mt 52 55,ee 56 52 0,ee 57 52 1,mt 12 56,mt 13 57] (.seq (sr [mt 58 0,aI 59 .eql 58 8] (.cond (.t 59) (sr [mt 60 1,mt 61 2,ak 62 .add 60 61,mt 13 62] (.reg [mt 63 13,mt 64 1,ak 65 .lss 63 64,kl 66 228 [(.t 65)],mt 12 66])) .skip)) (sr [mt 68 12,mt 69 13,mt 70 3,kl 71 229 [(.t 68),(.t 69),(.t 70)],mt 67 71,ee 72 67 0,ee 73 67 1,mt 14 72,mt 15 73] (sr [mt 74 15,mt 8 74,
  mI 9 0] .ret))))) (sr [aI 76 .eql 18 10,mt 75 76] (.cond (.t 75) (sr [mU 16 1] (.seq (sr [mI 17 63] (.block 1 (.loop (.seq (sr [mt 77 17,aI 78 .geq 77 0]
 (Fy 78 1)) (.seq (.block 2 (sr [mt 81 16,mt 82 16,ak 83 .mul 81 82,mt 16 83] (sr [mt 84 2,mt 85 17,
  Ea 86 .u64 85,ak 87 .shr 84 86,
  aU 88 .and 87 1,
  aU 89 .eql 88 1] (.cond (.t 89) (.reg [mt 90 16,mt 91 1,ak 92 .mul 90 91,mt 16 92]) .skip)))) (.reg [mt 79 17,aI 80 .sub 79 1,mt 17 80])))))) (sr [mt 93 16,mt 8 93,
  mI 9 0] .ret))) (.seq (sr [aI 95 .eql 18 11,mt 94 95] (.cond (.t 94) .skip (sr [aI 96 .eql 18 12,mt 94 96] (.cond (.t 94) .skip (sr [aI 97 .eql 18 13,mt 94 97] (.cond (.t 94) .skip (sr [aI 98 .eql 18 14,mt 94 98] (.cond (.t 94) .skip (.reg [aI 99 .eql 18 15,mt 94 99]))))))))) (.cond (.t 94) (sr [mt 100 0,mt 101 1,mt 102 2,kl 103 230 [(.t 100),(.t 101),(.t 102)],mt 8 103,
  mI 9 0] .ret) (sr [aI 105 .eql 18 16,mt 104 105] (.cond (.t 104) (sr [mt 106 1,mt 107 2,ak 108 .lss 106 107,kl 109 228 [(.t 108)],mt 8 109,
  mI 9 0] .ret) (sr [aI 111 .eql 18 17,mt 110 111] (.cond (.t 110) (sr [mt 112 1,mt 113 2,ak 114 .gtr 112 113,kl 115 228 [(.t 114)],mt 8 115,
  mI 9 0] .ret) (sr [aI 117 .eql 18 18,mt 116 117] (.cond (.t 116) (sr [mt 118 1,
  aU 119 .xor 118 9223372036854775808,mt 120 2,
  aU 121 .xor 120 9223372036854775808,ak 122 .lss 119 121,kl 123 228 [(.t 122)],mt 8 123,
  mI 9 0] .ret) (sr [aI 125 .eql 18 19,mt 124 125] (.cond (.t 124) (sr [mt 126 1,
  aU 127 .xor 126 9223372036854775808,mt 128 2,
  aU 129 .xor 128 9223372036854775808,ak 130 .gtr 127 129,kl 131 228 [(.t 130)],mt 8 131,
  mI 9 0] .ret) (sr [aI 133 .eql 18 20,mt 132 133] (.cond (.t 132) (sr [mt 134 1,mt 135 2,ak 136 .eql 134 135,kl 137 228 [(.t 136)],mt 8 137,
  mI 9 0] .ret) (sr [aI 139 .eql 18 21,mt 138 139] (.cond (.t 138) (sr [mt 140 1,
  aU 141 .eql 140 0,kl 142 228 [(.t 141)],mt 8 142,
  mI 9 0] .ret) (sr [aI 144 .eql 18 22,mt 143 144] (.cond (.t 143) (sr [mt 145 1,mt 146 2,ak 147 .and 145 146,mt 8 147,
  mI 9 0] .ret) (sr [aI 149 .eql 18 23,mt 148 149] (.cond (.t 148) (sr [mt 150 1,mt 151 2,ak 152 .or 150 151,mt 8 152,
  mI 9 0] .ret) (sr [aI 154 .eql 18 24,mt 153 154] (.cond (.t 153) (sr [mt 155 1,mt 156 2,ak 157 .xor 155 156,mt 8 157,
  mI 9 0] .ret) (sr [aI 159 .eql 18 25,mt 158 159] (.cond (.t 158) (sr [mt 160 1,
  aU 161 .xor 160 18446744073709551615,mt 8 161,
  mI 9 0] .ret) .skip)))))))))))))))))))))))))))))))))))) (sr [mU 8 0,
  mI 9 10] .ret)))
def ZJ:LF:=⟨c90,4,0,162,[.tmp 8,.tmp 9]⟩
def An0:LC:=(sr [mU 4 0,
 mU 5 0] (sr [mt 13 0,
  aU 14 .and 13 4294967295,mt 15 0,
  aU 16 .shr 15 32,mt 6 14,mt 7 16] (sr [mt 17 1,
  aU 18 .and 17 4294967295,mt 19 1,
  aU 20 .shr 19 32,mt 8 18,mt 9 20] (sr [mt 21 6,mt 22 8,ak 23 .mul 21 22,mt 10 23] (sr [mt 24 7,mt 25 8,ak 26 .mul 24 25,mt 27 10,
  aU 28 .shr 27 32,ak 29 .add 26 28,mt 11 29] (sr [mt 30 6,mt 31 9,ak 32 .mul 30 31,mt 33 11,
  aU 34 .and 33 4294967295,ak 35 .add 32 34,mt 12 35] (sr [mt 36 7,mt 37 9,ak 38 .mul 36 37,mt 39 11,
  aU 40 .shr 39 32,ak 41 .add 38 40,mt 42 12,
  aU 43 .shr 42 32,ak 44 .add 41 43,mt 45 12,
  aU 46 .shl 45 32,mt 47 10,
  aU 48 .and 47 4294967295,ak 49 .or 46 48,mt 4 44,mt 5 49] .ret)))))))
def Aif:LF:=⟨An0,2,0,50,[.tmp 4,.tmp 5]⟩
def MF:LC:=(sr [mU 6 0] (.seq (sr [mt 11 2,
  aU 12 .eql 11 0] (.cond (.t 12) (sr [mU 6 0] .ret) .skip)) (.seq (sr [mt 13 0,aI 14 .eql 13 4,mt 15 14,mg 16 15 false 0,A2 17 15 false (.ari .eql (.t 16) (cI 6)),
  FB 18 15 17] (.cond (.t 18) (sr [mt 20 1,mt 21 2,kl 22 229 [(cU 0),(.t 20),(.t 21)],mt 19 22,ee 23 19 0,ee 24 19 1,mt 7 23,mt 8 24] (.seq (sr [mt 25 0,aI 26 .eql 25 4] (.cond (.t 26) (sr [mt 27 7,mt 6 27] .ret) .skip)) (sr [mt 28 8,mt 6 28] .ret))) .skip)) (sr [mt 30 1,kl 31 335 [(.t 30)],mt 32 2,kl 33 335 [(.t 32)],kl 34 229 [(cU 0),(.t 31),(.t 33)],mt 29 34,ee 35 29 0,ee 36 29 1,mt 9 35,mt 10 36] (.seq (sr [mt 37 0,aI 38 .eql 37 5,mt 39 38,mg 40 39 true 1,⟨(some 41),.call 336 [(.t 40)],(some (39,true))⟩,mg 42 39 true 2,⟨(some 43),.call 336 [(.t 42)],(some (39,true))⟩,A2 44 39 true (.eq true false .bool (.t 41) (.t 43)),
  N6 45 39 44] (.cond (.t 45) (sr [mt 46 9,
  aV 47 .sub 0 46,mt 6 47] .ret) .skip)) (.seq (sr [mt 48 0,aI 49 .eql 48 5] (.cond (.t 49) (sr [mt 50 9,mt 6 50] .ret) .skip)) (.seq (sr [mt 51 1,kl 52 336 [(.t 51)]] (.cond (.t 52) (sr [mt 53 10,
  aV 54 .sub 0 53,mt 6 54] .ret) .skip)) (sr [mt 55 10,mt 6 55] .ret))))))))
def Li:LF:=⟨MF,3,0,56,[.tmp 6]⟩
def Am2:LC:=(sr [mU 2 0] (.seq (sr [mt 3 0] (.cond (.t 3) (sr [mU 2 1] .ret) .skip)) (sr [mU 2 0] .ret)))
def Agc:LF:=⟨Am2,1,0,4,[.tmp 2]⟩
def Am5:LC:=(sr [mU 6 0,
 mU 7 0] (sr [mU 8 0,
  mU 9 0] (.seq (sr [mI 10 127] (.block 0 (.loop (.seq (sr [mt 13 10,aI 14 .geq 13 0]
 (Fy 14 0)) (.seq (.block 1 (sr [mU 11 0] (.seq (sr [mt 17 10,aI 18 .geq 17 64] (.cond (.t 18) (.reg [mt 19 0,mt 20 10,aI 21 .sub 20 64,
  Ea 22 .u64 21,ak 23 .shr 19 22,
  aU 24 .and 23 1,mt 11 24]) (.reg [mt 25 1,mt 26 10,
  Ea 27 .u64 26,ak 28 .shr 25 27,
  aU 29 .and 28 1,mt 11 29]))) (sr [mt 30 9,
  aU 31 .shr 30 63,mt 12 31] (sr [mt 32 9,
  aU 33 .shl 32 1,mt 34 11,ak 35 .or 33 34,mt 9 35] (sr [mt 36 8,
  aU 37 .shl 36 1,mt 8 37] (sr [mt 38 12,
  aU 39 .eql 38 1,mt 40 39,mg 41 40 false 9,mg 42 40 false 2,A2 43 40 false (.ari .geq (.t 41) (.t 42)),
  FB 44 40 43] (.cond (.t 44) (sr [mt 45 9,mt 46 2,ak 47 .sub 45 46,mt 9 47] (.reg [mt 48 8,
  aU 49 .or 48 1,mt 8 49])) .skip)))))))) (.reg [mt 15 10,aI 16 .sub 15 1,mt 10 16])))))) (sr [mt 50 8,mt 51 9,mt 6 50,mt 7 51] .ret))))
def Ahk:LF:=⟨Am5,3,0,52,[.tmp 6,.tmp 7]⟩
def TO:LC:=(sr [mU 6 0] (sr [mU 7 0] (.seq (sr [mU 8 0] (.block 0 (.loop (.seq (sr [mt 11 8,
  aU 12 .lss 11 64]
 (Fy 12 0)) (.seq (.block 1 (sr [mt 15 8,mt 9 15] (sr [A1 10 (.mv (.c (.bool true)))] (.seq (sr [mt 16 0] (.block 2 (sr [aI 18 .eql 16 11,mt 17 18] (.cond (.t 17) (sr [mt 19 1,
  aU 20 .lss 19 8] (.cond (.t 20) (.reg [mt 21 8,mt 22 1,
  aV 23 .mul 8 22,
  aU 24 .add 23 7,A1 25 (.mm false (.t 21) (.t 24)),mt 9 25]) .skip)) (sr [aI 27 .eql 16 12,mt 26 27] (.cond (.t 26) (sr [mt 28 8,
  aU 29 .lss 28 8,mt 30 29,mg 31 30 true 1,A2 32 30 true (.ari .lss (.t 31) (cU 8)),
  N6 33 30 32,mt 10 33] (.reg [mt 34 1,A1 35 (.mm false (.t 34) (cU 7)),
  aV 36 .mul 8 35,
  aV 37 .sub 56 36,mt 38 8,ak 39 .add 37 38,mt 9 39])) (sr [aI 41 .eql 16 13,mt 40 41] (.cond (.t 40) (sr [mt 42 1,mt 43 8,ak 44 .leq 42 43,mt 10 44] (.reg [mt 45 8,mt 46 1,ak 47 .sub 45 46,mt 9 47])) (.seq (sr [aI 49 .eql 16 14,mt 48 49] (.cond (.t 48) .skip (.reg [aI 50 .eql 16 15,mt 48 50]))) (.cond (.t 48) (sr [mt 51 1,mt 52 8,
  aV 53 .sub 64 52,ak 54 .lss 51 53,mt 10 54] (sr [mt 55 8,mt 56 1,ak 57 .add 55 56,mt 9 57] (sr [mt 58 0,aI 59 .eql 58 15,mt 60 59,mg 61 60 true 10,A2 62 60 true (.un .not (.t 61)),
  N6 63 60 62] (.cond (.t 63) (sr [A1 10 (.mv (.c (.bool true)))] (.reg [mU 9 63])) .skip)))) .skip)))))))))) (sr [mt 64 10,mt 65 64,mg 66 65 true 9,A2 67 65 true (.ari .lss (.t 66) (cU 64)),
  N6 68 65 67,mt 69 68,mg 70 69 true 2,mg 71 69 true 9,A2 72 69 true (.ari .shr (.t 70) (.t 71)),A2 73 69 true (.ari .and (.t 72) (cU 1)),A2 74 69 true (.ari .eql (.t 73) (cU 1)),
  N6 75 69 74] (.cond (.t 75) (.reg [mt 76 7,mt 77 8,
  aV 78 .shl 1 77,ak 79 .or 76 78,mt 7 79]) .skip)))))) (.reg [mt 13 8,
  aU 14 .add 13 1,mt 8 14])))))) (sr [mt 80 7,mt 6 80] .ret))))
def QV:LF:=⟨TO,3,0,81,[.tmp 6]⟩
def Agf:LC:=(sr [mU 2 0] (.seq (sr [mt 3 0,kl 4 336 [(.t 3)]] (.cond (.t 4) (sr [mt 5 0,
  aV 6 .sub 0 5,mt 2 6] .ret) .skip)) (sr [mt 7 0,mt 2 7] .ret)))
def Aei:LF:=⟨Agf,1,0,8,[.tmp 2]⟩
def Amv:LC:=(sr [A1 2 (.mv (.c (.bool false)))] (sr [mt 3 0,
  aU 4 .geq 3 9223372036854775808,mt 2 4] .ret))
def Agv:LF:=⟨Amv,1,0,5,[.tmp 2]⟩
variable {M:Seat}
structure OkX (M:Seat):Prop where
 k89:Ar M 89 f89=true
 k90:Ar M 90 ZJ=true
 k226:Ar M 226 Aif=true
 k227:Ar M 227 Li=true
 k228:Ar M 228 Agc=true
 k229:Ar M 229 Ahk=true
 k230:Ar M 230 QV=true
 k335:Ar M 335 Aei=true
 k336:Ar M 336 Agv=true
def JM (r n b:BitVec 64):Prop:=r >>> 63=1#64 ∨ n≤(r <<< 1 ||| b)
instance (r n b:BitVec 64):Decidable (JM r n b):=inferInstanceAs (Decidable (_ ∨ _))
theorem Vl (r n b q:BitVec 64) (P:Nat) (hb:b.toNat < 2) (hn:0 < n.toNat) (hr:r.toNat=P % n.toNat) (hq:q.toNat=P / n.toNat % 18446744073709551616) :
 (if JM r n b then (r <<< 1 ||| b) - n else (r <<< 1 ||| b)).toNat=(2 * P + b.toNat) % n.toNat ∧
 (if JM r n b then q <<< 1 ||| 1#64 else q <<< 1).toNat=(2 * P + b.toNat) / n.toNat % 18446744073709551616:=by
 have hrn:r.toNat < n.toNat:=by rw [hr];exact Nat.mod_lt _ hn
 have hnl:=n.isLt;have e1:(r <<< 1 ||| b).toNat=2 * r.toNat % 18446744073709551616 + b.toNat:=by
  rw [BitVec.toNat_or,BitVec.toNat_shiftLeft,Nat.shiftLeft_eq];have h2:r.toNat * 2 ^ 1 % 2 ^ 64=2 * (r.toNat % 2 ^ 63):=Aa;rw [h2,show 2 * (r.toNat % 2 ^ 63)=(r.toNat % 2 ^ 63) <<< 1 by rw [Nat.shiftLeft_eq];omega,← Nat.shiftLeft_add_eq_or_of_lt Aa,Nat.shiftLeft_eq];omega
 have e2:(r >>> 63=1#64) ↔ 18446744073709551616≤2 * r.toNat:=by
  have e:(r >>> 63).toNat=r.toNat / 9223372036854775808:=by rw [BitVec.toNat_ushiftRight,Nat.shiftRight_eq_div_pow]
  constructor
  ·intro h;rw [h] at e;have e':1=r.toNat / 9223372036854775808:=e;omega
  ·intro h;apply BitVec.eq_of_toNat_eq;rw [e];show _=1;have:=r.isLt;omega
 have hc:JM r n b ↔ n.toNat≤2 * r.toNat + b.toNat:=by
  unfold JM;rw [e2,BitVec.le_def,e1];omega
 have eP:=Nat.div_add_mod P n.toNat;rw [← hr] at eP;have eq1:(q <<< 1).toNat=2 * (P / n.toNat) % 18446744073709551616:=by
  rw [BitVec.toNat_shiftLeft,Nat.shiftLeft_eq,hq];omega
 have eq2:(q <<< 1 ||| 1#64).toNat=(2 * (P / n.toNat) + 1) % 18446744073709551616:=by
  rw [BitVec.toNat_or,eq1,show (1#64:BitVec 64).toNat=1 from rfl];have h3:2 * (P / n.toNat) % 18446744073709551616=(P / n.toNat % 9223372036854775808) <<< 1:=by rw [Nat.shiftLeft_eq];omega
  rw [h3,← Nat.shiftLeft_add_eq_or_of_lt Aa,Nat.shiftLeft_eq];omega
 by_cases h:JM r n b
 ·rw [if_pos h,if_pos h];have h':=hc.1 h;have er:(r <<< 1 ||| b) - n=BitVec.ofNat 64 (2 * r.toNat + b.toNat - n.toNat):=by
   apply BitVec.eq_of_toNat_eq;rw [BitVec.toNat_sub,e1,BitVec.toNat_ofNat];omega
  have e3:2 * P + b.toNat=n.toNat * (2 * (P / n.toNat) + 1) + (2 * r.toNat + b.toNat - n.toNat):=by
   rw [Nat.mul_add,Nat.mul_one,Nat.mul_left_comm];omega
  constructor
  ·rw [er,BitVec.toNat_ofNat,e3,Nat.mul_add_mod,Nat.mod_eq_of_lt (a:=2 * r.toNat + b.toNat - n.toNat) (b:=n.toNat) Aa,Nat.mod_eq_of_lt Aa]
  ·rw [eq2,e3,Nat.mul_add_div hn,Nat.div_eq_of_lt (a:=2 * r.toNat + b.toNat - n.toNat) (b:=n.toNat) Aa,Nat.add_zero]
 ·rw [if_neg h,if_neg h];have h':¬ n.toNat≤2 * r.toNat + b.toNat:=fun x=>h (hc.2 x);have e3:2 * P + b.toNat=n.toNat * (2 * (P / n.toNat)) + (2 * r.toNat + b.toNat):=by
   rw [Nat.mul_left_comm];omega
  constructor
  ·rw [e1,e3,Nat.mul_add_mod,Nat.mod_eq_of_lt (a:=2 * r.toNat + b.toNat) (b:=n.toNat) Aa];omega
  ·rw [eq1,e3,Nat.mul_add_div hn,Nat.div_eq_of_lt (a:=2 * r.toNat + b.toNat) (b:=n.toNat) Aa,Nat.add_zero]
theorem Pq (ok:OkX M) (t:Bool):As M 228 [.bool t] [] 0 (Q3 (W (V4 t)) [] 0):=by
 refine Ac ok.k228 rfl fun x hx=>?_;cases t;all_goals refine eX ?_;simp only [Agc,Am2,LZ,seval]
 all_goals (have zz:=@V4.eq_1;exact DD hx [] ⟨rfl,rfl,rfl⟩)
theorem ZY (a:BitVec 64):(9223372036854775808#64≤a)=(a.toInt < 0):=by
 rw [BitVec.le_def,BitVec.toInt_eq_toNat_cond];have:=a.isLt;have e:(9223372036854775808#64:BitVec 64).toNat=9223372036854775808:=rfl;rw [e];apply propext;split <;> omega
theorem BU (ok:OkX M) (a:BitVec 64):As M 336 [W a] [] 0 (Q3 (.bool (decide (a.toInt < 0))) [] 0):=by
 refine Ac ok.k336 rfl fun x hx=>?_;refine eX ?_;simp only [Agv,Amv,ZY,LZ,seval];exact Ay.mkZ hx [] ⟨rfl,rfl,rfl⟩
def Rv (a:BitVec 64):BitVec 64:=if a.toInt < 0 then -a else a
theorem Gu (ok:OkX M) (a:BitVec 64):As M 335 [W a] [] 0 (Q3 (W (Rv a)) [] 0):=by
 refine Ac ok.k335 rfl fun x hx=>?_;rcases Classical.propComplete (a.toInt < 0) with h | h
 ·have e:Rv a=0#64 - a:=by rw [Rv,if_pos (of_eq_true h),BitVec.zero_sub]
  rw [e];refine eX ?_;simp only [Aei,Agf,LZ,seval];refine Ap (BU ok a) ?_;simp only [h,LZ,seval];exact Ay.mkZ hx [] ⟨rfl,rfl,rfl⟩
 ·have e:Rv a=a:=by rw [Rv,if_neg (of_eq_false h)]
  rw [e];refine eX ?_;simp only [Aei,Agf,LZ,seval];refine Ap (BU ok a) ?_;simp only [h,LZ,seval];exact Ay.mkZ hx [] ⟨rfl,rfl,rfl⟩
theorem Afl (a b:BitVec 64):((a &&& 4294967295#64) * (b >>> 32) + ((a >>> 32) * (b &&& 4294967295#64) + ((a &&& 4294967295#64) * (b &&& 4294967295#64)) >>> 32 &&& 4294967295#64)) <<< 32 ||| ((a &&& 4294967295#64) * (b &&& 4294967295#64) &&& 4294967295#64)=a * b:=by
 have ha:=a.isLt;have hb:=b.isLt;have l1:(a &&& 4294967295#64).toNat < 4294967296:=by rw [Lm];omega
 have l2:(b &&& 4294967295#64).toNat < 4294967296:=by rw [Lm];omega
 have l3:(a >>> 32).toNat < 4294967296:=by rw [EH];omega
 have l4:(b >>> 32).toNat < 4294967296:=by rw [EH];omega
 have m1:=QY l1 l2;have m2:=QY l3 l2;have m3:=QY l1 l4;have b1:=IL l1 l2;have b2:=IL l3 l2;have b3:=IL l1 l4;have ea:a.toNat=(a >>> 32).toNat * 4294967296 + (a &&& 4294967295#64).toNat:=Aan;have eb:b.toNat=(b >>> 32).toNat * 4294967296 + (b &&& 4294967295#64).toNat:=Aan;have ep:a.toNat * b.toNat=(a >>> 32).toNat * (b >>> 32).toNat * 18446744073709551616 + ((a >>> 32).toNat * (b &&& 4294967295#64).toNat + (a &&& 4294967295#64).toNat * (b >>> 32).toNat) * 4294967296 + (a &&& 4294967295#64).toNat * (b &&& 4294967295#64).toNat:=by
  rw [ea,eb];generalize (a >>> 32).toNat=p;generalize (b >>> 32).toNat=q;generalize (a &&& 4294967295#64).toNat=r;generalize (b &&& 4294967295#64).toNat=s;rw [Nat.add_mul,Nat.mul_add,Nat.mul_add,Nat.mul_mul_mul_comm,Nat.mul_right_comm p _ s,← Nat.mul_assoc r q,Nat.add_mul];omega
 apply BitVec.eq_of_toNat_eq;rw [BitVec.toNat_mul,ep];generalize (a &&& 4294967295#64)=x0 at *
 generalize (b &&& 4294967295#64)=y0 at *
 generalize (a >>> 32)=x1 at *
 generalize (b >>> 32)=y1 at *
 have t1:(x1 * y0 + (x0 * y0) >>> 32).toNat=x1.toNat * y0.toNat + x0.toNat * y0.toNat / 4294967296:=by
  rw [PQ (by rw [EH,m1,m2];omega),EH,m1,m2]
 have t2:(x0 * y1 + ((x1 * y0 + (x0 * y0) >>> 32) &&& 4294967295#64)).toNat=x0.toNat * y1.toNat + (x1.toNat * y0.toNat + x0.toNat * y0.toNat / 4294967296) % 4294967296:=by
  rw [PQ (by rw [Lm,t1,m3];omega),Lm,t1,m3]
 rw [BitVec.toNat_or,BitVec.toNat_shiftLeft,t2,Lm,m1,Nat.shiftLeft_eq];generalize x0.toNat * y0.toNat=A at *
 generalize x1.toNat * y0.toNat=B at *
 generalize x0.toNat * y1.toNat=C at *
 have e1:(C + (B + A / 4294967296) % 4294967296) * 2 ^ 32 % 2 ^ 64=((C + (B + A / 4294967296) % 4294967296) % 4294967296) <<< 32:=by
  rw [Nat.shiftLeft_eq];omega
 rw [e1,← Nat.shiftLeft_add_eq_or_of_lt Aa,Nat.shiftLeft_eq];omega
theorem I0 (ok:OkX M) (a b:BitVec 64):As M 226 [W a,W b] [] 0 (Q3 (AP (W (TA a b)) (W (a * b))) [] 0):=by
 refine Ac ok.k226 rfl fun x hx=>?_;have e:TA a b=(a >>> 32) * (b >>> 32) + ((a >>> 32) * (b &&& 4294967295#64) + ((a &&& 4294967295#64) * (b &&& 4294967295#64)) >>> 32) >>> 32 + ((a &&& 4294967295#64) * (b >>> 32) + ((a >>> 32) * (b &&& 4294967295#64) + ((a &&& 4294967295#64) * (b &&& 4294967295#64)) >>> 32 &&& 4294967295#64)) >>> 32:=by
  rw [TA,BitVec.add_comm ((a &&& 4294967295#64) * (b >>> 32))]
 rw [e,← Afl a b];refine eX ?_;simp only [Aif,An0,LZ,seval];have zz:=@b7;exact DD hx [] ⟨rfl,rfl,rfl⟩
def E6 (hi lo:BitVec 64):Nat:=hi.toNat * 18446744073709551616 + lo.toNat
theorem Aj7 (hi lo:BitVec 64) (k:Nat) (h:64≤k):(hi >>> (k - 64) &&& 1#64).toNat=E6 hi lo / 2 ^ k % 2:=by
 obtain ⟨j,rfl⟩:∃ j,k=64 + j:=⟨k - 64,by omega⟩
 rw [BitVec.toNat_and,BitVec.toNat_ushiftRight,Nat.shiftRight_eq_div_pow,show 64 + j - 64=j by omega,show (1#64:BitVec 64).toNat=1 from rfl,Nat.and_one_is_mod,Nat.pow_add,← Nat.div_div_eq_div_mul,E6];have:=lo.isLt;have e:(hi.toNat * 18446744073709551616 + lo.toNat) / 2 ^ 64=hi.toNat:=by
  have e2:(2:Nat) ^ 64=18446744073709551616:=Ab;rw [e2];omega
 rw [e]
theorem Ag1 (hi lo:BitVec 64) (k:Nat) (h:k < 64):(lo >>> k &&& 1#64).toNat=E6 hi lo / 2 ^ k % 2:=by
 rw [BitVec.toNat_and,BitVec.toNat_ushiftRight,Nat.shiftRight_eq_div_pow,show (1#64:BitVec 64).toNat=1 from rfl,Nat.and_one_is_mod,E6];have e:hi.toNat * 18446744073709551616=2 ^ k * (2 * (hi.toNat * 2 ^ (63 - k))):=by
  have e2:(18446744073709551616:Nat)=2 ^ k * 2 * 2 ^ (63 - k):=by
   rw [← Nat.pow_succ,← Nat.pow_add,show k + 1 + (63 - k)=64 by omega]
  rw [e2,Nat.mul_assoc (2 ^ k),Nat.mul_left_comm hi.toNat,Nat.mul_left_comm hi.toNat]
 rw [e,Nat.mul_add_div (Nat.pow_pos Ab)];omega
def rsQ (hi lo n:BitVec 64):BitVec 64:=BitVec.ofNat 64 (E6 hi lo / n.toNat)
def rsR (hi lo n:BitVec 64):BitVec 64:=BitVec.ofNat 64 (E6 hi lo % n.toNat)
def rsI (hi lo n:BitVec 64) (s:Nat × BitVec 64 × BitVec 64):Prop:=s.1≤128∧s.2.2.toNat=E6 hi lo / 2 ^ s.1 % n.toNat∧s.2.1.toNat=E6 hi lo / 2 ^ s.1 / n.toNat % 18446744073709551616
theorem Yh {hi lo n:BitVec 64} (hn:0 < n.toNat) {k:Nat} {q r b q' r':BitVec 64} (h:rsI hi lo n (k + 1,q,r)) (hb:b.toNat=E6 hi lo / 2 ^ k % 2)
 (hr:r'=if JM r n b then (r <<< 1 ||| b) - n else (r <<< 1 ||| b)) (hq:q'=if JM r n b then q <<< 1 ||| 1#64 else q <<< 1):rsI hi lo n (k,q',r'):=by
 obtain ⟨h1,h2,h3⟩:=h;dsimp only at h1 h2 h3;have hs:=Vl r n b q _ Aa hn h2 h3;have e:2 * (E6 hi lo / 2 ^ (k + 1)) + b.toNat=E6 hi lo / 2 ^ k:=by
  rw [Nat.pow_succ,← Nat.div_div_eq_div_mul,hb];omega
 rw [e] at hs;exact ⟨by show k≤128;omega,by rw [hr];exact hs.1,by rw [hq];exact hs.2⟩
theorem DJ (ok:OkX M) (hi lo n:BitVec 64) (hn:0 < n.toNat):As M 229 [W hi,W lo,W n] [] 0 (Q3 (AP (W (rsQ hi lo n)) (W (rsR hi lo n))) [] 0):=by
 refine Ac ok.k229 rfl fun x hx=>?_;generalize hF:rsQ hi lo n=F;generalize hG:rsR hi lo n=G;refine eX ?_;simp only [Ahk,Am5,LZ,seval];refine Au (σ:=Nat × BitVec 64 × BitVec 64) (rsI hi lo n) (fun s=>fr 52 [(0,W hi),(1,W lo),(2,W n),(8,W s.2.1),(9,W s.2.2),(10,.int .i64 ((s.1:Int) - 1))]) (fun _=>[]) (fun _=>0) (fun s=>s.1) (128,0#64,0#64) ?_ ?_ ?_
 ·have hT:E6 hi lo / 2 ^ 128=0:=by
   refine Nat.div_eq_of_lt ?_;have h1:=hi.isLt;have h2:=lo.isLt;have e:(2:Nat) ^ 128=18446744073709551616 * 18446744073709551616:=Ab;rw [E6,e];omega
  refine ⟨Nat.le_refl _,?_,?_⟩
  ·show 0=_;rw [hT,Nat.zero_mod]
  ·show 0=_;rw [hT,Nat.zero_div]
 ·refine Av.fr [] [] hx Bg Ab ?_ ?_
  ·simp only [LY,seval]
  ·trivial
 ·rintro ⟨k,q,r⟩ hI;refine eX ?_;cases k with
  | zero =>
    have hz:(((0:Nat):Int) - 1) = -1:=rfl;obtain ⟨_,h2,h3⟩:=hI;dsimp only at h2 h3;rw [Nat.pow_zero,Nat.div_one] at h2 h3;have e1:q=F:=by rw [← hF];exact BitVec.eq_of_toNat_eq (by rw [h3,rsQ,BitVec.toNat_ofNat])
    have e2:r=G:=by rw [← hG];exact BitVec.eq_of_toNat_eq (by rw [h2,rsR,BitVec.toNat_ofNat];exact (Nat.mod_eq_of_lt (Nat.lt_trans (Nat.mod_lt _ hn) n.isLt)).symm)
    subst e1 e2;simp only [hz,LZ,seval];exact Ay.mkZ hx [] ⟨rfl,rfl,rfl⟩
  | succ k =>
    have hk:=hI.1;dsimp only at hk;have hz:(((k + 1:Nat):Int) - 1)=k:=Aa;have g0:(0≤(k:Int))=True:=eq_true Aa;have w1:IntKind.i64.wrap ((k:Int) - 1)=(k:Int) - 1:=AR Aa;have hstep:=fun b q' r'=>Yh (b:=b) (q':=q') (r':=r') hn hI;have tl:∀ b:BitVec 64,(r >>> 63=1#64)=True→JM r n b:=fun b h=>Or.inl (of_eq_true h);have tr:∀ b:BitVec 64,(n≤(r <<< 1 ||| b))=True→JM r n b:=fun b h=>Or.inr (of_eq_true h);have tn:∀ b:BitVec 64,(r >>> 63=1#64)=False→(n≤(r <<< 1 ||| b))=False→¬ JM r n b:=fun b h h' x=>x.elim (of_eq_false h) (of_eq_false h');by_cases h64:64≤k
    ·have g64:((64:Int)≤(k:Int))=True:=eq_true Aa;have w2:IntKind.i64.wrap ((k:Int) - 64)=((k - 64:Nat):Int):=B7;have w3:=HM (k - 64) Aa;have hb:=Aj7 hi lo k h64;obtain ⟨b,hbe⟩:∃ b,(hi >>> (k - 64) &&& 1#64)=b:=⟨_,rfl⟩
     rw [hbe] at hb;rcases Classical.propComplete (r >>> 63=1#64) with c1 | c1
     ·skip
      simp only [hz,g0,g64,w1,w2,w3,hbe,c1,LZ,seval];refine ⟨(k,q <<< 1 ||| 1#64,(r <<< 1 ||| b) - n),hstep b _ _ hb Adi Adi,Nat.lt_succ_self k,?_⟩;refine Av.fr [] [] hx Bg Ab ?_ ?_
      ·simp only [LY,seval]
      ·trivial
     ·rcases Classical.propComplete (n≤(r <<< 1 ||| b)) with c2 | c2
      ·skip
       simp only [hz,g0,g64,w1,w2,w3,hbe,c1,c2,LZ,seval];refine ⟨(k,q <<< 1 ||| 1#64,(r <<< 1 ||| b) - n),hstep b _ _ hb Abc Abc,Nat.lt_succ_self k,?_⟩;refine Av.fr [] [] hx Bg Ab ?_ ?_
       ·simp only [LY,seval]
       ·trivial
      ·skip
       simp only [hz,g0,g64,w1,w2,w3,hbe,c1,c2,LZ,seval];refine ⟨(k,q <<< 1,r <<< 1 ||| b),hstep b _ _ hb Acd Acd,Nat.lt_succ_self k,?_⟩;refine Av.fr [] [] hx Bg Ab ?_ ?_
       ·simp only [LY,seval]
       ·trivial
    ·have g64:((64:Int)≤(k:Int))=False:=eq_false Aa;have w3:=HM k Aa;have hb:=Ag1 hi lo k Aa;obtain ⟨b,hbe⟩:∃ b,(lo >>> k &&& 1#64)=b:=⟨_,rfl⟩
     rw [hbe] at hb;rcases Classical.propComplete (r >>> 63=1#64) with c1 | c1
     ·skip
      simp only [hz,g0,g64,w1,w3,hbe,c1,LZ,seval];refine ⟨(k,q <<< 1 ||| 1#64,(r <<< 1 ||| b) - n),hstep b _ _ hb Adi Adi,Nat.lt_succ_self k,?_⟩;refine Av.fr [] [] hx Bg Ab ?_ ?_
      ·simp only [LY,seval]
      ·trivial
     ·rcases Classical.propComplete (n≤(r <<< 1 ||| b)) with c2 | c2
      ·skip
       simp only [hz,g0,g64,w1,w3,hbe,c1,c2,LZ,seval];refine ⟨(k,q <<< 1 ||| 1#64,(r <<< 1 ||| b) - n),hstep b _ _ hb Abc Abc,Nat.lt_succ_self k,?_⟩;refine Av.fr [] [] hx Bg Ab ?_ ?_
       ·simp only [LY,seval]
       ·trivial
      ·skip
       simp only [hz,g0,g64,w1,w3,hbe,c1,c2,LZ,seval];refine ⟨(k,q <<< 1,r <<< 1 ||| b),hstep b _ _ hb Acd Acd,Nat.lt_succ_self k,?_⟩;refine Av.fr [] [] hx Bg Ab ?_ ?_
       ·simp only [LY,seval]
       ·trivial
theorem Ge (a b:BitVec 64) (hb:¬ b=0#64):rsQ 0#64 a b=a / b∧rsR 0#64 a b=a % b:=by
 have ha:=a.isLt;have e:E6 0#64 a=a.toNat:=by simp [E6]
 refine ⟨BitVec.eq_of_toNat_eq ?_,BitVec.eq_of_toNat_eq ?_⟩
 ·rw [rsQ,e,BitVec.toNat_ofNat,BitVec.toNat_udiv,Nat.mod_eq_of_lt (Nat.lt_of_le_of_lt (Nat.div_le_self _ _) ha)]
 ·rw [rsR,e,BitVec.toNat_ofNat,BitVec.toNat_umod,Nat.mod_eq_of_lt (Nat.lt_of_le_of_lt (Nat.mod_le _ _) ha)]
theorem Gz (b:BitVec 64) (hb:¬ b=0#64):¬ Rv b=0#64:=by
 unfold Rv;split
 ·exact fun h=>hb (by have:=congrArg (fun x=>-x) h;simpa using this)
 ·exact hb
theorem Mw (b:BitVec 64) (h:¬ b=0#64):0 < b.toNat:=Nat.pos_of_ne_zero fun e=>h (BitVec.eq_of_toNat_eq (by simpa using e))
theorem WP (ok:OkX M) (a b:BitVec 64):As M 227 [.int .i64 4,W a,W b] [] 0 (Q3 (W (EF 4 a b)) [] 0):=by
 refine Ac ok.k227 rfl fun x hx=>?_;by_cases hb:b=0#64
 ·subst hb;refine eX ?_;simp only [Li,MF,LZ,seval];have zz:=@m8;exact DD hx [] ⟨rfl,rfl,rfl⟩
 ·have r1:=DJ ok 0#64 a b (Mw b hb);rw [(Ge a b hb).1,(Ge a b hb).2] at r1;have z0:(b=0#64)=False:=eq_false hb;generalize hF:EF 4 a b=F;simp only [EF,hb,Dh,seval] at hF;subst hF;refine eX ?_;simp only [Li,MF,z0,LZ,seval];refine Ap (r1) ?_;simp only [EM,seval];exact Ay.mkZ hx [] ⟨rfl,rfl,rfl⟩
theorem WR (ok:OkX M) (a b:BitVec 64):As M 227 [.int .i64 6,W a,W b] [] 0 (Q3 (W (EF 6 a b)) [] 0):=by
 refine Ac ok.k227 rfl fun x hx=>?_;by_cases hb:b=0#64
 ·subst hb;refine eX ?_;simp only [Li,MF,LZ,seval];have zz:=@m8;exact DD hx [] ⟨rfl,rfl,rfl⟩
 ·have r1:=DJ ok 0#64 a b (Mw b hb);rw [(Ge a b hb).1,(Ge a b hb).2] at r1;have z0:(b=0#64)=False:=eq_false hb;generalize hF:EF 6 a b=F;simp only [EF,hb,Dh,seval] at hF;subst hF;refine eX ?_;simp only [Li,MF,z0,LZ,seval];refine Ap (r1) ?_;simp only [EM,seval];exact Ay.mkZ hx [] ⟨rfl,rfl,rfl⟩
theorem Yr (ok:OkX M) (a b:BitVec 64):As M 227 [.int .i64 5,W a,W b] [] 0 (Q3 (W (EF 5 a b)) [] 0):=by
 refine Ac ok.k227 rfl fun x hx=>?_;by_cases hb:b=0#64
 ·subst hb;refine eX ?_;simp only [Li,MF,LZ,seval];have zz:=@m8;exact DD hx [] ⟨rfl,rfl,rfl⟩
 ·have r2:=DJ ok 0#64 (Rv a) (Rv b) (Mw _ (Gz b hb));rw [(Ge _ _ (Gz b hb)).1,(Ge _ _ (Gz b hb)).2] at r2;have s1:=Gu ok a;have s2:=Gu ok b;have n1:=BU ok a;have n2:=BU ok b;have e1:(Rv a)=if a.toInt < 0 then -a else a:=rfl;have e2:(Rv b)=if b.toInt < 0 then -b else b:=rfl;generalize hF:EF 5 a b=F;have z0:(b=0#64)=False:=eq_false hb;rcases Classical.propComplete (a.toInt < 0) with h1 | h1 <;> rcases Classical.propComplete (b.toInt < 0) with h2 | h2;all_goals
   simp only [h1,h2,Dh] at e1 e2;simp only [EF,hb,h1,h2,Lb9,iff_self,iff_true,iff_false,true_iff,false_iff,not_false_eq_true,seval] at hF;simp only [e1,e2] at s1 s2 r2;simp only [h1,h2,decide_true,decide_false] at n1 n2;try rw [← BitVec.zero_sub] at hF
   subst hF;refine eX ?_;simp only [Li,MF,z0,LZ,seval];refine Ap (s1) ?_;simp only [LZ,seval];refine Ap (s2) ?_;simp only [LZ,seval];refine Ap (r2) ?_;simp only [EM,seval];try (refine Ap (n1) ?_)
   simp only [LZ,seval];try (refine Ap (n2) ?_)
   try (simp only [LZ,seval])
   exact Ay.mkZ hx [] ⟨rfl,rfl,rfl⟩
theorem YD (ok:OkX M) (a b:BitVec 64):As M 227 [.int .i64 7,W a,W b] [] 0 (Q3 (W (EF 7 a b)) [] 0):=by
 refine Ac ok.k227 rfl fun x hx=>?_;by_cases hb:b=0#64
 ·subst hb;refine eX ?_;simp only [Li,MF,LZ,seval];have zz:=@m8;exact DD hx [] ⟨rfl,rfl,rfl⟩
 ·have r2:=DJ ok 0#64 (Rv a) (Rv b) (Mw _ (Gz b hb));rw [(Ge _ _ (Gz b hb)).1,(Ge _ _ (Gz b hb)).2] at r2;have s1:=Gu ok a;have s2:=Gu ok b;have n1:=BU ok a;have n2:=BU ok b;have e1:(Rv a)=if a.toInt < 0 then -a else a:=rfl;have e2:(Rv b)=if b.toInt < 0 then -b else b:=rfl;generalize hF:EF 7 a b=F;have z0:(b=0#64)=False:=eq_false hb;rcases Classical.propComplete (a.toInt < 0) with h1 | h1 <;> rcases Classical.propComplete (b.toInt < 0) with h2 | h2;all_goals
   simp only [h1,h2,Dh] at e1 e2;simp only [EF,hb,h1,h2,Lb9,iff_self,iff_true,iff_false,true_iff,false_iff,not_false_eq_true,seval] at hF;simp only [e1,e2] at s1 s2 r2;simp only [h1,h2,decide_true,decide_false] at n1 n2;try rw [← BitVec.zero_sub] at hF
   subst hF;refine eX ?_;simp only [Li,MF,z0,LZ,seval];refine Ap (s1) ?_;simp only [LZ,seval];refine Ap (s2) ?_;simp only [LZ,seval];refine Ap (r2) ?_;simp only [EM,seval];try (refine Ap (n1) ?_)
   simp only [LZ,seval];try (refine Ap (n2) ?_)
   try (simp only [LZ,seval])
   exact Ay.mkZ hx [] ⟨rfl,rfl,rfl⟩
end Mv
