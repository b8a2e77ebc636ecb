/- A part. -/
import Derived.Test.YtncipgmjhaiagaaGreatDoorGX
set_option linter.all false
set_option maxRecDepth 20000
set_option maxHeartbeats 4000000
namespace Mv
open Go
def ZS:ByteArray:=⟨#[0,1,2,2,3,3,3,3,4,4,4,4,4,4,4,4,5,5,5,5,5,5,5,5,5,5,5,5,5,5,5,5,6,6,6,6,6,6,6,6,6,6,6,6,6,6,6,6,6,6,6,6,6,6,6,6,6,6,6,6,6,6,6,6,7,7,7,7,7,7,7,7,7,7,7,7,7,7,7,7,7,7,7,7,7,7,7,7,7,7,7,7,7,7,7,7,7,7,7,7,7,7,7,7,7,7,7,7,7,7,7,7,7,7,7,7,7,7,7,7,7,7,7,7,7,7,7,7,8,8,8,8,8,8,8,8,8,8,8,8,8,8,8,8,8,8,8,8,8,8,8,8,8,8,8,8,8,8,8,8,8,8,8,8,8,8,8,8,8,8,8,8,8,8,8,8,8,8,8,8,8,8,8,8,8,8,8,8,8,8,8,8,8,8,8,8,8,8,8,8,8,8,8,8,8,8,8,8,8,8,8,8,8,8,8,8,8,8,8,8,8,8,8,8,8,8,8,8,8,8,8,8,8,8,8,8,8,8,8,8,8,8,8,8,8,8,8,8,8,8,8,8,8,8,8,8]⟩
def Agr:LC:=(sr [mU 6 0] (.seq (sr [mt 10 2,
  aU 11 .eql 10 0] (.cond (.t 11) (sr [mU 6 0] .ret) .skip)) (.seq (sr [mt 12 0] (.block 0 (sr [aI 14 .eql 12 4,mt 13 14] (.cond (.t 13) (sr [mt 15 1,mt 16 2,ak 17 .quo 15 16,mt 6 17] .ret) (sr [aI 19 .eql 12 6,mt 18 19] (.cond (.t 18) (sr [mt 20 1,mt 21 2,ak 22 .rem 20 21,mt 6 22] .ret) .skip)))))) (sr [mt 23 2,
  cVv 24 .i64 23,aI 25 .lss 24 0,mt 26 1,
  cVv 27 .i64 26,aI 28 .lss 27 0,mt 7 25,mt 8 28] (.seq (sr [mt 29 7] (.cond (.t 29) (.reg [mt 30 2,A1 31 (.un .neg (.t 30)),mt 2 31]) .skip)) (.seq (sr [mt 32 8] (.cond (.t 32) (.reg [mt 33 1,A1 34 (.un .neg (.t 33)),mt 1 34]) .skip)) (sr [mt 35 1,mt 36 2,ak 37 .rem 35 36,mt 9 37] (.seq (sr [mt 38 0,aI 39 .eql 38 5] (.cond (.t 39) (.reg [mt 40 1,mt 41 2,ak 42 .quo 40 41,mt 43 8,mt 44 7,A1 45 (.eq true false .bool (.t 43) (.t 44)),mt 9 42,mt 8 45]) .skip)) (.seq (sr [mt 46 8] (.cond (.t 46) (sr [mt 47 9,A1 48 (.un .neg (.t 47)),mt 6 48] .ret) .skip)) (sr [mt 49 9,mt 6 49] .ret))))))))))
def YY:LF:=⟨Agr,3,0,50,[.tmp 6]⟩
def Wl:LC:=(sr [mU 8 0] (.seq (sr [mt 13 3,
  aU 14 .eql 13 0] (.cond (.t 14) (sr [mU 8 0] .ret) .skip)) (.seq (.regd [⟨0,0,mt 15 1⟩,⟨1,0,mt 16 3⟩,⟨2,3,ak 17 .rem 15 16⟩,⟨3,0,mt 18 2⟩,⟨4,0,mt 19 3⟩,⟨5,24,ak 20 .rem 18 19⟩,⟨6,7,mt 1 17⟩,⟨7,127,mt 2 20⟩]) (sr [mt 22 1,mt 23 2,kl 24 421 [(.t 22),(.t 23)],mt 21 24,ee 25 21 0,ee 26 21 1,mt 9 25,mt 10 26] (.seq (sr [mt 27 0,aI 28 .eql 27 8] (.cond (.t 28) (.reg [mt 30 1,mt 31 2,A1 32 (.add64 (.t 30) (.t 31) (cU 0)),mt 29 32,ee 33 29 0,ee 34 29 1,mt 10 33,mt 9 34]) .skip)) (sr [mt 36 9,mt 37 10,mt 38 3,kl 39 423 [(.t 36),(.t 37),(.t 38)],mt 35 39,ee 40 35 0,ee 41 35 1,mt 11 40,mt 12 41] (sr [mt 42 12,mt 8 42] .ret)))))))
def UD:LF:=⟨Wl,4,0,43,[.tmp 8]⟩
def Alk:LC:=(sr [mU 4 0] (sr [mU 5 1] (.seq (.block 0 (.loop (.seq (sr [mt 6 1,
  aU 7 .gtr 6 0]
 (cXx 7 0)) (.seq (.block 1 (.seq (sr [mt 10 1,
  aU 11 .and 10 1,
  aU 12 .eql 11 1] (.cond (.t 12) (.reg [mt 13 5,mt 14 0,ak 15 .mul 13 14,mt 5 15]) .skip)) (.reg [mt 16 0,mt 17 0,ak 18 .mul 16 17,mt 0 18]))) (.reg [mt 8 1,
  aU 9 .shr 8 1,mt 1 9]))))) (sr [mt 19 5,mt 4 19] .ret))))
def Aei:LF:=⟨Alk,2,0,20,[.tmp 4]⟩
def OQ:LC:=(sr [mU 6 0] (.seq (sr [mt 8 0] (.block 0 (sr [aI 10 .eql 8 11,mt 9 10] (.cond (.t 9) (.seq (sr [mt 11 1,
  aU 12 .geq 11 7] (.cond (.t 12) (sr [mt 13 2,mt 6 13] .ret) .skip)) (sr [mt 14 1,
  aV 15 .mul 8 14,
  aV 16 .sub 56 15,mt 7 16] (sr [mt 17 2,mt 18 7,ak 19 .shl 17 18,
  cVv 20 .i64 19,mt 21 7,ak 22 .shr 20 21,
  cVv 23 .u64 22,mt 6 23] .ret))) (sr [aI 25 .eql 8 12,mt 24 25] (.cond (.t 24) (.seq (sr [mt 26 1,
  aU 27 .gtr 26 7] (.cond (.t 27) (sr [mU 6 0] .ret) .skip)) (sr [mt 28 2,mt 29 1,
  aV 30 .mul 8 29,
  aV 31 .sub 56 30,ak 32 .shr 28 31,
  aU 33 .and 32 255,mt 6 33] .ret)) (sr [aI 35 .eql 8 13,mt 34 35] (.cond (.t 34) (sr [mt 36 2,mt 37 1,ak 38 .shl 36 37,mt 6 38] .ret) (sr [aI 40 .eql 8 14,mt 39 40] (.cond (.t 39) (sr [mt 41 2,mt 42 1,ak 43 .shr 41 42,mt 6 43] .ret) .skip)))))))))) (sr [mt 44 2,
  cVv 45 .i64 44,mt 46 1,ak 47 .shr 45 46,
  cVv 48 .u64 47,mt 6 48] .ret)))
def NF:LF:=⟨OQ,3,0,49,[.tmp 6]⟩
def Amc:LC:=(sr [mU 2 0] (.seq (sr [mt 3 0] (.cond (.t 3) (sr [mU 2 1] .ret) .skip)) (sr [mU 2 0] .ret)))
def Agb:LF:=⟨Amc,1,0,4,[.tmp 2]⟩
def Amg:LC:=(sr [mU 4 0,
 mU 5 0] (sr [mt 14 0,
  aU 15 .and 14 4294967295,mt 6 15] (sr [mt 16 0,
  aU 17 .shr 16 32,mt 7 17] (sr [mt 18 1,
  aU 19 .and 18 4294967295,mt 8 19] (sr [mt 20 1,
  aU 21 .shr 20 32,mt 9 21] (sr [mt 22 6,mt 23 8,ak 24 .mul 22 23,mt 10 24] (sr [mt 25 7,mt 26 8,ak 27 .mul 25 26,mt 28 10,
  aU 29 .shr 28 32,ak 30 .add 27 29,mt 11 30] (sr [mt 31 11,
  aU 32 .and 31 4294967295,mt 12 32] (sr [mt 33 11,
  aU 34 .shr 33 32,mt 13 34] (sr [mt 35 12,mt 36 6,mt 37 9,ak 38 .mul 36 37,ak 39 .add 35 38,mt 12 39] (sr [mt 40 7,mt 41 9,ak 42 .mul 40 41,mt 43 13,ak 44 .add 42 43,mt 45 12,
  aU 46 .shr 45 32,ak 47 .add 44 46,mt 4 47] (sr [mt 48 0,mt 49 1,ak 50 .mul 48 49,mt 5 50] .ret))))))))))))
def Ad9:LF:=⟨Amg,2,0,51,[.tmp 4,.tmp 5]⟩
def Ags:LC:=(sr [mU 6 0,
 mU 7 0] (.seq (sr [mt 19 2,
  aU 20 .eql 19 0] (.cond (.t 20) (.reg [A1 21 .nope ,A0 .nope ]) .skip)) (.seq (sr [mt 22 2,mt 23 0,ak 24 .leq 22 23] (.cond (.t 24) (.reg [A1 25 .nope ,A0 .nope ]) .skip)) (.seq (sr [mt 26 0,
  aU 27 .eql 26 0] (.cond (.t 27) (.seq (.regd [⟨0,0,mt 28 1⟩,⟨1,0,mt 29 2⟩,⟨2,3,ak 30 .quo 28 29⟩,⟨3,0,mt 31 1⟩,⟨4,0,mt 32 2⟩,⟨5,24,ak 33 .rem 31 32⟩,⟨6,7,mt 6 30⟩,⟨7,127,mt 7 33⟩]) .ret) .skip)) (sr [mt 34 2,kl 35 463 [(.t 34)],
  cVv 36 .u64 35,mt 8 36] (sr [mt 37 2,mt 38 8,ak 39 .shl 37 38,mt 2 39] (sr [mt 40 2,
  aU 41 .shr 40 32,mt 9 41] (sr [mt 42 2,
  aU 43 .and 42 4294967295,mt 10 43] (sr [mt 44 0,mt 45 8,ak 46 .shl 44 45,mt 47 1,mt 48 8,
  aV 49 .sub 64 48,ak 50 .shr 47 49,ak 51 .or 46 50,mt 11 51] (sr [mt 52 1,mt 53 8,ak 54 .shl 52 53,mt 12 54] (sr [mt 55 12,
  aU 56 .shr 55 32,mt 13 56] (sr [mt 57 12,
  aU 58 .and 57 4294967295,mt 14 58] (sr [mt 59 11,mt 60 9,ak 61 .quo 59 60,mt 15 61] (sr [mt 62 11,mt 63 15,mt 64 9,ak 65 .mul 63 64,ak 66 .sub 62 65,mt 16 66] (.seq (.block 0 (.loop (.seq (sr [mt 67 15,
  aU 68 .geq 67 4294967296,mt 69 68,mg 70 69 false 15,mg 71 69 false 10,A2 72 69 false (.ari .mul (.t 70) (.t 71)),mg 73 69 false 16,A2 74 69 false (.ari .mul (cU 4294967296) (.t 73)),mg 75 69 false 13,A2 76 69 false (.ari .add (.t 74) (.t 75)),A2 77 69 false (.ari .gtr (.t 72) (.t 76)),
  pKt 78 69 77]
 (cXx 78 0)) (.block 1 (sr [mt 79 15,
  aU 80 .sub 79 1,mt 15 80] (sr [mt 81 16,mt 82 9,ak 83 .add 81 82,mt 16 83] (sr [mt 84 16,
  aU 85 .geq 84 4294967296] (.cond (.t 85) (.exit 0) .skip)))))))) (sr [mt 86 11,
  aU 87 .mul 86 4294967296,mt 88 13,ak 89 .add 87 88,mt 90 15,mt 91 2,ak 92 .mul 90 91,ak 93 .sub 89 92,mt 17 93] (sr [mt 94 17,mt 95 9,ak 96 .quo 94 95,mt 18 96] (sr [mt 97 17,mt 98 18,mt 99 9,ak 100 .mul 98 99,ak 101 .sub 97 100,mt 16 101] (.seq (.block 2 (.loop (.seq (sr [mt 102 18,
  aU 103 .geq 102 4294967296,mt 104 103,mg 105 104 false 18,mg 106 104 false 10,A2 107 104 false (.ari .mul (.t 105) (.t 106)),mg 108 104 false 16,A2 109 104 false (.ari .mul (cU 4294967296) (.t 108)),mg 110 104 false 14,A2 111 104 false (.ari .add (.t 109) (.t 110)),A2 112 104 false (.ari .gtr (.t 107) (.t 111)),
  pKt 113 104 112]
 (cXx 113 2)) (.block 3 (sr [mt 114 18,
  aU 115 .sub 114 1,mt 18 115] (sr [mt 116 16,mt 117 9,ak 118 .add 116 117,mt 16 118] (sr [mt 119 16,
  aU 120 .geq 119 4294967296] (.cond (.t 120) (.exit 2) .skip)))))))) (sr [mt 121 15,
  aU 122 .mul 121 4294967296,mt 123 18,ak 124 .add 122 123,mt 125 17,
  aU 126 .mul 125 4294967296,mt 127 14,ak 128 .add 126 127,mt 129 18,mt 130 2,ak 131 .mul 129 130,ak 132 .sub 128 131,mt 133 8,ak 134 .shr 132 133,mt 6 124,mt 7 134] .ret))))))))))))))))))))
def Abi:LF:=⟨Ags,3,0,135,[.tmp 6,.tmp 7]⟩
def XD:LC:=(sr [mI 2 0] (.seq (sr [mt 3 0,
  aU 4 .geq 3 4294967296] (.cond (.t 4) (sr [mt 5 0,
  aU 6 .shr 5 32,mt 0 6] (.reg [mI 2 32])) .skip)) (.seq (sr [mt 7 0,
  aU 8 .geq 7 65536] (.cond (.t 8) (sr [mt 9 0,
  aU 10 .shr 9 16,mt 0 10] (.reg [mt 11 2,aI 12 .add 11 16,mt 2 12])) .skip)) (.seq (sr [mt 13 0,
  aU 14 .geq 13 256] (.cond (.t 14) (sr [mt 15 0,
  aU 16 .shr 15 8,mt 0 16] (.reg [mt 17 2,aI 18 .add 17 8,mt 2 18])) .skip)) (sr [mt 19 2,mt 20 0,
  cVv 21 .u8 20,A1 22 (.sidx (.c (.str ZS)) (.t 21)),
  cVv 23 .i64 22,ak 24 .add 19 23,mt 2 24] .ret)))))
def T2:LF:=⟨XD,1,0,25,[.tmp 2]⟩
def Aky:LC:=(sr [mI 2 0] (sr [mt 3 0,kl 4 259 [(.t 3)],
  aJ 5 .sub 64 4,mt 2 5] .ret))
def Aga:LF:=⟨Aky,1,0,6,[.tmp 2]⟩
variable {M:Seat}
def Lcb:=(aq3 @Ga @Qh.eq_1 @P3.eq_1)
structure OkP (M:Seat):Prop where
 k215:Al M 215 Ua=true
 k321:Al M 321 YY=true
 k322:Al M 322 UD=true
 k323:Al M 323 Aei=true
 k324:Al M 324 NF=true
 k325:Al M 325 Agb=true
 k421:Al M 421 Ad9=true
 k423:Al M 423 Abi=true
 k259:Al M 259 T2=true
 k463:Al M 463 Aga=true
def Vg (t:Bool):BitVec 64:=if t then 1#64 else 0#64
theorem UA (ok:OkP M) (t:Bool):Af M 325 [.bool t] [] 0 (Q3 (W (Vg t)) [] 0):=by
 refine Ac ok.k325 rfl fun x hx=>?_
 cases t
 all_goals refine es 2000 ?_;(simp only [Agb,Amc,LZ,seval])
 all_goals (have zz:=@Vg.eq_1;exact Bg hx [] ⟨rfl,rfl,rfl⟩)
def E3 (op:Nat) (a b:BitVec 64):BitVec 64 :=
 if b=0#64 then 0#64 else if op=4 then a / b else if op=6 then a % b
 else if op=5 then (if ((a.toInt < 0) ↔ (b.toInt < 0)) then (if a.toInt < 0 then -a else a) / (if b.toInt < 0 then -b else b) else -((if a.toInt < 0 then -a else a) / (if b.toInt < 0 then -b else b)))
 else if a.toInt < 0 then -((-a) % (if b.toInt < 0 then -b else b)) else a % (if b.toInt < 0 then -b else b)
theorem MV (ok:OkP M) (op:Nat) (ho:op=4 ∨ op=5 ∨ op=6 ∨ op=7) (a b:BitVec 64):Af M 321 [.int .i64 op,W a,W b] [] 0 (Q3 (W (E3 op a b)) [] 0):=by
 refine Ac ok.k321 rfl fun x hx=>?_
 by_cases hb:b=0#64
 ·subst hb
  refine es 2000 ?_;(simp only [YY,Agr,LZ,seval])
  have zz:=@E3.eq_1;exact Bg hx [] ⟨rfl,rfl,rfl⟩
 ·have hn:¬ -b=0#64:=fun h=>hb (by have:=congrArg (fun x=>-x) h;simpa using this)
  have e0:(b ≠ 0)=True:=eq_true hb
  have e1:(-b ≠ 0)=True:=eq_true hn
  rcases Classical.propComplete (a.toInt < 0) with h1 | h1 <;> rcases Classical.propComplete (b.toInt < 0) with h2 | h2 <;> rcases ho with rfl | rfl | rfl | rfl
  all_goals simp only [E3,hb,h1,h2,Vj,seval,iff_self,iff_true,iff_false,true_iff,false_iff,not_false_eq_true]
  all_goals refine es 2000 ?_;(simp only [YY,Agr,hb,h1,h2,e0,e1,Lbp,seval])
  all_goals repeat refine sd ?_
  all_goals exact Aq.mkZ hx [] ⟨rfl,rfl,rfl⟩
def Yd:Nat→BitVec 64→BitVec 64→BitVec 64→BitVec 64
 | 0,_,_,p=>p
 | k + 1,a,b,p=>if b=0#64 then p else Yd k (a * a) (b >>> 1) (if b &&& 1#64=1#64 then p * a else p)
theorem QD (ok:OkP M) (a b:BitVec 64):Af M 323 [W a,W b] [] 0 (Q3 (W (Yd 64 a b 1#64)) [] 0):=by
 refine Ac ok.k323 rfl fun x hx=>?_
 generalize hF:Yd 64 a b 1#64=F
 refine es 2000 ?_;(simp only [Aei,Alk,LZ,seval])
 refine Ag (σ:=Nat × BitVec 64 × BitVec 64 × BitVec 64) (fun s=>Yd s.1 s.2.1 s.2.2.1 s.2.2.2=F∧s.2.2.1.toNat < 2 ^ s.1) (fun s=>fr 20 [(0,W s.2.1),(1,W s.2.2.1),(5,W s.2.2.2)]) (fun _=>[]) (fun _=>0) (fun s=>s.1) (64,a,b,1#64) ⟨hF,b.isLt⟩ ?_ ?_
 ·refine Aj.fr [] [] hx Ax Ak ?_ ?_
  ·simp only [LY,seval]
  ·trivial
 ·rintro ⟨k,a,b,p⟩ ⟨h1,h2⟩
  dsimp only at h1 h2
  refine es 2000 ?_
  by_cases h0:b=0#64
  ·subst h0
   have hp:p=F:=by
    cases k with
    | zero=>exact h1
    | succ k=>rw [Yd,if_pos rfl] at h1;exact h1
   subst hp
   (simp only [LZ,seval])
   exact Aq.mkZ hx [] ⟨rfl,rfl,rfl⟩
  ·have hg:(0#64 < b)=True:=eq_true (by
    rw [BitVec.lt_def]
    have:b.toNat ≠ 0:=fun h=>h0 (BitVec.eq_of_toNat_eq Jk)
    show 0 < b.toNat;omega)
   cases k with
   | zero=>exact absurd (BitVec.eq_of_toNat_eq (by have:b.toNat < 1:=h2;show b.toNat=0;omega)) h0
   | succ k =>
     rw [Yd,if_neg h0] at h1
     have hs:(b >>> 1).toNat < 2 ^ k:=by
      rw [BitVec.toNat_ushiftRight,Nat.shiftRight_eq_div_pow]
      rw [Nat.pow_succ] at h2;omega
     by_cases h3:b &&& 1#64=1#64
     ·rw [if_pos h3] at h1
      (simp only [hg,h3,LZ,seval])
      refine ⟨(k,a * a,b >>> 1,p * a),h1,hs,by omega,?_⟩
      refine Aj.fr [] [] hx Ax Ak ?_ ?_
      ·simp only [LY,seval]
      ·trivial
     ·rw [if_neg h3] at h1
      (simp only [hg,h3,LZ,seval])
      refine ⟨(k,a * a,b >>> 1,p),h1,hs,by omega,?_⟩
      refine Aj.fr [] [] hx Ax Ak ?_ ?_
      ·simp only [LY,seval]
      ·trivial
variable {M:Seat}
def UH (a b:BitVec 64):BitVec 64 :=
 (a >>> 32) * (b >>> 32) + (((a >>> 32) * (b &&& 4294967295#64) + ((a &&& 4294967295#64) * (b &&& 4294967295#64)) >>> 32) >>> 32)
  + ((((a >>> 32) * (b &&& 4294967295#64) + ((a &&& 4294967295#64) * (b &&& 4294967295#64)) >>> 32) &&& 4294967295#64) + (a &&& 4294967295#64) * (b >>> 32)) >>> 32
theorem KE (ok:OkP M) (a b:BitVec 64):Af M 421 [W a,W b] [] 0 (Q3 (Ao (W (UH a b)) (W (a * b))) [] 0):=by
 refine Ac ok.k421 rfl fun x hx=>?_
 have e32:(32#64).toNat=32:=rfl
 refine es 2000 ?_;(simp only [Ad9,Amg,e32,LZ,seval])
 exact Aq.mkZ hx [] ⟨rfl,rfl,rfl⟩
theorem Ly (a:BitVec 64):(a &&& 4294967295#64).toNat=a.toNat % 4294967296:=by
 have e:(4294967295#64).toNat=2 ^ 32 - 1:=Ak
 rw [BitVec.toNat_and,e,Nat.and_two_pow_sub_one_eq_mod]
theorem Eu (a:BitVec 64):(a >>> 32).toNat=a.toNat / 4294967296:=by
 rw [BitVec.toNat_ushiftRight,Nat.shiftRight_eq_div_pow]
theorem IL {p q:Nat} (hp:p < 4294967296) (hq:q < 4294967296):p * q≤18446744065119617025:=by
 have:=Nat.mul_le_mul (show p≤4294967295 by omega) (show q≤4294967295 by omega)
 omega
theorem Q0 {p q:BitVec 64} (hp:p.toNat < 4294967296) (hq:q.toNat < 4294967296):(p * q).toNat=p.toNat * q.toNat:=by
 have:=IL hp hq
 rw [BitVec.toNat_mul,Nat.mod_eq_of_lt Aa]
theorem Rg {p q:BitVec 64} (h:p.toNat + q.toNat < 18446744073709551616):(p + q).toNat=p.toNat + q.toNat:=by
 rw [BitVec.toNat_add,Nat.mod_eq_of_lt Aa]
theorem NJ (a b:BitVec 64):(UH a b).toNat=a.toNat * b.toNat / 18446744073709551616:=by
 have ha:=a.isLt
 have hb:=b.isLt
 have l1:(a &&& 4294967295#64).toNat < 4294967296:=by rw [Ly];omega
 have l2:(b &&& 4294967295#64).toNat < 4294967296:=by rw [Ly];omega
 have l3:(a >>> 32).toNat < 4294967296:=by rw [Eu];omega
 have l4:(b >>> 32).toNat < 4294967296:=by rw [Eu];omega
 have m1:=Q0 l1 l2
 have m2:=Q0 l3 l2
 have m3:=Q0 l1 l4
 have m4:=Q0 l3 l4
 have b1:=IL l1 l2
 have b2:=IL l3 l2
 have b3:=IL l1 l4
 have b4:=IL l3 l4
 have ea:a.toNat=(a >>> 32).toNat * 4294967296 + (a &&& 4294967295#64).toNat:=ZV
 have eb:b.toNat=(b >>> 32).toNat * 4294967296 + (b &&& 4294967295#64).toNat:=ZV
 have ep:a.toNat * b.toNat=(a >>> 32).toNat * (b >>> 32).toNat * 18446744073709551616 + ((a >>> 32).toNat * (b &&& 4294967295#64).toNat + (a &&& 4294967295#64).toNat * (b >>> 32).toNat) * 4294967296 + (a &&& 4294967295#64).toNat * (b &&& 4294967295#64).toNat:=by
  rw [ea,eb]
  generalize (a >>> 32).toNat=p
  generalize (b >>> 32).toNat=q
  generalize (a &&& 4294967295#64).toNat=r
  generalize (b &&& 4294967295#64).toNat=s
  rw [Nat.add_mul,Nat.mul_add,Nat.mul_add,Nat.mul_mul_mul_comm,Nat.mul_right_comm p _ s,← Nat.mul_assoc r q,Nat.add_mul]
  omega
 rw [ep]
 unfold UH
 generalize (a &&& 4294967295#64)=x0 at *
 generalize (b &&& 4294967295#64)=y0 at *
 generalize (a >>> 32)=x1 at *
 generalize (b >>> 32)=y1 at *
 have t1:(x1 * y0 + (x0 * y0) >>> 32).toNat=x1.toNat * y0.toNat + x0.toNat * y0.toNat / 4294967296:=by
  rw [Rg (by rw [Eu,m1,m2];omega),Eu,m1,m2]
 have t2:(((x1 * y0 + (x0 * y0) >>> 32) &&& 4294967295#64) + x0 * y1).toNat=(x1.toNat * y0.toNat + x0.toNat * y0.toNat / 4294967296) % 4294967296 + x0.toNat * y1.toNat:=by
  rw [Rg (by rw [Ly,t1,m3];omega),Ly,t1,m3]
 have t3:(x1 * y1 + (x1 * y0 + (x0 * y0) >>> 32) >>> 32).toNat=x1.toNat * y1.toNat + (x1.toNat * y0.toNat + x0.toNat * y0.toNat / 4294967296) / 4294967296:=by
  rw [Rg (by rw [Eu,t1,m4];omega),Eu,t1,m4]
 rw [Rg (by rw [Eu,t2,t3];omega),Eu,t2,t3]
 omega
def I9 (i:Nat):Nat:=((ZS[i]?).getD 0).toNat
theorem Fd:∀ i,i < 256→I9 i≤8∧(i ≠ 0→1≤I9 i∧2 ^ (I9 i - 1)≤i∧i < 2 ^ I9 i):=by
 have h:(List.range 256).all (fun i=>decide (I9 i≤8) && (i == 0 || (decide (1≤I9 i) && decide (2 ^ (I9 i - 1)≤i) && decide (i < 2 ^ I9 i))))=true:=by kernel_rfl
 intro i hi
 have:=List.all_eq_true.1 h i (List.mem_range.2 hi)
 simp only [Bool.and_eq_true,Bool.or_eq_true,beq_iff_eq,decide_eq_true_eq] at this
 exact ⟨this.1,fun h0=>by rcases this.2 with h | h;exact absurd h h0;exact ⟨h.1.1,h.1.2,h.2⟩⟩
def OE (x:BitVec 64):Nat × BitVec 64:=if 4294967296#64≤x then (32,x >>> 32) else (0,x)
def PE (s:Nat × BitVec 64):Nat × BitVec 64:=if 65536#64≤s.2 then (s.1 + 16,s.2 >>> 16) else s
def Lv (s:Nat × BitVec 64):Nat × BitVec 64:=if 256#64≤s.2 then (s.1 + 8,s.2 >>> 8) else s
def Ec (x:BitVec 64):Nat:=(Lv (PE (OE x))).1 + I9 (Lv (PE (OE x))).2.toNat
theorem UM {n t i x:Nat} (hi:x / 2 ^ n=i) (h1:1≤t) (h2:2 ^ (t - 1)≤i) (h3:i < 2 ^ t):2 ^ (n + t - 1)≤x∧x < 2 ^ (n + t):=by
 have hp:0 < 2 ^ n:=Nat.two_pow_pos n
 have e1:2 ^ (n + t - 1)=2 ^ (t - 1) * 2 ^ n:=Aau
 have e2:2 ^ (n + t)=2 ^ t * 2 ^ n:=Aau
 rw [e1,e2]
 subst hi
 exact ⟨Nat.le_trans (Nat.mul_le_mul_right _ h2) (Nat.div_mul_le_self x _),(Nat.div_lt_iff_lt_mul hp).1 h3⟩
theorem PL (x:BitVec 64):∃ n,(Lv (PE (OE x))).1=n∧n≤56∧(Lv (PE (OE x))).2.toNat < 256∧x.toNat / 2 ^ n=(Lv (PE (OE x))).2.toNat∧(x ≠ 0#64→(Lv (PE (OE x))).2.toNat ≠ 0):=by
 have hx:=x.isLt
 have hz:x ≠ 0#64→x.toNat ≠ 0:=fun h h'=>h (BitVec.eq_of_toNat_eq (by simpa using h'))
 have e1:(4294967296#64).toNat=4294967296:=rfl
 have e2:(65536#64).toNat=65536:=rfl
 have e3:(256#64).toNat=256:=rfl
 by_cases h1:4294967296#64≤x
 all_goals simp only [OE,h1,CD,PE]
 ·have g1:=h1
  rw [BitVec.le_def,e1] at g1
  by_cases h2:65536#64≤x >>> 32
  all_goals simp only [h2,CD,Lv]
  ·have g2:=h2
   rw [BitVec.le_def,e2,BitVec.toNat_ushiftRight,Nat.shiftRight_eq_div_pow] at g2
   by_cases h3:256#64≤x >>> 32 >>> 16
   all_goals simp only [h3,CD]
   all_goals (have g3:=h3;rw [BitVec.le_def,e3,BitVec.toNat_ushiftRight,Nat.shiftRight_eq_div_pow,BitVec.toNat_ushiftRight,Nat.shiftRight_eq_div_pow] at g3)
   all_goals try simp only [Lb4]
   ·exact ⟨56,rfl,by omega,by omega,by omega,by omega⟩
   ·exact ⟨48,rfl,by omega,by omega,by omega,by omega⟩
  ·have g2:=h2
   rw [BitVec.le_def,e2,BitVec.toNat_ushiftRight,Nat.shiftRight_eq_div_pow] at g2
   by_cases h3:256#64≤x >>> 32
   all_goals simp only [h3,CD]
   all_goals (have g3:=h3;rw [BitVec.le_def,e3,BitVec.toNat_ushiftRight,Nat.shiftRight_eq_div_pow] at g3)
   all_goals try simp only [Lb4]
   ·exact ⟨40,rfl,by omega,by omega,by omega,by omega⟩
   ·exact ⟨32,rfl,by omega,by omega,by omega,by omega⟩
 ·have g1:=h1
  rw [BitVec.le_def,e1] at g1
  by_cases h2:65536#64≤x
  all_goals simp only [h2,CD,Lv]
  ·have g2:=h2
   rw [BitVec.le_def,e2] at g2
   by_cases h3:256#64≤x >>> 16
   all_goals simp only [h3,CD]
   all_goals (have g3:=h3;rw [BitVec.le_def,e3,BitVec.toNat_ushiftRight,Nat.shiftRight_eq_div_pow] at g3)
   all_goals try simp only [Lb4]
   ·exact ⟨24,rfl,by omega,by omega,by omega,by omega⟩
   ·exact ⟨16,rfl,by omega,by omega,by omega,by omega⟩
  ·have g2:=h2
   rw [BitVec.le_def,e2] at g2
   by_cases h3:256#64≤x
   all_goals simp only [h3,CD]
   all_goals (have g3:=h3;rw [BitVec.le_def,e3] at g3)
   all_goals try simp only [Lb4]
   ·exact ⟨8,rfl,by omega,by omega,by omega,by omega⟩
   ·exact ⟨0,rfl,by omega,by omega,by omega,by omega⟩
theorem PP (x:BitVec 64):Ec x≤64∧(x ≠ 0#64→1≤Ec x∧2 ^ (Ec x - 1)≤x.toNat∧x.toNat < 2 ^ Ec x):=by
 obtain ⟨n,h1,h2,h3,h4,h5⟩:=PL x
 obtain ⟨q1,q2⟩:=Fd _ h3
 unfold Ec
 rw [h1]
 refine ⟨by omega,fun h0=>?_⟩
 obtain ⟨k1,k2,k3⟩:=q2 (h5 h0)
 obtain ⟨j1,j2⟩:=UM h4 k1 k2 k3
 exact ⟨by omega,j1,j2⟩
theorem JI (b:BitVec 8) (H:Hp):XF (.str ZS) (B b) H=⟨True,.int .u8 (I9 b.toNat),H⟩:=by
 have h:=b.isLt
 have hs:ZS.size=256:=rfl
 show (⟨_,_,_⟩:Out)=_
 congr 1
 exact eq_true ⟨by omega,by rw [hs];omega⟩
theorem IH {n:Nat} (h:n < 9223372036854775808):IntKind.i64.wrap (n:Int)=n:=AI Aa
theorem Io (k:Int) (y:Nat) (hy:y < 256) (h0:0≤k) (h1:k≤56):IntKind.i64.wrap (k + (I9 y:Int))=k + (I9 y:Int):=by
 have:=(Fd y hy).1
 rw [AI Aa]
theorem Qp (ok:OkP M) (a:BitVec 64):Af M 259 [W a] [] 0 (Q3 (.int .i64 (Ec a)) [] 0):=by
 refine Ac ok.k259 rfl fun x hx=>?_
 have e32:(32#64).toNat=32:=rfl
 have e16:(16#64).toNat=16:=rfl
 have e8:(8#64).toNat=8:=rfl
 have w0:IntKind.i64.wrap 0=0:=rfl
 have w1:IntKind.i64.wrap 48=48:=rfl
 have w2:IntKind.i64.wrap 56=56:=rfl
 have w3:IntKind.i64.wrap 40=40:=rfl
 have w4:IntKind.i64.wrap 16=16:=rfl
 have w5:IntKind.i64.wrap 24=24:=rfl
 have w6:IntKind.i64.wrap 8=8:=rfl
 have w7:IntKind.i64.wrap 32=32:=rfl
 have hlen:=PL a
 unfold Ec
 have ht:∀ y:BitVec 64,y.toNat < 256→((BitVec.setWidth 8 y).toNat=y.toNat∧I9 y.toNat≤8):=fun y hy=>⟨by rw [BitVec.toNat_setWidth];omega,(Fd _ hy).1⟩
 by_cases h1:4294967296#64≤a
 all_goals simp only [OE,h1,CD,PE] at hlen ⊢
 ·by_cases h2:65536#64≤a >>> 32
  all_goals simp only [h2,CD,Lv] at hlen ⊢
  ·by_cases h3:256#64≤a >>> 32 >>> 16
   all_goals simp only [h3,CD] at hlen ⊢
   all_goals obtain ⟨n,hn,hn2,hy,-⟩:=hlen
   all_goals obtain ⟨hq,hk⟩:=ht _ hy
   all_goals (refine es 2000 ?_;(simp only [T2,XD,e32,e16,e8,w0,w1,w2,w3,w4,w5,w6,w7,h1,h2,h3,JI,hq,IH (Nat.lt_of_le_of_lt hk (by decide:8 < 9223372036854775808)),Io 56 _ hy Aa Aa,Io 48 _ hy Aa Aa,Io 40 _ hy Aa Aa,Io 32 _ hy Aa Aa,Io 24 _ hy Aa Aa,Io 16 _ hy Aa Aa,Io 8 _ hy Aa Aa,Int.zero_add,IH (Nat.lt_of_le_of_lt (Fd _ hy).1 (by decide:8 < 9223372036854775808)),LZ,seval]);exact Aq.mkZ hx [] ⟨rfl,rfl,rfl⟩)
  ·by_cases h3:256#64≤a >>> 32
   all_goals simp only [h3,CD] at hlen ⊢
   all_goals obtain ⟨n,hn,hn2,hy,-⟩:=hlen
   all_goals obtain ⟨hq,hk⟩:=ht _ hy
   all_goals (refine es 2000 ?_;(simp only [T2,XD,e32,e16,e8,w0,w1,w2,w3,w4,w5,w6,w7,h1,h2,h3,JI,hq,IH (Nat.lt_of_le_of_lt hk (by decide:8 < 9223372036854775808)),Io 56 _ hy Aa Aa,Io 48 _ hy Aa Aa,Io 40 _ hy Aa Aa,Io 32 _ hy Aa Aa,Io 24 _ hy Aa Aa,Io 16 _ hy Aa Aa,Io 8 _ hy Aa Aa,Int.zero_add,IH (Nat.lt_of_le_of_lt (Fd _ hy).1 (by decide:8 < 9223372036854775808)),LZ,seval]);exact Aq.mkZ hx [] ⟨rfl,rfl,rfl⟩)
 ·by_cases h2:65536#64≤a
  all_goals simp only [h2,CD,Lv] at hlen ⊢
  ·by_cases h3:256#64≤a >>> 16
   all_goals simp only [h3,CD] at hlen ⊢
   all_goals obtain ⟨n,hn,hn2,hy,-⟩:=hlen
   all_goals obtain ⟨hq,hk⟩:=ht _ hy
   all_goals (refine es 2000 ?_;(simp only [T2,XD,e32,e16,e8,w0,w1,w2,w3,w4,w5,w6,w7,h1,h2,h3,JI,hq,IH (Nat.lt_of_le_of_lt hk (by decide:8 < 9223372036854775808)),Io 56 _ hy Aa Aa,Io 48 _ hy Aa Aa,Io 40 _ hy Aa Aa,Io 32 _ hy Aa Aa,Io 24 _ hy Aa Aa,Io 16 _ hy Aa Aa,Io 8 _ hy Aa Aa,Int.zero_add,IH (Nat.lt_of_le_of_lt (Fd _ hy).1 (by decide:8 < 9223372036854775808)),LZ,seval]);exact Aq.mkZ hx [] ⟨rfl,rfl,rfl⟩)
  ·by_cases h3:256#64≤a
   all_goals simp only [h3,CD] at hlen ⊢
   all_goals obtain ⟨n,hn,hn2,hy,-⟩:=hlen
   all_goals obtain ⟨hq,hk⟩:=ht _ hy
   all_goals (refine es 2000 ?_;(simp only [T2,XD,e32,e16,e8,w0,w1,w2,w3,w4,w5,w6,w7,h1,h2,h3,JI,hq,IH (Nat.lt_of_le_of_lt hk (by decide:8 < 9223372036854775808)),Io 56 _ hy Aa Aa,Io 48 _ hy Aa Aa,Io 40 _ hy Aa Aa,Io 32 _ hy Aa Aa,Io 24 _ hy Aa Aa,Io 16 _ hy Aa Aa,Io 8 _ hy Aa Aa,Int.zero_add,IH (Nat.lt_of_le_of_lt (Fd _ hy).1 (by decide:8 < 9223372036854775808)),LZ,seval]);exact Aq.mkZ hx [] ⟨rfl,rfl,rfl⟩)
theorem Pp (ok:OkP M) (a:BitVec 64):Af M 463 [W a] [] 0 (Q3 (.int .i64 ((64 - Ec a:Nat):Int)) [] 0):=by
 refine Ac ok.k463 rfl fun x hx=>?_
 have h:=(PP a).1
 have w:IntKind.i64.wrap (64 - (Ec a:Int))=((64 - Ec a:Nat):Int):=A9
 refine es 2000 ?_;(simp only [Aga,Aky,LZ,seval])
 refine Ah (Qp ok a) ?_
 (simp only [w,LZ,seval])
 exact Aq.mkZ hx [] ⟨rfl,rfl,rfl⟩
end Mv
namespace Mv
def dl (y1 y0 u:BitVec 64):Nat→BitVec 64→BitVec 64→BitVec 64
 | 0,q,_=>q
 | k + 1,q,r=>if 4294967296#64≤q ∨ 4294967296#64 * r + u < q * y0 then (if 4294967296#64≤r + y1 then q - 1#64 else dl y1 y0 u k (q - 1#64) (r + y1)) else q
theorem Acx {a b:Nat} (ha:a≤4294967297) (hb:b < 4294967296):a * b < 18446744073709551616:=by
 have:=Nat.mul_le_mul ha (show b≤4294967295 by omega)
 omega
theorem Alw (y1 y0 v:BitVec 64) (Y u:Nat) (hy:Y=y1.toNat * 4294967296 + y0.toNat) (h0:y0.toNat < 4294967296) (hv:v.toNat < 4294967296) (h1:2147483648≤y1.toNat) (h1':y1.toNat < 4294967296) (hu:u < Y) :
 ∀ (k:Nat) (q r:BitVec 64),q.toNat * y1.toNat + r.toNat=u→r.toNat < 4294967296→(u * 4294967296 + v.toNat) / Y≤q.toNat→q.toNat≤4294967297→4294967296 - r.toNat≤k →
  (dl y1 y0 v k q r).toNat=(u * 4294967296 + v.toNat) / Y:=by
 intro k
 have hY:0 < Y:=Aa
 induction k with
 | zero=>intro q r _ hr _ _ hk;omega
 | succ k ih =>
   intro q r hqr hr hQ hq hk
   have eN:(4294967296#64:BitVec 64).toNat=4294967296:=rfl
   have e1:(4294967296#64 * r + v).toNat=4294967296 * r.toNat + v.toNat:=by
    rw [BitVec.toNat_add,BitVec.toNat_mul,eN,Nat.mod_eq_of_lt (a:=4294967296 * r.toNat) Aa,Nat.mod_eq_of_lt Aa]
   have e2:(q * y0).toNat=q.toNat * y0.toNat:=by rw [BitVec.toNat_mul,Nat.mod_eq_of_lt (Acx hq h0)]
   have e3:(r + y1).toNat=r.toNat + y1.toNat:=by rw [BitVec.toNat_add,Nat.mod_eq_of_lt Aa]
   have eqY:q.toNat * Y=q.toNat * y1.toNat * 4294967296 + q.toNat * y0.toNat:=Aeu
   have hN:u * 4294967296 + v.toNat < Y * 4294967296:=by
    have:(u + 1) * 4294967296≤Y * 4294967296:=Nat.mul_le_mul_right _ hu
    omega
   rw [dl]
   by_cases c:4294967296#64≤q ∨ 4294967296#64 * r + v < q * y0
   ·rw [if_pos c]
    have hlt:(u * 4294967296 + v.toNat) / Y < q.toNat:=by
     apply (Nat.div_lt_iff_lt_mul hY).2
     rcases c with c | c
     ·have c:4294967296≤q.toNat:=c
      have:4294967296 * Y≤q.toNat * Y:=Nat.mul_le_mul_right _ c
      omega
     ·have c':4294967296 * r.toNat + v.toNat < q.toNat * y0.toNat:=by rw [BitVec.lt_def,e1,e2] at c;exact c
      have e5:u * 4294967296=q.toNat * y1.toNat * 4294967296 + r.toNat * 4294967296:=by rw [← hqr];exact Nat.add_mul _ _ _
      omega
    have hq1:1≤q.toNat:=Nat.lt_of_le_of_lt (Nat.zero_le _) hlt
    have e4:(q - 1#64).toNat=q.toNat - 1:=by
     rw [BitVec.toNat_sub]
     show (18446744073709551616 - 1 + q.toNat) % 18446744073709551616=_
     omega
    obtain ⟨p,hp⟩:∃ p,q.toNat=p + 1:=⟨q.toNat - 1,by omega⟩
    have hpy:(p + 1) * y1.toNat=p * y1.toNat + y1.toNat:=by rw [Nat.add_mul,Nat.one_mul]
    have hpu:p * y1.toNat + (r.toNat + y1.toNat)=u:=by rw [hp,hpy] at hqr;omega
    by_cases c3:4294967296#64≤r + y1
    ·rw [if_pos c3,e4,hp,Nat.add_sub_cancel]
     rw [BitVec.le_def,e3,eN] at c3
     have hpl:p < 4294967296:=by
      rcases Nat.lt_or_ge p 4294967296 with h | h
      ·exact h
      ·have:4294967296 * y1.toNat≤p * y1.toNat:=Nat.mul_le_mul_right _ h
       omega
     have hp0:p * y0.toNat≤4294967295 * 4294967295:=Nat.mul_le_mul Aa Aa
     have hle:p≤(u * 4294967296 + v.toNat) / Y:=by
      apply (Nat.le_div_iff_mul_le hY).2
      have e5:u * 4294967296=p * y1.toNat * 4294967296 + (r.toNat + y1.toNat) * 4294967296:=by rw [← hpu];exact Nat.add_mul _ _ _
      have:p * Y=p * y1.toNat * 4294967296 + p * y0.toNat:=Aeu
      omega
     omega
    ·rw [if_neg c3]
     rw [BitVec.le_def,e3,eN] at c3
     exact ih (q - 1#64) (r + y1) (by rw [e4,e3,hp,Nat.add_sub_cancel];exact hpu) (by rw [e3];omega) (by rw [e4];omega) (by rw [e4];omega) (by rw [e3];omega)
   ·rw [if_neg c]
    have c2:¬ 4294967296 * r.toNat + v.toNat < q.toNat * y0.toNat:=by
     intro h;apply c;right;rw [BitVec.lt_def,e1,e2];exact h
    apply Nat.le_antisymm _ hQ
    apply (Nat.le_div_iff_mul_le hY).2
    have e5:u * 4294967296=q.toNat * y1.toNat * 4294967296 + r.toNat * 4294967296:=by rw [← hqr];exact Nat.add_mul _ _ _
    omega
theorem Qc (y1 y0 v:BitVec 64) (Y:Nat) (u:BitVec 64) (hy:Y=y1.toNat * 4294967296 + y0.toNat) (h0:y0.toNat < 4294967296) (hv:v.toNat < 4294967296) (h1:2147483648≤y1.toNat) (h1':y1.toNat < 4294967296) (hu:u.toNat < Y) (q r:BitVec 64) (hq:u / y1=q) (hr:u - q * y1=r) :
 (dl y1 y0 v 4294967296 q r).toNat=(u.toNat * 4294967296 + v.toNat) / Y:=by
 have hY:0 < Y:=Aa
 have eq:q.toNat=u.toNat / y1.toNat:=by rw [← hq,BitVec.toNat_udiv]
 have hle:q.toNat * y1.toNat≤u.toNat:=by rw [eq];exact Nat.div_mul_le_self _ _
 have hul:=u.isLt
 have er:r.toNat=u.toNat - q.toNat * y1.toNat:=by
  rw [← hr,BitVec.toNat_sub,BitVec.toNat_mul,Nat.mod_eq_of_lt (a:=q.toNat * y1.toNat) Aa]
  omega
 have hrl:r.toNat < y1.toNat:=by
  have:=Nat.div_add_mod u.toNat y1.toNat
  have h2:=Nat.mod_lt u.toNat (show y1.toNat > 0 by omega)
  rw [Nat.mul_comm] at this
  rw [er,eq];omega
 refine Alw y1 y0 v Y u.toNat hy h0 hv h1 h1' hu _ q r (by rw [er];omega) Aa ?_ ?_ (Nat.sub_le _ _)
 ·
  have:(u.toNat * 4294967296 + v.toNat) / Y < q.toNat + 1:=by
   apply (Nat.div_lt_iff_lt_mul hY).2
   have e:(q.toNat + 1) * Y=(q.toNat + 1) * y1.toNat * 4294967296 + (q.toNat + 1) * y0.toNat:=Aeu
   have e2:(q.toNat + 1) * y1.toNat=q.toNat * y1.toNat + y1.toNat:=by rw [Nat.add_mul,Nat.one_mul]
   omega
  omega
 ·rcases Nat.lt_or_ge 4294967297 q.toNat with h | h
  ·have:4294967298 * y1.toNat≤q.toNat * y1.toNat:=Nat.mul_le_mul_right _ h
   omega
  ·exact h
theorem Aie (x y:BitVec 64) (m k q:Nat) (hx:x.toNat=k) (hy:y.toNat=q) (hq:q < 2 ^ m) (h:k * 2 ^ m < 18446744073709551616):(x <<< m ||| y).toNat=k * 2 ^ m + q:=by
 rw [BitVec.toNat_or,BitVec.toNat_shiftLeft,hx,hy,Nat.shiftLeft_eq,Nat.mod_eq_of_lt h,← Nat.shiftLeft_eq,Nat.shiftLeft_add_eq_or_of_lt hq]
theorem X8 (u v F Y:BitVec 64) (N:Nat) (hN:N=u.toNat * 4294967296 + v.toNat) (h:F.toNat * Y.toNat≤N):u * 4294967296#64 + v - F * Y=BitVec.ofNat 64 (N - F.toNat * Y.toNat):=by
 have e1:u * 4294967296#64 + v=BitVec.ofNat 64 N:=by
  apply BitVec.eq_of_toNat_eq
  rw [BitVec.toNat_add,BitVec.toNat_mul,hN,BitVec.toNat_ofNat,BitVec.toNat_ofNat,Nat.mod_eq_of_lt (a:=4294967296) Ak,Nat.mod_add_mod]
 have e2:F * Y=BitVec.ofNat 64 (F.toNat * Y.toNat):=by
  apply BitVec.eq_of_toNat_eq
  rw [BitVec.toNat_mul,BitVec.toNat_ofNat]
 have e3:BitVec.ofNat 64 N=BitVec.ofNat 64 (N - F.toNat * Y.toNat) + BitVec.ofNat 64 (F.toNat * Y.toNat):=by
  rw [← BitVec.ofNat_add];congr 1;omega
 rw [e1,e2,e3,BitVec.add_sub_cancel]
theorem Aep (hi lo y s Y u v y1 yl v1 v0 q1 r1 F u2 q0 r0 G:BitVec 64) (h:hi < y) (hs:s.toNat < 64) (hyl64:y.toNat * 2 ^ s.toNat < 18446744073709551616)
 (hY:y <<< s.toNat=Y) (hu:hi <<< s.toNat ||| lo >>> (64#64 - s).toNat=u) (hv:lo <<< s.toNat=v) (hy1:Y >>> 32=y1) (b1:2147483648≤y1.toNat) (hyl:Y &&& 4294967295#64=yl)
 (hv1:v >>> 32=v1) (hv0:v &&& 4294967295#64=v0) (hq1:u / y1=q1) (hr1:u - q1 * y1=r1) (hF:dl y1 yl v1 4294967296 q1 r1=F) (hu2:u * 4294967296#64 + v1 - F * Y=u2)
 (hq0:u2 / y1=q0) (hr0:u2 - q0 * y1=r0) (hG:dl y1 yl v0 4294967296 q0 r0=G) :
 ((u2 * 4294967296#64 + v0 - G * Y) >>> s.toNat).toNat=(hi.toNat * 18446744073709551616 + lo.toNat) % y.toNat:=by
 have Is:∀ x:BitVec 64,(x &&& 4294967295#64).toNat=x.toNat % 4294967296:=fun x=>by
  rw [BitVec.toNat_and,show (4294967295#64:BitVec 64).toNat=2 ^ 32 - 1 from rfl,Nat.and_two_pow_sub_one_eq_mod]
 have shr:∀ x:BitVec 64,(x >>> 32).toNat=x.toNat / 4294967296:=fun x=>by
  rw [BitVec.toNat_ushiftRight,Nat.shiftRight_eq_div_pow]
 have hlt:hi.toNat < y.toNat:=h
 have hlo:=lo.isLt
 have hp:0 < 2 ^ s.toNat:=Nat.two_pow_pos _
 have hpp:2 ^ (64 - s.toNat) * 2 ^ s.toNat=18446744073709551616:=by rw [← Nat.pow_add,show 64 - s.toNat + s.toNat=64 by omega]
 have eYn:Y.toNat=y.toNat * 2 ^ s.toNat:=by
  rw [← hY,BitVec.toNat_shiftLeft,Nat.shiftLeft_eq,Nat.mod_eq_of_lt hyl64]
 have e64:(64#64 - s).toNat=64 - s.toNat:=by
  rw [BitVec.toNat_sub_of_le (by rw [BitVec.le_def];show s.toNat≤64;omega)];rfl
 have elo:lo.toNat * 2 ^ s.toNat / 18446744073709551616=lo.toNat / 2 ^ (64 - s.toNat):=by
  rw [← hpp,Nat.mul_div_mul_right _ _ hp]
 have hq:lo.toNat / 2 ^ (64 - s.toNat) < 2 ^ s.toNat:=by
  apply (Nat.div_lt_iff_lt_mul (Nat.two_pow_pos _)).2
  rw [Nat.mul_comm,hpp];exact hlo
 have hhi:hi.toNat * 2 ^ s.toNat < 18446744073709551616:=Nat.lt_of_le_of_lt (Nat.mul_le_mul_right _ (Nat.le_of_lt hlt)) hyl64
 have eu:u.toNat=hi.toNat * 2 ^ s.toNat + lo.toNat / 2 ^ (64 - s.toNat):=by
  rw [← hu]
  exact Aie hi _ s.toNat _ _ rfl (by rw [e64,BitVec.toNat_ushiftRight,Nat.shiftRight_eq_div_pow]) hq hhi
 have ev:v.toNat=lo.toNat * 2 ^ s.toNat % 18446744073709551616:=by
  rw [← hv,BitVec.toNat_shiftLeft,Nat.shiftLeft_eq]
 have eM:(hi.toNat * 18446744073709551616 + lo.toNat) * 2 ^ s.toNat=u.toNat * 18446744073709551616 + v.toNat:=by
  have e:=Nat.div_add_mod (lo.toNat * 2 ^ s.toNat) 18446744073709551616
  rw [Nat.add_mul,eu,ev,← elo,Nat.add_mul,Nat.mul_right_comm]
  omega
 have huY:u.toNat < Y.toNat:=by
  have h1:(hi.toNat * 18446744073709551616 + lo.toNat) * 2 ^ s.toNat < Y.toNat * 18446744073709551616:=by
   rw [eYn,Nat.mul_right_comm]
   apply Nat.mul_lt_mul_of_pos_right _ hp
   omega
  rw [eM] at h1
  omega
 have hYl:=Y.isLt
 have hvl:=v.isLt
 have ey:Y.toNat=y1.toNat * 4294967296 + yl.toNat:=by rw [← hy1,← hyl,shr,Is];omega
 have evv:v.toNat=v1.toNat * 4294967296 + v0.toNat:=by rw [← hv1,← hv0,shr,Is];omega
 have l0:yl.toNat < 4294967296:=by rw [← hyl,Is];omega
 have l1:y1.toNat < 4294967296:=by rw [← hy1,shr];omega
 have l2:v1.toNat < 4294967296:=by rw [← hv1,shr];omega
 have l3:v0.toNat < 4294967296:=by rw [← hv0,Is];omega
 have hYp:0 < Y.toNat:=Aa
 have f1:=Qc y1 yl v1 Y.toNat u ey l0 l2 b1 l1 huY q1 r1 hq1 hr1
 rw [hF] at f1
 have d1:=Nat.div_add_mod (u.toNat * 4294967296 + v1.toNat) Y.toNat
 rw [← f1] at d1
 have m1:=Nat.mod_lt (u.toNat * 4294967296 + v1.toNat) hYp
 have c1:F.toNat * Y.toNat=Y.toNat * F.toNat:=Nat.mul_comm _ _
 have s1:=X8 u v1 F Y _ rfl (by rw [c1];omega)
 rw [hu2] at s1
 have eu2:u2.toNat=(u.toNat * 4294967296 + v1.toNat) % Y.toNat:=by
  rw [s1,BitVec.toNat_ofNat,c1,Nat.mod_eq_of_lt Aa];omega
 have f2:=Qc y1 yl v0 Y.toNat u2 ey l0 l3 b1 l1 (by rw [eu2];exact m1) q0 r0 hq0 hr0
 rw [hG] at f2
 have d2:=Nat.div_add_mod (u2.toNat * 4294967296 + v0.toNat) Y.toNat
 rw [← f2] at d2
 have m2:=Nat.mod_lt (u2.toNat * 4294967296 + v0.toNat) hYp
 have c2:G.toNat * Y.toNat=Y.toNat * G.toNat:=Nat.mul_comm _ _
 have s2:=X8 u2 v0 G Y _ rfl (by rw [c2];omega)
 have eR:(u2 * 4294967296#64 + v0 - G * Y).toNat=(u2.toNat * 4294967296 + v0.toNat) % Y.toNat:=by
  rw [s2,BitVec.toNat_ofNat,c2,Nat.mod_eq_of_lt Aa];omega
 rw [BitVec.toNat_ushiftRight,Nat.shiftRight_eq_div_pow,eR]
 have eMod:(u2.toNat * 4294967296 + v0.toNat) % Y.toNat=(u.toNat * 18446744073709551616 + v.toNat) % Y.toNat:=by
  have e:u.toNat * 18446744073709551616 + v.toNat=Y.toNat * (F.toNat * 4294967296) + (u2.toNat * 4294967296 + v0.toNat):=by
   have e5:Y.toNat * (F.toNat * 4294967296)=Y.toNat * F.toNat * 4294967296:=(Nat.mul_assoc _ _ _).symm
   rw [eu2,evv,e5]
   omega
  rw [e,Nat.mul_add_mod]
 rw [eMod,← eM,eYn,Nat.mul_mod_mul_right,Nat.mul_div_cancel _ hp]
end Mv
