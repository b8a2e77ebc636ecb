/- A part. -/
import Derived.Test.YtfljfijnobocoaaDoorGX
set_option linter.all false
set_option maxRecDepth 20000
set_option maxHeartbeats 4000000
namespace Mv
open Go
structure Mc where
 f:Nat→BitVec 64
 g:Nat→BitVec 64
 pc:BitVec 64
 hl:Bool
 xt:BitVec 64
def Mc.v (m:Mc):V:=AL m.f m.g m.pc m.hl m.xt
def BV (M:Seat) (m m':Mc):Prop:=As M 70 [.ptr 0 [],.ptr 1 []] [(0,m.v)] 2 (Q3 .nili [(0,m'.v)] 2)
theorem Pp {M:Seat} (ok:OkV M) (ms:Nat→Mc) (k n:Nat) (hk:k≤n) (hn:n < 9223372036854775808) (hs:∀ i,i < k→(ms i).hl=false∧BV M (ms i) (ms (i + 1))) (he:(ms k).hl=true ∨ k=n) :
 As M 71 [.ptr 0 [],.ptr 1 [],.int .i64 n] [(0,(ms 0).v)] 2 (Q3 (AP (.int .i64 k) .nili) [(0,(ms k).v)] 2):=by
 refine Ac ok.k71 rfl fun x hx=>?_;have e0:((n:Int) < 0)=False:=eq_false Aa;have hS:∀ (m:Mc) H a z,Aw H a z m.v m.v:=fun m H a z=>by simp only [Mc.v,AL,LY,seval]
 have hN:∀ m:Mc,AG m.v:=fun m=>by simp only [Mc.v,AL,AG,P9,implies_true,and_self]
 have hR:∀ (m:Mc) a,m.v.ren a=m.v:=fun m a=>rfl;refine eX ?_;simp only [f71,c71,e0,LZ,seval];refine Au (σ:=Nat) (fun i=>i≤k) (fun i=>fr 37 [(0,.ptr 0 []),(1,.ptr 1 []),(2,.int .i64 n),(8,.int .i64 i)]) (fun i=>[(0,(ms i).v)]) (fun _=>2) (fun i=>k - i) 0 Aa ?_ ?_
 ·refine Av.fr [0,1] [] hx Bg Ab ?_ ?_
  ·simp only [LY,seval]
  ·simp only [hS,LY,seval]
 ·intro i hi;refine eX ?_;by_cases hik:i=k
  ·subst hik;rcases he with he | he
   ·by_cases hin:i < n
    ·have d0:((i:Int) < (n:Int))=True:=eq_true Aa;simp only [d0,Mc.v,PG,he,seval];have zz:=Jr @Mc.v.eq_1 @b5 he;exact DD hx [0,1] ⟨rfl,rfl,rfl⟩
    ·have d0:((i:Int) < (n:Int))=False:=eq_false Aa;simp only [d0,Mc.v,PG,seval];have zz:=BK @Mc.v.eq_1 @b5;exact DD hx [0,1] ⟨rfl,rfl,rfl⟩
   ·have d0:((i:Int) < (n:Int))=False:=eq_false Aa;simp only [d0,Mc.v,PG,seval];have zz:=BK @Mc.v.eq_1 @b5;exact DD hx [0,1] ⟨rfl,rfl,rfl⟩
  ·obtain ⟨h1,h2⟩:=hs i Aa;have d0:((i:Int) < (n:Int))=True:=eq_true Aa;have w0:IntKind.i64.wrap ((i:Int) + 1)=((i + 1:Nat):Int):=B7;have hv:(ms i).v=AL (ms i).f (ms i).g (ms i).pc (ms i).hl (ms i).xt:=rfl;rw [hv];simp only [d0,PG,h1,seval];have hst:=h2;unfold BV at hst;rw [hv,h1] at hst;have zz:=BK @b5 hN;refine cbY [0,1] [0] (hst) ?_;simp only [hR,w0,LZ,seval];refine ⟨i + 1,by omega,by omega,?_⟩;refine Av.fr [0,1] [] hx Bg Ab ?_ ?_
   ·simp only [LY,seval]
   ·simp only [hS,LY,seval]
def jmp (op:Nat) (f g:Nat→BitVec 64) (pc xt:BitVec 64) (d a:Nat) (to:BitVec 64):V :=
 if (op=30∧¬ g a=0#64) ∨ (op=31∧g a=0#64) then AL f g (pc + 1#64) false xt
 else if 8192#64≤(if op=33 then g a else to) then AL f g pc true XZ
 else AL f (if op=32 then Df g d (pc + 1#64) else g) (if op=33 then g a else to) false xt
theorem Vs {M:Seat} (ok:OkV M) (op:Nat) (ho:op=29 ∨ op=30 ∨ op=31 ∨ op=32 ∨ op=33) (f g:Nat→BitVec 64) (pc xt:BitVec 64) (d a:Nat) (hd:d < 16) (ha:a < 16) (to:BitVec 64) :
 As M 216 [.ptr 0 [],.int .i64 op,.int .i64 d,.int .i64 a,W to] [(0,AL f g pc false xt)] 1 (Q3 (.tup .fnil) [(0,jmp op f g pc xt d a to)] 1):=by
 refine Ac ok.k216 rfl fun x hx=>?_;by_cases h0:g a=0#64 <;> by_cases h1:8192#64≤to <;> by_cases h2:8192#64≤g a <;> rcases ho with rfl | rfl | rfl | rfl | rfl;all_goals simp only [jmp,h0,h1,h2,seval,Lb9,true_and,false_and,or_false,not_false_eq_true,false_or]
 all_goals refine eX ?_;simp only [Ajn,Am8,PG,h0,h1,h2,Int.cast_ofNat_Int,seval]
 all_goals repeat refine sd ?_
 all_goals try ((have zz:=BK @b5 Lc1;exact DD hx [0] ⟨rfl,rfl,rfl⟩))
 all_goals
  have zz:=@b5;refine cmY [0] (M5 ok f g pc false xt XZ) ?_;simp only [PG,seval];have zz:=BK @b5 Lc1;exact DD hx [0] ⟨rfl,rfl,rfl⟩
theorem Es {M:Seat} (ok:OkV M) (op:Nat) (ho:op=29 ∨ op=30 ∨ op=31 ∨ op=32 ∨ op=33) (f g:Nat→BitVec 64) (pc xt:BitVec 64) (hpc:¬ 8192#64≤pc) (w:BitVec 64) (hw:f pc.toNat=w) (hop:Xf w=op) (h2:w >>> 32 &&& 255#64=0#64) :
 As M 70 [.ptr 0 [],.ptr 1 []] [(0,AL f g pc false xt)] 2 (Q3 .nili [(0,jmp op f g pc xt (pF w 52) (pF w 48) (BitVec.ofInt 64 (pN w)))] 2):=by
 refine Ac ok.k70 rfl fun x hx=>?_;have hp:pc.toNat < 8192:=Um;have a1:=Cf w 52;have a2:=Cf w 48;have d1:((op:Int)=0)=False:=eq_false Aa;have d2:((op:Int) < 26)=False:=eq_false Aa;have d3:((op:Int)=26)=False:=eq_false Aa;have d4:((op:Int)=27)=False:=eq_false Aa;have d5:((op:Int)=28)=False:=eq_false Aa;have d6:((op:Int) < 34)=True:=eq_true Aa;refine eX ?_;simp only [f70,c70,PG,hpc,hw,seval];repeat refine sd ?_
 have zz:=@c8;refine opY (CY ok w Aa h2) ?_;simp only [Lba,hop,d1,d2,d3,d4,d5,d6,seval];repeat refine sd ?_
 have hS:∀ H m z,Aw H m z (jmp op f g pc xt (pF w 52) (pF w 48) (BitVec.ofInt 64 (pN w))) (jmp op f g pc xt (pF w 52) (pF w 48) (BitVec.ofInt 64 (pN w))):=by
  intro H m z;unfold jmp
  repeat' split
  all_goals simp only [AL,LY,seval]
 have hN:AG (jmp op f g pc xt (pF w 52) (pF w 48) (BitVec.ofInt 64 (pN w))):=by
  unfold jmp
  repeat' split
  all_goals simp only [AL,AG,P9,implies_true,and_self]
 have hR:∀ m,(jmp op f g pc xt (pF w 52) (pF w 48) (BitVec.ofInt 64 (pN w))).ren m=jmp op f g pc xt (pF w 52) (pF w 48) (BitVec.ofInt 64 (pN w)):=by
  intro m;unfold jmp
  repeat' split
  all_goals rfl
 have zz:=BK @b5 hN;refine cmY [0] (Vs ok op ho f g pc xt (pF w 52) (pF w 48) Aa Aa (BitVec.ofInt 64 (pN w))) ?_;simp only [hR,LZ,seval];have zz:=hS;exact DD hx [0,1] ⟨rfl,rfl,rfl⟩
def ZQ:ByteArray:=⟨#[0,1,2,2,3,3,3,3,4,4,4,4,4,4,4,4,5,5,5,5,5,5,5,5,5,5,5,5,5,5,5,5,6,6,6,6,6,6,6,6,6,6,6,6,6,6,6,6,6,6,6,6,6,6,6,6,6,6,6,6,6,6,6,6,7,7,7,7,7,7,7,7,7,7,7,7,7,7,7,7,7,7,7,7,7,7,7,7,7,7,7,7,7,7,7,7,7,7,7,7,7,7,7,7,7,7,7,7,7,7,7,7,7,7,7,7,7,7,7,7,7,7,7,7,7,7,7,7,8,8,8,8,8,8,8,8,8,8,8,8,8,8,8,8,8,8,8,8,8,8,8,8,8,8,8,8,8,8,8,8,8,8,8,8,8,8,8,8,8,8,8,8,8,8,8,8,8,8,8,8,8,8,8,8,8,8,8,8,8,8,8,8,8,8,8,8,8,8,8,8,8,8,8,8,8,8,8,8,8,8,8,8,8,8,8,8,8,8,8,8,8,8,8,8,8,8,8,8,8,8,8,8,8,8,8,8,8,8,8,8,8,8,8,8,8,8,8,8,8,8,8,8,8,8,8,8]⟩
def Aj0:LC:=(sr [mU 6 0] (.seq (sr [mt 10 2,
  aU 11 .eql 10 0] (.cond (.t 11) (sr [mU 6 0] .ret) .skip)) (.seq (sr [mt 12 0] (.block 0 (sr [aI 14 .eql 12 4,mt 13 14] (.cond (.t 13) (sr [mt 15 1,mt 16 2,ak 17 .quo 15 16,mt 6 17] .ret) (sr [aI 19 .eql 12 6,mt 18 19] (.cond (.t 18) (sr [mt 20 1,mt 21 2,ak 22 .rem 20 21,mt 6 22] .ret) .skip)))))) (sr [mt 23 2,
  Ea 24 .i64 23,aI 25 .lss 24 0,mt 26 1,
  Ea 27 .i64 26,aI 28 .lss 27 0,mt 7 25,mt 8 28] (.seq (sr [mt 29 7] (.cond (.t 29) (.reg [mt 30 2,A1 31 (.un .neg (.t 30)),mt 2 31]) .skip)) (.seq (sr [mt 32 8] (.cond (.t 32) (.reg [mt 33 1,A1 34 (.un .neg (.t 33)),mt 1 34]) .skip)) (sr [mt 35 1,mt 36 2,ak 37 .rem 35 36,mt 9 37] (.seq (sr [mt 38 0,aI 39 .eql 38 5] (.cond (.t 39) (.reg [mt 40 1,mt 41 2,ak 42 .quo 40 41,mt 43 8,mt 44 7,A1 45 (.eq true false .bool (.t 43) (.t 44)),mt 9 42,mt 8 45]) .skip)) (.seq (sr [mt 46 8] (.cond (.t 46) (sr [mt 47 9,A1 48 (.un .neg (.t 47)),mt 6 48] .ret) .skip)) (sr [mt 49 9,mt 6 49] .ret))))))))))
def Aep:LF:=⟨Aj0,3,0,50,[.tmp 6]⟩
def Z9:LC:=(sr [mU 8 0] (.seq (sr [mt 13 3,
  aU 14 .eql 13 0] (.cond (.t 14) (sr [mU 8 0] .ret) .skip)) (.seq (.regd [⟨0,0,mt 15 1⟩,⟨1,0,mt 16 3⟩,⟨2,3,ak 17 .rem 15 16⟩,⟨3,0,mt 18 2⟩,⟨4,0,mt 19 3⟩,⟨5,24,ak 20 .rem 18 19⟩,⟨6,7,mt 1 17⟩,⟨7,127,mt 2 20⟩]) (sr [mt 22 1,mt 23 2,kl 24 421 [(.t 22),(.t 23)],mt 21 24,ee 25 21 0,ee 26 21 1,mt 9 25,mt 10 26] (.seq (sr [mt 27 0,aI 28 .eql 27 8] (.cond (.t 28) (.reg [mt 30 1,mt 31 2,A1 32 (.add64 (.t 30) (.t 31) (cU 0)),mt 29 32,ee 33 29 0,ee 34 29 1,mt 10 33,mt 9 34]) .skip)) (sr [mt 36 9,mt 37 10,mt 38 3,kl 39 423 [(.t 36),(.t 37),(.t 38)],mt 35 39,ee 40 35 0,ee 41 35 1,mt 11 40,mt 12 41] (sr [mt 42 12,mt 8 42] .ret)))))))
def Vu:LF:=⟨Z9,4,0,43,[.tmp 8]⟩
def An8:LC:=(sr [mU 4 0] (sr [mU 5 1] (.seq (.block 0 (.loop (.seq (sr [mt 6 1,
  aU 7 .gtr 6 0]
 (Fy 7 0)) (.seq (.block 1 (.seq (sr [mt 10 1,
  aU 11 .and 10 1,
  aU 12 .eql 11 1] (.cond (.t 12) (.reg [mt 13 5,mt 14 0,ak 15 .mul 13 14,mt 5 15]) .skip)) (.reg [mt 16 0,mt 17 0,ak 18 .mul 16 17,mt 0 18]))) (.reg [mt 8 1,
  aU 9 .shr 8 1,mt 1 9]))))) (sr [mt 19 5,mt 4 19] .ret))))
def Ajs:LF:=⟨An8,2,0,20,[.tmp 4]⟩
def OQ:LC:=(sr [mU 6 0] (.seq (sr [mt 8 0] (.block 0 (sr [aI 10 .eql 8 11,mt 9 10] (.cond (.t 9) (.seq (sr [mt 11 1,
  aU 12 .geq 11 7] (.cond (.t 12) (sr [mt 13 2,mt 6 13] .ret) .skip)) (sr [mt 14 1,
  aV 15 .mul 8 14,
  aV 16 .sub 56 15,mt 7 16] (sr [mt 17 2,mt 18 7,ak 19 .shl 17 18,
  Ea 20 .i64 19,mt 21 7,ak 22 .shr 20 21,
  Ea 23 .u64 22,mt 6 23] .ret))) (sr [aI 25 .eql 8 12,mt 24 25] (.cond (.t 24) (.seq (sr [mt 26 1,
  aU 27 .gtr 26 7] (.cond (.t 27) (sr [mU 6 0] .ret) .skip)) (sr [mt 28 2,mt 29 1,
  aV 30 .mul 8 29,
  aV 31 .sub 56 30,ak 32 .shr 28 31,
  aU 33 .and 32 255,mt 6 33] .ret)) (sr [aI 35 .eql 8 13,mt 34 35] (.cond (.t 34) (sr [mt 36 2,mt 37 1,ak 38 .shl 36 37,mt 6 38] .ret) (sr [aI 40 .eql 8 14,mt 39 40] (.cond (.t 39) (sr [mt 41 2,mt 42 1,ak 43 .shr 41 42,mt 6 43] .ret) .skip)))))))))) (sr [mt 44 2,
  Ea 45 .i64 44,mt 46 1,ak 47 .shr 45 46,
  Ea 48 .u64 47,mt 6 48] .ret)))
def Nn:LF:=⟨OQ,3,0,49,[.tmp 6]⟩
def Apo:LC:=(sr [mU 2 0] (.seq (sr [mt 3 0] (.cond (.t 3) (sr [mU 2 1] .ret) .skip)) (sr [mU 2 0] .ret)))
def Ah0:LF:=⟨Apo,1,0,4,[.tmp 2]⟩
def Aof:LC:=(sr [mU 4 0,
 mU 5 0] (sr [mt 14 0,
  aU 15 .and 14 4294967295,mt 6 15] (sr [mt 16 0,
  aU 17 .shr 16 32,mt 7 17] (sr [mt 18 1,
  aU 19 .and 18 4294967295,mt 8 19] (sr [mt 20 1,
  aU 21 .shr 20 32,mt 9 21] (sr [mt 22 6,mt 23 8,ak 24 .mul 22 23,mt 10 24] (sr [mt 25 7,mt 26 8,ak 27 .mul 25 26,mt 28 10,
  aU 29 .shr 28 32,ak 30 .add 27 29,mt 11 30] (sr [mt 31 11,
  aU 32 .and 31 4294967295,mt 12 32] (sr [mt 33 11,
  aU 34 .shr 33 32,mt 13 34] (sr [mt 35 12,mt 36 6,mt 37 9,ak 38 .mul 36 37,ak 39 .add 35 38,mt 12 39] (sr [mt 40 7,mt 41 9,ak 42 .mul 40 41,mt 43 13,ak 44 .add 42 43,mt 45 12,
  aU 46 .shr 45 32,ak 47 .add 44 46,mt 4 47] (sr [mt 48 0,mt 49 1,ak 50 .mul 48 49,mt 5 50] .ret))))))))))))
def Ah2:LF:=⟨Aof,2,0,51,[.tmp 4,.tmp 5]⟩
def Akq:LC:=(sr [mU 6 0,
 mU 7 0] (.seq (sr [mt 19 2,
  aU 20 .eql 19 0] (.cond (.t 20) (.reg [A1 21 .nope ,A0 .nope ]) .skip)) (.seq (sr [mt 22 2,mt 23 0,ak 24 .leq 22 23] (.cond (.t 24) (.reg [A1 25 .nope ,A0 .nope ]) .skip)) (.seq (sr [mt 26 0,
  aU 27 .eql 26 0] (.cond (.t 27) (.seq (.regd [⟨0,0,mt 28 1⟩,⟨1,0,mt 29 2⟩,⟨2,3,ak 30 .quo 28 29⟩,⟨3,0,mt 31 1⟩,⟨4,0,mt 32 2⟩,⟨5,24,ak 33 .rem 31 32⟩,⟨6,7,mt 6 30⟩,⟨7,127,mt 7 33⟩]) .ret) .skip)) (sr [mt 34 2,kl 35 463 [(.t 34)],
  Ea 36 .u64 35,mt 8 36] (sr [mt 37 2,mt 38 8,ak 39 .shl 37 38,mt 2 39] (sr [mt 40 2,
  aU 41 .shr 40 32,mt 9 41] (sr [mt 42 2,
  aU 43 .and 42 4294967295,mt 10 43] (sr [mt 44 0,mt 45 8,ak 46 .shl 44 45,mt 47 1,mt 48 8,
  aV 49 .sub 64 48,ak 50 .shr 47 49,ak 51 .or 46 50,mt 11 51] (sr [mt 52 1,mt 53 8,ak 54 .shl 52 53,mt 12 54] (sr [mt 55 12,
  aU 56 .shr 55 32,mt 13 56] (sr [mt 57 12,
  aU 58 .and 57 4294967295,mt 14 58] (sr [mt 59 11,mt 60 9,ak 61 .quo 59 60,mt 15 61] (sr [mt 62 11,mt 63 15,mt 64 9,ak 65 .mul 63 64,ak 66 .sub 62 65,mt 16 66] (.seq (.block 0 (.loop (.seq (sr [mt 67 15,
  aU 68 .geq 67 4294967296,mt 69 68,mg 70 69 false 15,mg 71 69 false 10,A2 72 69 false (.ari .mul (.t 70) (.t 71)),mg 73 69 false 16,A2 74 69 false (.ari .mul (cU 4294967296) (.t 73)),mg 75 69 false 13,A2 76 69 false (.ari .add (.t 74) (.t 75)),A2 77 69 false (.ari .gtr (.t 72) (.t 76)),
  FB 78 69 77]
 (Fy 78 0)) (.block 1 (sr [mt 79 15,
  aU 80 .sub 79 1,mt 15 80] (sr [mt 81 16,mt 82 9,ak 83 .add 81 82,mt 16 83] (sr [mt 84 16,
  aU 85 .geq 84 4294967296] (.cond (.t 85) (.exit 0) .skip)))))))) (sr [mt 86 11,
  aU 87 .mul 86 4294967296,mt 88 13,ak 89 .add 87 88,mt 90 15,mt 91 2,ak 92 .mul 90 91,ak 93 .sub 89 92,mt 17 93] (sr [mt 94 17,mt 95 9,ak 96 .quo 94 95,mt 18 96] (sr [mt 97 17,mt 98 18,mt 99 9,ak 100 .mul 98 99,ak 101 .sub 97 100,mt 16 101] (.seq (.block 2 (.loop (.seq (sr [mt 102 18,
  aU 103 .geq 102 4294967296,mt 104 103,mg 105 104 false 18,mg 106 104 false 10,A2 107 104 false (.ari .mul (.t 105) (.t 106)),mg 108 104 false 16,A2 109 104 false (.ari .mul (cU 4294967296) (.t 108)),mg 110 104 false 14,A2 111 104 false (.ari .add (.t 109) (.t 110)),A2 112 104 false (.ari .gtr (.t 107) (.t 111)),
  FB 113 104 112]
 (Fy 113 2)) (.block 3 (sr [mt 114 18,
  aU 115 .sub 114 1,mt 18 115] (sr [mt 116 16,mt 117 9,ak 118 .add 116 117,mt 16 118] (sr [mt 119 16,
  aU 120 .geq 119 4294967296] (.cond (.t 120) (.exit 2) .skip)))))))) (sr [mt 121 15,
  aU 122 .mul 121 4294967296,mt 123 18,ak 124 .add 122 123,mt 125 17,
  aU 126 .mul 125 4294967296,mt 127 14,ak 128 .add 126 127,mt 129 18,mt 130 2,ak 131 .mul 129 130,ak 132 .sub 128 131,mt 133 8,ak 134 .shr 132 133,mt 6 124,mt 7 134] .ret))))))))))))))))))))
def Ada:LF:=⟨Akq,3,0,135,[.tmp 6,.tmp 7]⟩
def VM:LC:=(sr [mI 2 0] (.seq (sr [mt 3 0,
  aU 4 .geq 3 4294967296] (.cond (.t 4) (sr [mt 5 0,
  aU 6 .shr 5 32,mt 0 6] (.reg [mI 2 32])) .skip)) (.seq (sr [mt 7 0,
  aU 8 .geq 7 65536] (.cond (.t 8) (sr [mt 9 0,
  aU 10 .shr 9 16,mt 0 10] (.reg [mt 11 2,aI 12 .add 11 16,mt 2 12])) .skip)) (.seq (sr [mt 13 0,
  aU 14 .geq 13 256] (.cond (.t 14) (sr [mt 15 0,
  aU 16 .shr 15 8,mt 0 16] (.reg [mt 17 2,aI 18 .add 17 8,mt 2 18])) .skip)) (sr [mt 19 2,mt 20 0,
  Ea 21 .u8 20,A1 22 (.sidx (.c (.str ZQ)) (.t 21)),
  Ea 23 .i64 22,ak 24 .add 19 23,mt 2 24] .ret)))))
def Td:LF:=⟨VM,1,0,25,[.tmp 2]⟩
def Aow:LC:=(sr [mI 2 0] (sr [mt 3 0,kl 4 259 [(.t 3)],
  aJ 5 .sub 64 4,mt 2 5] .ret))
def Ak8:LF:=⟨Aow,1,0,6,[.tmp 2]⟩
variable {M:Seat}
def Lcb:=(Jr @PG @c70.eq_1 @f70.eq_1)
structure OkP (M:Seat):Prop where
 k215:Ar M 215 Xg=true
 k321:Ar M 321 Aep=true
 k322:Ar M 322 Vu=true
 k323:Ar M 323 Ajs=true
 k324:Ar M 324 Nn=true
 k325:Ar M 325 Ah0=true
 k421:Ar M 421 Ah2=true
 k423:Ar M 423 Ada=true
 k259:Ar M 259 Td=true
 k463:Ar M 463 Ak8=true
def V4 (t:Bool):BitVec 64:=if t then 1#64 else 0#64
theorem To (ok:OkP M) (t:Bool):As M 325 [.bool t] [] 0 (Q3 (W (V4 t)) [] 0):=by
 refine Ac ok.k325 rfl fun x hx=>?_;cases t;all_goals refine eX ?_;simp only [Ah0,Apo,LZ,seval]
 all_goals (have zz:=@V4.eq_1;exact DD hx [] ⟨rfl,rfl,rfl⟩)
def EF (op:Nat) (a b:BitVec 64):BitVec 64 :=
 if b=0#64 then 0#64 else if op=4 then a / b else if op=6 then a % b
 else if op=5 then (if ((a.toInt < 0) ↔ (b.toInt < 0)) then (if a.toInt < 0 then -a else a) / (if b.toInt < 0 then -b else b) else -((if a.toInt < 0 then -a else a) / (if b.toInt < 0 then -b else b)))
 else if a.toInt < 0 then -((-a) % (if b.toInt < 0 then -b else b)) else a % (if b.toInt < 0 then -b else b)
theorem ML (ok:OkP M) (op:Nat) (ho:op=4 ∨ op=5 ∨ op=6 ∨ op=7) (a b:BitVec 64):As M 321 [.int .i64 op,W a,W b] [] 0 (Q3 (W (EF op a b)) [] 0):=by
 refine Ac ok.k321 rfl fun x hx=>?_;by_cases hb:b=0#64
 ·subst hb;refine eX ?_;simp only [Aep,Aj0,LZ,seval];have zz:=@EF.eq_1;exact DD hx [] ⟨rfl,rfl,rfl⟩
 ·have hn:¬ -b=0#64:=fun h=>hb (by have:=congrArg (fun x=>-x) h;simpa using this);have e0:(b ≠ 0)=True:=eq_true hb;have e1:(-b ≠ 0)=True:=eq_true hn;rcases Classical.propComplete (a.toInt < 0) with h1 | h1 <;> rcases Classical.propComplete (b.toInt < 0) with h2 | h2 <;> rcases ho with rfl | rfl | rfl | rfl;all_goals simp only [EF,hb,h1,h2,Lb9,seval,iff_self,iff_true,iff_false,true_iff,false_iff,not_false_eq_true]
  all_goals refine eX ?_;simp only [Aep,Aj0,hb,h1,h2,e0,e1,Lbp,seval]
  all_goals repeat refine sd ?_
  all_goals exact Ay.mkZ hx [] ⟨rfl,rfl,rfl⟩
def Zg:Nat→BitVec 64→BitVec 64→BitVec 64→BitVec 64
 | 0,_,_,p=>p
 | k + 1,a,b,p=>if b=0#64 then p else Zg k (a * a) (b >>> 1) (if b &&& 1#64=1#64 then p * a else p)
theorem QD (ok:OkP M) (a b:BitVec 64):As M 323 [W a,W b] [] 0 (Q3 (W (Zg 64 a b 1#64)) [] 0):=by
 refine Ac ok.k323 rfl fun x hx=>?_;generalize hF:Zg 64 a b 1#64=F;refine eX ?_;simp only [Ajs,An8,LZ,seval];refine Au (σ:=Nat × BitVec 64 × BitVec 64 × BitVec 64) (fun s=>Zg s.1 s.2.1 s.2.2.1 s.2.2.2=F∧s.2.2.1.toNat < 2 ^ s.1) (fun s=>fr 20 [(0,W s.2.1),(1,W s.2.2.1),(5,W s.2.2.2)]) (fun _=>[]) (fun _=>0) (fun s=>s.1) (64,a,b,1#64) ⟨hF,b.isLt⟩ ?_ ?_
 ·refine Av.fr [] [] hx Bg Ab ?_ ?_
  ·simp only [LY,seval]
  ·trivial
 ·rintro ⟨k,a,b,p⟩ ⟨h1,h2⟩;dsimp only at h1 h2;refine eX ?_;by_cases h0:b=0#64
  ·subst h0;have hp:p=F:=by
    cases k with
    | zero=>exact h1
    | succ k=>rw [Zg,if_pos rfl] at h1;exact h1
   subst hp;simp only [LZ,seval];exact Ay.mkZ hx [] ⟨rfl,rfl,rfl⟩
  ·have hg:(0#64 < b)=True:=eq_true (by
    rw [BitVec.lt_def];have:b.toNat ≠ 0:=fun h=>h0 (BitVec.eq_of_toNat_eq V0)
    show 0 < b.toNat;omega)
   cases k with
   | zero=>exact absurd (BitVec.eq_of_toNat_eq (by have:b.toNat < 1:=h2;show b.toNat=0;omega)) h0
   | succ k =>
     rw [Zg,if_neg h0] at h1;have hs:(b >>> 1).toNat < 2 ^ k:=by
      rw [BitVec.toNat_ushiftRight,Nat.shiftRight_eq_div_pow];rw [Nat.pow_succ] at h2;omega
     by_cases h3:b &&& 1#64=1#64
     ·rw [if_pos h3] at h1;simp only [hg,h3,LZ,seval];refine ⟨(k,a * a,b >>> 1,p * a),h1,hs,by omega,?_⟩;refine Av.fr [] [] hx Bg Ab ?_ ?_
      ·simp only [LY,seval]
      ·trivial
     ·rw [if_neg h3] at h1;simp only [hg,h3,LZ,seval];refine ⟨(k,a * a,b >>> 1,p),h1,hs,by omega,?_⟩;refine Av.fr [] [] hx Bg Ab ?_ ?_
      ·simp only [LY,seval]
      ·trivial
def m8:=@EF.eq_1
end Mv
namespace Mv
open Go
variable {M:Seat}
def TA (a b:BitVec 64):BitVec 64 :=
 (a >>> 32) * (b >>> 32) + (((a >>> 32) * (b &&& 4294967295#64) + ((a &&& 4294967295#64) * (b &&& 4294967295#64)) >>> 32) >>> 32)
  + ((((a >>> 32) * (b &&& 4294967295#64) + ((a &&& 4294967295#64) * (b &&& 4294967295#64)) >>> 32) &&& 4294967295#64) + (a &&& 4294967295#64) * (b >>> 32)) >>> 32
theorem Jy (ok:OkP M) (a b:BitVec 64):As M 421 [W a,W b] [] 0 (Q3 (AP (W (TA a b)) (W (a * b))) [] 0):=by
 refine Ac ok.k421 rfl fun x hx=>?_;have e32:(32#64).toNat=32:=rfl;refine eX ?_;simp only [Ah2,Aof,e32,LZ,seval];exact Ay.mkZ hx [] ⟨rfl,rfl,rfl⟩
theorem Lm (a:BitVec 64):(a &&& 4294967295#64).toNat=a.toNat % 4294967296:=by
 have e:(4294967295#64).toNat=2 ^ 32 - 1:=Ab;rw [BitVec.toNat_and,e,Nat.and_two_pow_sub_one_eq_mod]
theorem EH (a:BitVec 64):(a >>> 32).toNat=a.toNat / 4294967296:=by
 rw [BitVec.toNat_ushiftRight,Nat.shiftRight_eq_div_pow]
theorem IL {p q:Nat} (hp:p < 4294967296) (hq:q < 4294967296):p * q≤18446744065119617025:=by
 have:=Nat.mul_le_mul (show p≤4294967295 by omega) (show q≤4294967295 by omega);omega
theorem QY {p q:BitVec 64} (hp:p.toNat < 4294967296) (hq:q.toNat < 4294967296):(p * q).toNat=p.toNat * q.toNat:=by
 have:=IL hp hq;rw [BitVec.toNat_mul,Nat.mod_eq_of_lt Aa]
theorem PQ {p q:BitVec 64} (h:p.toNat + q.toNat < 18446744073709551616):(p + q).toNat=p.toNat + q.toNat:=by
 rw [BitVec.toNat_add,Nat.mod_eq_of_lt Aa]
theorem MM (a b:BitVec 64):(TA a b).toNat=a.toNat * b.toNat / 18446744073709551616:=by
 have ha:=a.isLt;have hb:=b.isLt;have l1:(a &&& 4294967295#64).toNat < 4294967296:=by rw [Lm];omega
 have l2:(b &&& 4294967295#64).toNat < 4294967296:=by rw [Lm];omega
 have l3:(a >>> 32).toNat < 4294967296:=by rw [EH];omega
 have l4:(b >>> 32).toNat < 4294967296:=by rw [EH];omega
 have m1:=QY l1 l2;have m2:=QY l3 l2;have m3:=QY l1 l4;have m4:=QY l3 l4;have b1:=IL l1 l2;have b2:=IL l3 l2;have b3:=IL l1 l4;have b4:=IL l3 l4;have ea:a.toNat=(a >>> 32).toNat * 4294967296 + (a &&& 4294967295#64).toNat:=Aan;have eb:b.toNat=(b >>> 32).toNat * 4294967296 + (b &&& 4294967295#64).toNat:=Aan;have ep:a.toNat * b.toNat=(a >>> 32).toNat * (b >>> 32).toNat * 18446744073709551616 + ((a >>> 32).toNat * (b &&& 4294967295#64).toNat + (a &&& 4294967295#64).toNat * (b >>> 32).toNat) * 4294967296 + (a &&& 4294967295#64).toNat * (b &&& 4294967295#64).toNat:=by
  rw [ea,eb];generalize (a >>> 32).toNat=p;generalize (b >>> 32).toNat=q;generalize (a &&& 4294967295#64).toNat=r;generalize (b &&& 4294967295#64).toNat=s;rw [Nat.add_mul,Nat.mul_add,Nat.mul_add,Nat.mul_mul_mul_comm,Nat.mul_right_comm p _ s,← Nat.mul_assoc r q,Nat.add_mul];omega
 rw [ep];unfold TA;generalize (a &&& 4294967295#64)=x0 at *
 generalize (b &&& 4294967295#64)=y0 at *
 generalize (a >>> 32)=x1 at *
 generalize (b >>> 32)=y1 at *
 have t1:(x1 * y0 + (x0 * y0) >>> 32).toNat=x1.toNat * y0.toNat + x0.toNat * y0.toNat / 4294967296:=by
  rw [PQ (by rw [EH,m1,m2];omega),EH,m1,m2]
 have t2:(((x1 * y0 + (x0 * y0) >>> 32) &&& 4294967295#64) + x0 * y1).toNat=(x1.toNat * y0.toNat + x0.toNat * y0.toNat / 4294967296) % 4294967296 + x0.toNat * y1.toNat:=by
  rw [PQ (by rw [Lm,t1,m3];omega),Lm,t1,m3]
 have t3:(x1 * y1 + (x1 * y0 + (x0 * y0) >>> 32) >>> 32).toNat=x1.toNat * y1.toNat + (x1.toNat * y0.toNat + x0.toNat * y0.toNat / 4294967296) / 4294967296:=by
  rw [PQ (by rw [EH,t1,m4];omega),EH,t1,m4]
 rw [PQ (by rw [EH,t2,t3];omega),EH,t2,t3];omega
def Iy (i:Nat):Nat:=((ZQ[i]?).getD 0).toNat
theorem Fl:∀ i,i < 256→Iy i≤8∧(i ≠ 0→1≤Iy i∧2 ^ (Iy i - 1)≤i∧i < 2 ^ Iy i):=by
 have h:(List.range 256).all (fun i=>decide (Iy i≤8) && (i == 0 || (decide (1≤Iy i) && decide (2 ^ (Iy i - 1)≤i) && decide (i < 2 ^ Iy i))))=true:=by kernel_rfl
 intro i hi;have:=List.all_eq_true.1 h i (List.mem_range.2 hi);simp only [Bool.and_eq_true,Bool.or_eq_true,beq_iff_eq,decide_eq_true_eq] at this;exact ⟨this.1,fun h0=>by rcases this.2 with h | h;exact absurd h h0;exact ⟨h.1.1,h.1.2,h.2⟩⟩
def Og (x:BitVec 64):Nat × BitVec 64:=if 4294967296#64≤x then (32,x >>> 32) else (0,x)
def Oz (s:Nat × BitVec 64):Nat × BitVec 64:=if 65536#64≤s.2 then (s.1 + 16,s.2 >>> 16) else s
def Ld (s:Nat × BitVec 64):Nat × BitVec 64:=if 256#64≤s.2 then (s.1 + 8,s.2 >>> 8) else s
def Em (x:BitVec 64):Nat:=(Ld (Oz (Og x))).1 + Iy (Ld (Oz (Og x))).2.toNat
theorem Uo {n t i x:Nat} (hi:x / 2 ^ n=i) (h1:1≤t) (h2:2 ^ (t - 1)≤i) (h3:i < 2 ^ t):2 ^ (n + t - 1)≤x∧x < 2 ^ (n + t):=by
 have hp:0 < 2 ^ n:=Nat.two_pow_pos n;have e1:2 ^ (n + t - 1)=2 ^ (t - 1) * 2 ^ n:=Aff;have e2:2 ^ (n + t)=2 ^ t * 2 ^ n:=Aff;rw [e1,e2];subst hi;exact ⟨Nat.le_trans (Nat.mul_le_mul_right _ h2) (Nat.div_mul_le_self x _),(Nat.div_lt_iff_lt_mul hp).1 h3⟩
theorem Ps (x:BitVec 64):∃ n,(Ld (Oz (Og x))).1=n∧n≤56∧(Ld (Oz (Og x))).2.toNat < 256∧x.toNat / 2 ^ n=(Ld (Oz (Og x))).2.toNat∧(x ≠ 0#64→(Ld (Oz (Og x))).2.toNat ≠ 0):=by
 have hx:=x.isLt;have hz:x ≠ 0#64→x.toNat ≠ 0:=fun h h'=>h (BitVec.eq_of_toNat_eq (by simpa using h'));have e1:(4294967296#64).toNat=4294967296:=rfl;have e2:(65536#64).toNat=65536:=rfl;have e3:(256#64).toNat=256:=rfl;by_cases h1:4294967296#64≤x;all_goals simp only [Og,h1,Dh,Oz]
 ·have g1:=h1;rw [BitVec.le_def,e1] at g1;by_cases h2:65536#64≤x >>> 32;all_goals simp only [h2,Dh,Ld]
  ·have g2:=h2;rw [BitVec.le_def,e2,BitVec.toNat_ushiftRight,Nat.shiftRight_eq_div_pow] at g2;by_cases h3:256#64≤x >>> 32 >>> 16;all_goals simp only [h3,Dh]
   all_goals (have g3:=h3;rw [BitVec.le_def,e3,BitVec.toNat_ushiftRight,Nat.shiftRight_eq_div_pow,BitVec.toNat_ushiftRight,Nat.shiftRight_eq_div_pow] at g3)
   all_goals try simp only [Lb4]
   ·exact ⟨56,rfl,by omega,by omega,by omega,by omega⟩
   ·exact ⟨48,rfl,by omega,by omega,by omega,by omega⟩
  ·have g2:=h2;rw [BitVec.le_def,e2,BitVec.toNat_ushiftRight,Nat.shiftRight_eq_div_pow] at g2;by_cases h3:256#64≤x >>> 32;all_goals simp only [h3,Dh]
   all_goals (have g3:=h3;rw [BitVec.le_def,e3,BitVec.toNat_ushiftRight,Nat.shiftRight_eq_div_pow] at g3)
   all_goals try simp only [Lb4]
   ·exact ⟨40,rfl,by omega,by omega,by omega,by omega⟩
   ·exact ⟨32,rfl,by omega,by omega,by omega,by omega⟩
 ·have g1:=h1;rw [BitVec.le_def,e1] at g1;by_cases h2:65536#64≤x;all_goals simp only [h2,Dh,Ld]
  ·have g2:=h2;rw [BitVec.le_def,e2] at g2;by_cases h3:256#64≤x >>> 16;all_goals simp only [h3,Dh]
   all_goals (have g3:=h3;rw [BitVec.le_def,e3,BitVec.toNat_ushiftRight,Nat.shiftRight_eq_div_pow] at g3)
   all_goals try simp only [Lb4]
   ·exact ⟨24,rfl,by omega,by omega,by omega,by omega⟩
   ·exact ⟨16,rfl,by omega,by omega,by omega,by omega⟩
  ·have g2:=h2;rw [BitVec.le_def,e2] at g2;by_cases h3:256#64≤x;all_goals simp only [h3,Dh]
   all_goals (have g3:=h3;rw [BitVec.le_def,e3] at g3)
   all_goals try simp only [Lb4]
   ·exact ⟨8,rfl,by omega,by omega,by omega,by omega⟩
   ·exact ⟨0,rfl,by omega,by omega,by omega,by omega⟩
theorem P1 (x:BitVec 64):Em x≤64∧(x ≠ 0#64→1≤Em x∧2 ^ (Em x - 1)≤x.toNat∧x.toNat < 2 ^ Em x):=by
 obtain ⟨n,h1,h2,h3,h4,h5⟩:=Ps x;obtain ⟨q1,q2⟩:=Fl _ h3;unfold Em;rw [h1];refine ⟨by omega,fun h0=>?_⟩;obtain ⟨k1,k2,k3⟩:=q2 (h5 h0);obtain ⟨j1,j2⟩:=Uo h4 k1 k2 k3;exact ⟨by omega,j1,j2⟩
theorem Jk (b:BitVec 8) (H:Hp):Wv (.str ZQ) (B b) H=⟨True,.int .u8 (Iy b.toNat),H⟩:=by
 have h:=b.isLt;have hs:ZQ.size=256:=rfl;show (⟨_,_,_⟩:Out)=_
 congr 1
 exact eq_true ⟨by omega,by rw [hs];omega⟩
theorem I3 {n:Nat} (h:n < 9223372036854775808):IntKind.i64.wrap (n:Int)=n:=AR Aa
theorem HU (k:Int) (y:Nat) (hy:y < 256) (h0:0≤k) (h1:k≤56):IntKind.i64.wrap (k + (Iy y:Int))=k + (Iy y:Int):=by
 have:=(Fl y hy).1;rw [AR Aa]
theorem QG (ok:OkP M) (a:BitVec 64):As M 259 [W a] [] 0 (Q3 (.int .i64 (Em a)) [] 0):=by
 refine Ac ok.k259 rfl fun x hx=>?_;have e32:(32#64).toNat=32:=rfl;have e16:(16#64).toNat=16:=rfl;have e8:(8#64).toNat=8:=rfl;have w0:IntKind.i64.wrap 0=0:=rfl;have w1:IntKind.i64.wrap 48=48:=rfl;have w2:IntKind.i64.wrap 56=56:=rfl;have w3:IntKind.i64.wrap 40=40:=rfl;have w4:IntKind.i64.wrap 16=16:=rfl;have w5:IntKind.i64.wrap 24=24:=rfl;have w6:IntKind.i64.wrap 8=8:=rfl;have w7:IntKind.i64.wrap 32=32:=rfl;have hlen:=Ps a;unfold Em;have ht:∀ y:BitVec 64,y.toNat < 256→((BitVec.setWidth 8 y).toNat=y.toNat∧Iy y.toNat≤8):=fun y hy=>⟨by rw [BitVec.toNat_setWidth];omega,(Fl _ hy).1⟩
 by_cases h1:4294967296#64≤a;all_goals simp only [Og,h1,Dh,Oz] at hlen ⊢
 ·by_cases h2:65536#64≤a >>> 32;all_goals simp only [h2,Dh,Ld] at hlen ⊢
  ·by_cases h3:256#64≤a >>> 32 >>> 16;all_goals simp only [h3,Dh] at hlen ⊢
   all_goals obtain ⟨n,hn,hn2,hy,-⟩:=hlen
   all_goals obtain ⟨hq,hk⟩:=ht _ hy
   all_goals (refine eX ?_;(simp only [Td,VM,e32,e16,e8,w0,w1,w2,w3,w4,w5,w6,w7,h1,h2,h3,Jk,hq,I3 (Nat.lt_of_le_of_lt hk (by decide:8 < 9223372036854775808)),HU 56 _ hy Aa Aa,HU 48 _ hy Aa Aa,HU 40 _ hy Aa Aa,HU 32 _ hy Aa Aa,HU 24 _ hy Aa Aa,HU 16 _ hy Aa Aa,HU 8 _ hy Aa Aa,Int.zero_add,I3 (Nat.lt_of_le_of_lt (Fl _ hy).1 (by decide:8 < 9223372036854775808)),LZ,seval]);exact Ay.mkZ hx [] ⟨rfl,rfl,rfl⟩)
  ·by_cases h3:256#64≤a >>> 32;all_goals simp only [h3,Dh] at hlen ⊢
   all_goals obtain ⟨n,hn,hn2,hy,-⟩:=hlen
   all_goals obtain ⟨hq,hk⟩:=ht _ hy
   all_goals (refine eX ?_;(simp only [Td,VM,e32,e16,e8,w0,w1,w2,w3,w4,w5,w6,w7,h1,h2,h3,Jk,hq,I3 (Nat.lt_of_le_of_lt hk (by decide:8 < 9223372036854775808)),HU 56 _ hy Aa Aa,HU 48 _ hy Aa Aa,HU 40 _ hy Aa Aa,HU 32 _ hy Aa Aa,HU 24 _ hy Aa Aa,HU 16 _ hy Aa Aa,HU 8 _ hy Aa Aa,Int.zero_add,I3 (Nat.lt_of_le_of_lt (Fl _ hy).1 (by decide:8 < 9223372036854775808)),LZ,seval]);exact Ay.mkZ hx [] ⟨rfl,rfl,rfl⟩)
 ·by_cases h2:65536#64≤a;all_goals simp only [h2,Dh,Ld] at hlen ⊢
  ·by_cases h3:256#64≤a >>> 16;all_goals simp only [h3,Dh] at hlen ⊢
   all_goals obtain ⟨n,hn,hn2,hy,-⟩:=hlen
   all_goals obtain ⟨hq,hk⟩:=ht _ hy
   all_goals (refine eX ?_;(simp only [Td,VM,e32,e16,e8,w0,w1,w2,w3,w4,w5,w6,w7,h1,h2,h3,Jk,hq,I3 (Nat.lt_of_le_of_lt hk (by decide:8 < 9223372036854775808)),HU 56 _ hy Aa Aa,HU 48 _ hy Aa Aa,HU 40 _ hy Aa Aa,HU 32 _ hy Aa Aa,HU 24 _ hy Aa Aa,HU 16 _ hy Aa Aa,HU 8 _ hy Aa Aa,Int.zero_add,I3 (Nat.lt_of_le_of_lt (Fl _ hy).1 (by decide:8 < 9223372036854775808)),LZ,seval]);exact Ay.mkZ hx [] ⟨rfl,rfl,rfl⟩)
  ·by_cases h3:256#64≤a;all_goals simp only [h3,Dh] at hlen ⊢
   all_goals obtain ⟨n,hn,hn2,hy,-⟩:=hlen
   all_goals obtain ⟨hq,hk⟩:=ht _ hy
   all_goals (refine eX ?_;(simp only [Td,VM,e32,e16,e8,w0,w1,w2,w3,w4,w5,w6,w7,h1,h2,h3,Jk,hq,I3 (Nat.lt_of_le_of_lt hk (by decide:8 < 9223372036854775808)),HU 56 _ hy Aa Aa,HU 48 _ hy Aa Aa,HU 40 _ hy Aa Aa,HU 32 _ hy Aa Aa,HU 24 _ hy Aa Aa,HU 16 _ hy Aa Aa,HU 8 _ hy Aa Aa,Int.zero_add,I3 (Nat.lt_of_le_of_lt (Fl _ hy).1 (by decide:8 < 9223372036854775808)),LZ,seval]);exact Ay.mkZ hx [] ⟨rfl,rfl,rfl⟩)
theorem O2 (ok:OkP M) (a:BitVec 64):As M 463 [W a] [] 0 (Q3 (.int .i64 ((64 - Em a:Nat):Int)) [] 0):=by
 refine Ac ok.k463 rfl fun x hx=>?_;have h:=(P1 a).1;have w:IntKind.i64.wrap (64 - (Em a:Int))=((64 - Em a:Nat):Int):=B7;refine eX ?_;simp only [Ak8,Aow,LZ,seval];refine Ap (QG ok a) ?_;simp only [w,LZ,seval];exact Ay.mkZ hx [] ⟨rfl,rfl,rfl⟩
end Mv
