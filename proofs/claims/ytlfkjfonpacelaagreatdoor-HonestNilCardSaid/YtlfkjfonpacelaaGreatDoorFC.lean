/- A part. -/
import Derived.Test.YtlfkjfonpacelaaGreatDoorFB
set_option linter.all false
set_option maxRecDepth 20000
set_option maxHeartbeats 8000000
namespace Mv
open Go
theorem Avk {M:Seat} (ok:OkHp M) (p:Nat→BitVec 64) (n:Nat) (d:Int) (l:List (Nat→BitVec 64)) :
 Ag M 363 [.ptr 0 [],ptV p] [(0,EA (.sl 2 [] 0 n 3) d (.map 3) (.map 1)),(1,kmV l)] 4 (Q3 (dg (prt p)) [(0,EA (.sl 2 [] 0 n 3) d (.map 3) (.map 1)),(1,kmV (Awq l p))] 4):=by
 unfold Awq
 cases h:Atj p l with
 | none=>exact Auy ok p n d l h
 | some i=>exact Aux ok p n d l i h
def pcs (f:Nat→BitVec 64) (i j:Nat):BitVec 64:=f (32 * i + j)
def oK (f:Nat→BitVec 64) (l:List (Nat→BitVec 64)):Nat→List (Nat→BitVec 64)
 | 0=>l
 | i + 1=>Awq (oK f l i) (pcs f i)
theorem Aua (f:Nat→BitVec 64) (i:Nat):∀ h q,2 ^ h * (q + 1)≤32→i < 256→HS (ptL (pcs f i)) h q=Dp f h (2 ^ (5 - h) * i + q)
 | 0, q, hq, hi => by
   rw [Aat,Avx _ _ Aa,Dp,if_pos Aa];rfl
 | h + 1, q, hq, hi => by
   have e:2 ^ (h + 1)=2 * 2 ^ h:=Y6
   have h5:h + 1≤5:=by
    refine Classical.byContradiction fun hc=>?_
    have:2 ^ 6≤2 ^ (h + 1):=Nat.pow_le_pow_right Am Aa
    have:2 ^ (h + 1) * 1≤2 ^ (h + 1) * (q + 1):=Nat.mul_le_mul_left _ Aa
    omega
   have e2:2 ^ (5 - h)=2 * 2 ^ (5 - (h + 1)):=by rw [show 5 - h=(5 - (h + 1)) + 1 by omega,Nat.pow_succ];omega
   have e3:2 ^ (h + 1) * (q + 1)=2 ^ h * (2 * q + 2):=by rw [e,Nat.mul_assoc,Nat.mul_comm 2 (2 ^ h * (q + 1)),Nat.mul_assoc];congr 1;omega
   have e4:2 ^ h * (2 * q + 1)≤2 ^ h * (2 * q + 2):=Nat.mul_le_mul_left _ Aa
   have e6:2 ^ h * (2 * q + 1 + 1)=2 ^ h * (2 * q + 2):=rfl
   rw [SJ,Aua f i h (2 * q) Aa hi,Aua f i h (2 * q + 1) Aa hi,Dp,e2]
   generalize 2 ^ (5 - (h + 1))=c
   have e5:2 * (c * i + q)=2 * c * i + 2 * q:=by rw [Nat.mul_add,Nat.mul_assoc]
   rw [e5,Nat.add_assoc]
theorem Au4 (f:Nat→BitVec 64) (i:Nat) (hi:i < 256):prt (pcs f i)=Dp f 5 i:=by
 have:=Aua f i 5 0 Am hi
 simpa [prt] using this
def rtL (f:Nat→BitVec 64):List Dg:=(List.range 256).map fun i=>Dp f 5 i
theorem Aub (f:Nat→BitVec 64):(rtL f).length=256:=by simp [rtL]
theorem Av2 (f:Nat→BitVec 64) (j:Nat) (hj:j < 256):(rtL f).getD j Dg.zero=Dp f 5 j:=by
 simp [rtL,List.getD,hj]
theorem Aue (f:Nat→BitVec 64):∀ h q,2 ^ h * (q + 1)≤256→HS (rtL f) h q=Dp f (5 + h) q
 | 0,q,hq=>by rw [Aat,Av2 _ _ Aa]
 | h + 1, q, hq => by
   have e:2 ^ (h + 1)=2 * 2 ^ h:=Y6
   have e3:2 ^ (h + 1) * (q + 1)=2 ^ h * (2 * q + 2):=by rw [e,Nat.mul_assoc,Nat.mul_comm 2 (2 ^ h * (q + 1)),Nat.mul_assoc];congr 1;omega
   have e4:2 ^ h * (2 * q + 1)≤2 ^ h * (2 * q + 2):=Nat.mul_le_mul_left _ Aa
   have e6:2 ^ h * (2 * q + 1 + 1)=2 ^ h * (2 * q + 2):=rfl
   rw [SJ,Aue f h (2 * q) Aa,Aue f h (2 * q + 1) Aa]
   rfl
structure OkHo (M:Seat):Prop where
 p:OkHp M
 d:OkD M
 k274:Au M 274 Axx=true
theorem Au2 {M:Seat} (ok:OkHo M) (f g:Nat→BitVec 64) (pc:BitVec 64) (hl:Bool) (xt:BitVec 64) (n:Nat) (d:Int) (l:List (Nat→BitVec 64)) :
 Ag M 274 [.ptr 0 [],.ptr 4 []] [(0,EA (.sl 2 [] 0 n 3) d (.map 3) (.map 1)),(1,kmV l),(4,A3 f g pc hl xt)] 5 (Q3 (Ah (dg (Ch (Dp f 13 0) (DT g pc hl xt))) .nili) [(0,EA (.sl 2 [] 0 n 3) d (.map 3) (.map 1)),(1,kmV (oK f l 256)),(4,A3 f g pc hl xt)] 5):=by
 have hP:=fun i=>Avk ok.p (pcs f i) n d (oK f l i)
 have hR:=RC ok.p.m 8 Am (rtL f) (by rw [Aub];decide)
 rw [Aue f 8 0 Am] at hR
 have hH:=Ft ok.d f g pc hl xt
 have hJ:=Dj ok.p.m ok.d (Dp f (5 + 8) 0) g pc hl xt
 simp only [A3,AM] at hH hJ
 refine Ab ok.k274 rfl fun x hx=>?_
 refine es 2000 ?_;(simp only [Axx,Axk,EA,Zt,seval])
 have w32:IntKind.i64.wrap 32=32:=rfl
 have hP0:=hP 0
 have e00:∀ j,pcs f 0 j=f (0 + j):=fun j=>by rw [pcs,Nat.mul_zero]
 refine AW ?_
 refine es 2000 ?_
 (simp only [w32,EA,Zt,seval])
 repeat refine sd ?_
 have zz:=XK @EA.eq_1 @ptV.eq_1 @pcs.eq_1 @oK.eq_1 @oK.eq_2 Nat.mul_zero @Nat.zero_add @Bj;refine Bw [0,1,2,3] [0,1] (hP0) ?_
 (simp only [EA,I4,w32,EE,seval])
 repeat refine sd ?_
 refine An (σ:=Nat) (fun i=>1≤i∧i≤256) (fun i=>fr 44 [(0,.ptr 0 []),(1,.ptr 4 []),(4,.ptr 5 []),(5,.nili),(6,.sl 6 [] 0 i 32),(7,.int .i64 ((32 * i:Nat):Int))])
  (fun i=>[(0,EA (.sl 2 [] 0 n 3) d (.map 3) (.map 1)),(1,kmV (oK f l i)),(4,A3 f g pc hl xt),(5,dg Dg.zero),(6,.ar 32 i fun j=>dg (Dp f 5 j))]) (fun _=>7) (fun i=>256 - i) 1 ⟨by omega,by omega⟩ ?_ ?_
 ·refine Ao.fr [0,1,2,3,4,5,309] [] hx AQ Am ?_ ?_
  ·simp only [Nat.mul_one,seval,Int.cast_ofNat_Int,LY,reduceCtorEq]
  ·simp only [EA,oK,Bj,A3,Au4 f 0 Am,dg,Dg.at_zero,LY,seval]
   intro j hj
   obtain rfl:j=0:=Aa
   simp only [if_true,LY,seval]
 ·rintro i ⟨h1,hi⟩
  refine es 2000 ?_
  by_cases h256:i=256
  ·subst h256
   have d0:(((32 * 256:Nat):Int) < 8192)=False:=eq_false Aa
   (simp only [d0,EA,Zt,seval])
   refine cpK (hR) (by (try simp only [row,Aub,Fk,dg,LY,seval]) <;> first | exact q1 | (intro j hj q _;rw [Av2 f j hj])) (by simp only [row,Aub,Fk,dg,LX]) ?_
   (simp only [AH,EA,A3,seval])
   have zz:=BT @dg.eq_1 @AC.eq_1 @AC.eq_2 @AC.eq_3 @AC.eq_4 @AC.eq_5 @AC.eq_6 @AC.eq_7 @AC.eq_8 @AC.eq_9 @AC.eq_10;refine Ce (hH) ?_
   (simp only [AH,EA,A3,seval])
   have zz:=@dg.eq_1;refine Ce (hJ) ?_
   (simp only [EA,Zt,seval])
   have zz:=Ka @EA.eq_1 @Bj @dg.eq_1 @Ah.eq_1;exact Bf hx [0,1,2,3,4] ⟨rfl,rfl,rfl⟩
  ·have d0:(((32 * i:Nat):Int) < 8192)=True:=eq_true Aa
   have d1:(0≤((32 * i:Nat):Int))=True:=eq_true Aa
   have w3:IntKind.i64.wrap (((32 * i:Nat):Int) + 32)=((32 * (i + 1):Nat):Int):=AZ
   have hPi:=hP i
   (simp only [d0,d1,w3,EA,Zt,seval])
   repeat refine sd ?_
   have zz:=Ka @EA.eq_1 @ptV.eq_1 @pcs.eq_1 @Bj;refine Bw [0,1,2,3] [0,1] (hPi) ?_
   (simp only [w3,EA,I4,EE,seval])
   repeat refine sd ?_
   refine ⟨i + 1,by omega,by omega,by omega,?_⟩
   refine Ao.fr [0,1,2,3,4,5,247] [] hx AQ Am ?_ ?_
   ·simp only [LY,seval]
   ·simp only [EA,oK,Bj,A3,Au4 f i Aa,dg,LY,seval]
    intro j hj
    by_cases hji:j < i
    ·simp only [hji,if_true,LY,seval]
    ·obtain rfl:j=i:=Aa
     simp only [Nat.lt_irrefl,Nat.sub_self,CL,LY,seval]
def Wz:ByteArray:=⟨#[0,1,2,2,3,3,3,3,4,4,4,4,4,4,4,4,5,5,5,5,5,5,5,5,5,5,5,5,5,5,5,5,6,6,6,6,6,6,6,6,6,6,6,6,6,6,6,6,6,6,6,6,6,6,6,6,6,6,6,6,6,6,6,6,7,7,7,7,7,7,7,7,7,7,7,7,7,7,7,7,7,7,7,7,7,7,7,7,7,7,7,7,7,7,7,7,7,7,7,7,7,7,7,7,7,7,7,7,7,7,7,7,7,7,7,7,7,7,7,7,7,7,7,7,7,7,7,7,8,8,8,8,8,8,8,8,8,8,8,8,8,8,8,8,8,8,8,8,8,8,8,8,8,8,8,8,8,8,8,8,8,8,8,8,8,8,8,8,8,8,8,8,8,8,8,8,8,8,8,8,8,8,8,8,8,8,8,8,8,8,8,8,8,8,8,8,8,8,8,8,8,8,8,8,8,8,8,8,8,8,8,8,8,8,8,8,8,8,8,8,8,8,8,8,8,8,8,8,8,8,8,8,8,8,8,8,8,8,8,8,8,8,8,8,8,8,8,8,8,8,8,8,8,8,8,8]⟩
def Aa7:LC:=(sr [mU 6 0] (.seq (sr [mt 10 2,
  aU 11 .eql 10 0] (.cond (.t 11) (sr [mU 6 0] .ret) .skip)) (.seq (sr [mt 12 0] (.block 0 (sr [aI 14 .eql 12 4,mt 13 14] (.cond (.t 13) (sr [mt 15 1,mt 16 2,ak 17 .quo 15 16,mt 6 17] .ret) (sr [aI 19 .eql 12 6,mt 18 19] (.cond (.t 18) (sr [mt 20 1,mt 21 2,ak 22 .rem 20 21,mt 6 22] .ret) .skip)))))) (sr [mt 23 2,
  D0 24 .i64 23,aI 25 .lss 24 0,mt 26 1,
  D0 27 .i64 26,aI 28 .lss 27 0,mt 7 25,mt 8 28] (.seq (sr [mt 29 7] (.cond (.t 29) (.reg [mt 30 2,A1 31 (.un .neg (.t 30)),mt 2 31]) .skip)) (.seq (sr [mt 32 8] (.cond (.t 32) (.reg [mt 33 1,A1 34 (.un .neg (.t 33)),mt 1 34]) .skip)) (sr [mt 35 1,mt 36 2,ak 37 .rem 35 36,mt 9 37] (.seq (sr [mt 38 0,aI 39 .eql 38 5] (.cond (.t 39) (.reg [mt 40 1,mt 41 2,ak 42 .quo 40 41,mt 43 8,mt 44 7,A1 45 (.eq true false .bool (.t 43) (.t 44)),mt 9 42,mt 8 45]) .skip)) (.seq (sr [mt 46 8] (.cond (.t 46) (sr [mt 47 9,A1 48 (.un .neg (.t 47)),mt 6 48] .ret) .skip)) (sr [mt 49 9,mt 6 49] .ret))))))))))
def Aaq:LF:=⟨Aa7,3,0,50,[.tmp 6]⟩
def T6:LC:=(sr [mU 8 0] (.seq (sr [mt 13 3,
  aU 14 .eql 13 0] (.cond (.t 14) (sr [mU 8 0] .ret) .skip)) (.seq (.regd [⟨0,0,mt 15 1⟩,⟨1,0,mt 16 3⟩,⟨2,3,ak 17 .rem 15 16⟩,⟨3,0,mt 18 2⟩,⟨4,0,mt 19 3⟩,⟨5,24,ak 20 .rem 18 19⟩,⟨6,7,mt 1 17⟩,⟨7,127,mt 2 20⟩]) (sr [mt 22 1,mt 23 2,kl 24 421 [(.t 22),(.t 23)],mt 21 24,ee 25 21 0,ee 26 21 1,mt 9 25,mt 10 26] (.seq (sr [mt 27 0,aI 28 .eql 27 8] (.cond (.t 28) (.reg [mt 30 1,mt 31 2,A1 32 (.add64 (.t 30) (.t 31) (cU 0)),mt 29 32,ee 33 29 0,ee 34 29 1,mt 10 33,mt 9 34]) .skip)) (sr [mt 36 9,mt 37 10,mt 38 3,kl 39 423 [(.t 36),(.t 37),(.t 38)],mt 35 39,ee 40 35 0,ee 41 35 1,mt 11 40,mt 12 41] (sr [mt 42 12,mt 8 42] .ret)))))))
def Vg:LF:=⟨T6,4,0,43,[.tmp 8]⟩
def Af8:LC:=(sr [mU 4 0] (sr [mU 5 1] (.seq (.block 0 (.loop (.seq (sr [mt 6 1,
  aU 7 .gtr 6 0]
 (Dd 7 0)) (.seq (.block 1 (.seq (sr [mt 10 1,
  aU 11 .and 10 1,
  aU 12 .eql 11 1] (.cond (.t 12) (.reg [mt 13 5,mt 14 0,ak 15 .mul 13 14,mt 5 15]) .skip)) (.reg [mt 16 0,mt 17 0,ak 18 .mul 16 17,mt 0 18]))) (.reg [mt 8 1,
  aU 9 .shr 8 1,mt 1 9]))))) (sr [mt 19 5,mt 4 19] .ret))))
def Ahe:LF:=⟨Af8,2,0,20,[.tmp 4]⟩
def MK:LC:=(sr [mU 6 0] (.seq (sr [mt 8 0] (.block 0 (sr [aI 10 .eql 8 11,mt 9 10] (.cond (.t 9) (.seq (sr [mt 11 1,
  aU 12 .geq 11 7] (.cond (.t 12) (sr [mt 13 2,mt 6 13] .ret) .skip)) (sr [mt 14 1,
  aV 15 .mul 8 14,
  aV 16 .sub 56 15,mt 7 16] (sr [mt 17 2,mt 18 7,ak 19 .shl 17 18,
  D0 20 .i64 19,mt 21 7,ak 22 .shr 20 21,
  D0 23 .u64 22,mt 6 23] .ret))) (sr [aI 25 .eql 8 12,mt 24 25] (.cond (.t 24) (.seq (sr [mt 26 1,
  aU 27 .gtr 26 7] (.cond (.t 27) (sr [mU 6 0] .ret) .skip)) (sr [mt 28 2,mt 29 1,
  aV 30 .mul 8 29,
  aV 31 .sub 56 30,ak 32 .shr 28 31,
  aU 33 .and 32 255,mt 6 33] .ret)) (sr [aI 35 .eql 8 13,mt 34 35] (.cond (.t 34) (sr [mt 36 2,mt 37 1,ak 38 .shl 36 37,mt 6 38] .ret) (sr [aI 40 .eql 8 14,mt 39 40] (.cond (.t 39) (sr [mt 41 2,mt 42 1,ak 43 .shr 41 42,mt 6 43] .ret) .skip)))))))))) (sr [mt 44 2,
  D0 45 .i64 44,mt 46 1,ak 47 .shr 45 46,
  D0 48 .u64 47,mt 6 48] .ret)))
def NX:LF:=⟨MK,3,0,49,[.tmp 6]⟩
def Af1:LC:=(sr [mU 2 0] (.seq (sr [mt 3 0] (.cond (.t 3) (sr [mU 2 1] .ret) .skip)) (sr [mU 2 0] .ret)))
def Afh:LF:=⟨Af1,1,0,4,[.tmp 2]⟩
def Ahv:LC:=(sr [mU 4 0,
 mU 5 0] (sr [mt 14 0,
  aU 15 .and 14 4294967295,mt 6 15] (sr [mt 16 0,
  aU 17 .shr 16 32,mt 7 17] (sr [mt 18 1,
  aU 19 .and 18 4294967295,mt 8 19] (sr [mt 20 1,
  aU 21 .shr 20 32,mt 9 21] (sr [mt 22 6,mt 23 8,ak 24 .mul 22 23,mt 10 24] (sr [mt 25 7,mt 26 8,ak 27 .mul 25 26,mt 28 10,
  aU 29 .shr 28 32,ak 30 .add 27 29,mt 11 30] (sr [mt 31 11,
  aU 32 .and 31 4294967295,mt 12 32] (sr [mt 33 11,
  aU 34 .shr 33 32,mt 13 34] (sr [mt 35 12,mt 36 6,mt 37 9,ak 38 .mul 36 37,ak 39 .add 35 38,mt 12 39] (sr [mt 40 7,mt 41 9,ak 42 .mul 40 41,mt 43 13,ak 44 .add 42 43,mt 45 12,
  aU 46 .shr 45 32,ak 47 .add 44 46,mt 4 47] (sr [mt 48 0,mt 49 1,ak 50 .mul 48 49,mt 5 50] .ret))))))))))))
def Afj:LF:=⟨Ahv,2,0,51,[.tmp 4,.tmp 5]⟩
def Adc:LC:=(sr [mU 6 0,
 mU 7 0] (.seq (sr [mt 19 2,
  aU 20 .eql 19 0] (.cond (.t 20) (.reg [A1 21 .nope ,A0 .nope ]) .skip)) (.seq (sr [mt 22 2,mt 23 0,ak 24 .leq 22 23] (.cond (.t 24) (.reg [A1 25 .nope ,A0 .nope ]) .skip)) (.seq (sr [mt 26 0,
  aU 27 .eql 26 0] (.cond (.t 27) (.seq (.regd [⟨0,0,mt 28 1⟩,⟨1,0,mt 29 2⟩,⟨2,3,ak 30 .quo 28 29⟩,⟨3,0,mt 31 1⟩,⟨4,0,mt 32 2⟩,⟨5,24,ak 33 .rem 31 32⟩,⟨6,7,mt 6 30⟩,⟨7,127,mt 7 33⟩]) .ret) .skip)) (sr [mt 34 2,kl 35 463 [(.t 34)],
  D0 36 .u64 35,mt 8 36] (sr [mt 37 2,mt 38 8,ak 39 .shl 37 38,mt 2 39] (sr [mt 40 2,
  aU 41 .shr 40 32,mt 9 41] (sr [mt 42 2,
  aU 43 .and 42 4294967295,mt 10 43] (sr [mt 44 0,mt 45 8,ak 46 .shl 44 45,mt 47 1,mt 48 8,
  aV 49 .sub 64 48,ak 50 .shr 47 49,ak 51 .or 46 50,mt 11 51] (sr [mt 52 1,mt 53 8,ak 54 .shl 52 53,mt 12 54] (sr [mt 55 12,
  aU 56 .shr 55 32,mt 13 56] (sr [mt 57 12,
  aU 58 .and 57 4294967295,mt 14 58] (sr [mt 59 11,mt 60 9,ak 61 .quo 59 60,mt 15 61] (sr [mt 62 11,mt 63 15,mt 64 9,ak 65 .mul 63 64,ak 66 .sub 62 65,mt 16 66] (.seq (.block 0 (.loop (.seq (sr [mt 67 15,
  aU 68 .geq 67 4294967296,mt 69 68,mg 70 69 false 15,mg 71 69 false 10,A2 72 69 false (.ari .mul (.t 70) (.t 71)),mg 73 69 false 16,A2 74 69 false (.ari .mul (cU 4294967296) (.t 73)),mg 75 69 false 13,A2 76 69 false (.ari .add (.t 74) (.t 75)),A2 77 69 false (.ari .gtr (.t 72) (.t 76)),
  BV 78 69 77]
 (Dd 78 0)) (.block 1 (sr [mt 79 15,
  aU 80 .sub 79 1,mt 15 80] (sr [mt 81 16,mt 82 9,ak 83 .add 81 82,mt 16 83] (sr [mt 84 16,
  aU 85 .geq 84 4294967296] (.cond (.t 85) (.exit 0) .skip)))))))) (sr [mt 86 11,
  aU 87 .mul 86 4294967296,mt 88 13,ak 89 .add 87 88,mt 90 15,mt 91 2,ak 92 .mul 90 91,ak 93 .sub 89 92,mt 17 93] (sr [mt 94 17,mt 95 9,ak 96 .quo 94 95,mt 18 96] (sr [mt 97 17,mt 98 18,mt 99 9,ak 100 .mul 98 99,ak 101 .sub 97 100,mt 16 101] (.seq (.block 2 (.loop (.seq (sr [mt 102 18,
  aU 103 .geq 102 4294967296,mt 104 103,mg 105 104 false 18,mg 106 104 false 10,A2 107 104 false (.ari .mul (.t 105) (.t 106)),mg 108 104 false 16,A2 109 104 false (.ari .mul (cU 4294967296) (.t 108)),mg 110 104 false 14,A2 111 104 false (.ari .add (.t 109) (.t 110)),A2 112 104 false (.ari .gtr (.t 107) (.t 111)),
  BV 113 104 112]
 (Dd 113 2)) (.block 3 (sr [mt 114 18,
  aU 115 .sub 114 1,mt 18 115] (sr [mt 116 16,mt 117 9,ak 118 .add 116 117,mt 16 118] (sr [mt 119 16,
  aU 120 .geq 119 4294967296] (.cond (.t 120) (.exit 2) .skip)))))))) (sr [mt 121 15,
  aU 122 .mul 121 4294967296,mt 123 18,ak 124 .add 122 123,mt 125 17,
  aU 126 .mul 125 4294967296,mt 127 14,ak 128 .add 126 127,mt 129 18,mt 130 2,ak 131 .mul 129 130,ak 132 .sub 128 131,mt 133 8,ak 134 .shr 132 133,mt 6 124,mt 7 134] .ret))))))))))))))))))))
def Aa1:LF:=⟨Adc,3,0,135,[.tmp 6,.tmp 7]⟩
def Ug:LC:=(sr [mI 2 0] (.seq (sr [mt 3 0,
  aU 4 .geq 3 4294967296] (.cond (.t 4) (sr [mt 5 0,
  aU 6 .shr 5 32,mt 0 6] (.reg [mI 2 32])) .skip)) (.seq (sr [mt 7 0,
  aU 8 .geq 7 65536] (.cond (.t 8) (sr [mt 9 0,
  aU 10 .shr 9 16,mt 0 10] (.reg [mt 11 2,aI 12 .add 11 16,mt 2 12])) .skip)) (.seq (sr [mt 13 0,
  aU 14 .geq 13 256] (.cond (.t 14) (sr [mt 15 0,
  aU 16 .shr 15 8,mt 0 16] (.reg [mt 17 2,aI 18 .add 17 8,mt 2 18])) .skip)) (sr [mt 19 2,mt 20 0,
  D0 21 .u8 20,A1 22 (.sidx (.c (.str Wz)) (.t 21)),
  D0 23 .i64 22,ak 24 .add 19 23,mt 2 24] .ret)))))
def Up:LF:=⟨Ug,1,0,25,[.tmp 2]⟩
def Ah0:LC:=(sr [mI 2 0] (sr [mt 3 0,kl 4 259 [(.t 3)],
  aJ 5 .sub 64 4,mt 2 5] .ret))
def Ae2:LF:=⟨Ah0,1,0,6,[.tmp 2]⟩
variable {M:Seat}
structure OkP (M:Seat):Prop where
 k215:Au M 215 Avy=true
 k321:Au M 321 Aaq=true
 k322:Au M 322 Vg=true
 k323:Au M 323 Ahe=true
 k324:Au M 324 NX=true
 k325:Au M 325 Afh=true
 k421:Au M 421 Afj=true
 k423:Au M 423 Aa1=true
 k259:Au M 259 Up=true
 k463:Au M 463 Ae2=true
def Z2 (t:Bool):BitVec 64:=if t then 1#64 else 0#64
theorem Sk (ok:OkP M) (t:Bool):Ag M 325 [.bool t] [] 0 (Q3 (W (Z2 t)) [] 0):=by
 refine Ab ok.k325 rfl fun x hx=>?_
 cases t
 all_goals refine es 2000 ?_;(simp only [Afh,Af1,LZ,seval])
 all_goals (have zz:=@Z2.eq_1;exact Bf hx [] ⟨rfl,rfl,rfl⟩)
def Y1 (op:Nat) (a b:BitVec 64):BitVec 64 :=
 if b=0#64 then 0#64 else if op=4 then a / b else if op=6 then a % b
 else if op=5 then (if ((a.toInt < 0) ↔ (b.toInt < 0)) then (if a.toInt < 0 then -a else a) / (if b.toInt < 0 then -b else b) else -((if a.toInt < 0 then -a else a) / (if b.toInt < 0 then -b else b)))
 else if a.toInt < 0 then -((-a) % (if b.toInt < 0 then -b else b)) else a % (if b.toInt < 0 then -b else b)
theorem Mu (ok:OkP M) (op:Nat) (ho:op=4 ∨ op=5 ∨ op=6 ∨ op=7) (a b:BitVec 64):Ag M 321 [.int .i64 op,W a,W b] [] 0 (Q3 (W (Y1 op a b)) [] 0):=by
 refine Ab ok.k321 rfl fun x hx=>?_
 by_cases hb:b=0#64
 ·subst hb
  refine es 2000 ?_;(simp only [Aaq,Aa7,LZ,seval])
  have zz:=@Y1.eq_1;exact Bf hx [] ⟨rfl,rfl,rfl⟩
 ·have hn:¬ -b=0#64:=fun h=>hb (by have:=congrArg (fun x=>-x) h;simpa using this)
  have e0:(b ≠ 0)=True:=eq_true hb
  have e1:(-b ≠ 0)=True:=eq_true hn
  rcases Classical.propComplete (a.toInt < 0) with h1 | h1 <;> rcases Classical.propComplete (b.toInt < 0) with h2 | h2 <;> rcases ho with rfl | rfl | rfl | rfl
  all_goals simp only [Y1,hb,h1,h2,Lb9,seval,iff_self,iff_true,iff_false,true_iff,false_iff,not_false_eq_true]
  all_goals refine es 2000 ?_;(simp only [Aaq,Aa7,hb,h1,h2,e0,e1,Lbp,seval])
  all_goals repeat refine sd ?_
  all_goals exact Ar.mkZ hx [] ⟨rfl,rfl,rfl⟩
def pwr:Nat→BitVec 64→BitVec 64→BitVec 64→BitVec 64
 | 0,_,_,p=>p
 | k + 1,a,b,p=>if b=0#64 then p else pwr k (a * a) (b >>> 1) (if b &&& 1#64=1#64 then p * a else p)
theorem Pc (ok:OkP M) (a b:BitVec 64):Ag M 323 [W a,W b] [] 0 (Q3 (W (pwr 64 a b 1#64)) [] 0):=by
 refine Ab ok.k323 rfl fun x hx=>?_
 generalize hF:pwr 64 a b 1#64=F
 refine es 2000 ?_;(simp only [Ahe,Af8,LZ,seval])
 refine An (σ:=Nat × BitVec 64 × BitVec 64 × BitVec 64) (fun s=>pwr s.1 s.2.1 s.2.2.1 s.2.2.2=F∧s.2.2.1.toNat < 2 ^ s.1) (fun s=>fr 20 [(0,W s.2.1),(1,W s.2.2.1),(5,W s.2.2.2)]) (fun _=>[]) (fun _=>0) (fun s=>s.1) (64,a,b,1#64) ⟨hF,b.isLt⟩ ?_ ?_
 ·refine Ao.fr [] [] hx AQ Am ?_ ?_
  ·simp only [LY,seval]
  ·trivial
 ·rintro ⟨k,a,b,p⟩ ⟨h1,h2⟩
  dsimp only at h1 h2
  refine es 2000 ?_
  by_cases h0:b=0#64
  ·subst h0
   have hp:p=F:=by
    cases k with
    | zero=>exact h1
    | succ k=>rw [pwr,if_pos rfl] at h1;exact h1
   subst hp
   (simp only [LZ,seval])
   exact Ar.mkZ hx [] ⟨rfl,rfl,rfl⟩
  ·have hg:(0#64 < b)=True:=eq_true (by
    rw [BitVec.lt_def]
    have:b.toNat ≠ 0:=fun h=>h0 (BitVec.eq_of_toNat_eq Ke)
    show 0 < b.toNat;omega)
   cases k with
   | zero=>exact absurd (BitVec.eq_of_toNat_eq (by have:b.toNat < 1:=h2;show b.toNat=0;omega)) h0
   | succ k =>
     rw [pwr,if_neg h0] at h1
     have hs:(b >>> 1).toNat < 2 ^ k:=by
      rw [BitVec.toNat_ushiftRight,Nat.shiftRight_eq_div_pow]
      rw [Nat.pow_succ] at h2;omega
     by_cases h3:b &&& 1#64=1#64
     ·rw [if_pos h3] at h1
      (simp only [hg,h3,LZ,seval])
      refine ⟨(k,a * a,b >>> 1,p * a),h1,hs,by omega,?_⟩
      refine Ao.fr [] [] hx AQ Am ?_ ?_
      ·simp only [LY,seval]
      ·trivial
     ·rw [if_neg h3] at h1
      (simp only [hg,h3,LZ,seval])
      refine ⟨(k,a * a,b >>> 1,p),h1,hs,by omega,?_⟩
      refine Ao.fr [] [] hx AQ Am ?_ ?_
      ·simp only [LY,seval]
      ·trivial
variable {M:Seat}
def Zy (a b:BitVec 64):BitVec 64 :=
 (a >>> 32) * (b >>> 32) + (((a >>> 32) * (b &&& 4294967295#64) + ((a &&& 4294967295#64) * (b &&& 4294967295#64)) >>> 32) >>> 32)
  + ((((a >>> 32) * (b &&& 4294967295#64) + ((a &&& 4294967295#64) * (b &&& 4294967295#64)) >>> 32) &&& 4294967295#64) + (a &&& 4294967295#64) * (b >>> 32)) >>> 32
theorem Jj (ok:OkP M) (a b:BitVec 64):Ag M 421 [W a,W b] [] 0 (Q3 (Ah (W (Zy a b)) (W (a * b))) [] 0):=by
 refine Ab ok.k421 rfl fun x hx=>?_
 have e32:(32#64).toNat=32:=rfl
 refine es 2000 ?_;(simp only [Afj,Ahv,e32,LZ,seval])
 exact Ar.mkZ hx [] ⟨rfl,rfl,rfl⟩
theorem RR (a:BitVec 64):(a &&& 4294967295#64).toNat=a.toNat % 4294967296:=by
 have e:(4294967295#64).toNat=2 ^ 32 - 1:=Am
 rw [BitVec.toNat_and,e,Nat.and_two_pow_sub_one_eq_mod]
theorem F6 (a:BitVec 64):(a >>> 32).toNat=a.toNat / 4294967296:=by
 rw [BitVec.toNat_ushiftRight,Nat.shiftRight_eq_div_pow]
theorem MW {p q:Nat} (hp:p < 4294967296) (hq:q < 4294967296):p * q≤18446744065119617025:=by
 have:=Nat.mul_le_mul (show p≤4294967295 by omega) (show q≤4294967295 by omega)
 omega
theorem Ym {p q:BitVec 64} (hp:p.toNat < 4294967296) (hq:q.toNat < 4294967296):(p * q).toNat=p.toNat * q.toNat:=by
 have:=MW hp hq
 rw [BitVec.toNat_mul,Nat.mod_eq_of_lt Aa]
theorem Tf {p q:BitVec 64} (h:p.toNat + q.toNat < 18446744073709551616):(p + q).toNat=p.toNat + q.toNat:=by
 rw [BitVec.toNat_add,Nat.mod_eq_of_lt Aa]
theorem Qx (a b:BitVec 64):(Zy a b).toNat=a.toNat * b.toNat / 18446744073709551616:=by
 have ha:=a.isLt
 have hb:=b.isLt
 have l1:(a &&& 4294967295#64).toNat < 4294967296:=by rw [RR];omega
 have l2:(b &&& 4294967295#64).toNat < 4294967296:=by rw [RR];omega
 have l3:(a >>> 32).toNat < 4294967296:=by rw [F6];omega
 have l4:(b >>> 32).toNat < 4294967296:=by rw [F6];omega
 have m1:=Ym l1 l2
 have m2:=Ym l3 l2
 have m3:=Ym l1 l4
 have m4:=Ym l3 l4
 have b1:=MW l1 l2
 have b2:=MW l3 l2
 have b3:=MW l1 l4
 have b4:=MW l3 l4
 have ea:a.toNat=(a >>> 32).toNat * 4294967296 + (a &&& 4294967295#64).toNat:=by rw [RR,F6];omega
 have eb:b.toNat=(b >>> 32).toNat * 4294967296 + (b &&& 4294967295#64).toNat:=by rw [RR,F6];omega
 have ep:a.toNat * b.toNat=(a >>> 32).toNat * (b >>> 32).toNat * 18446744073709551616 + ((a >>> 32).toNat * (b &&& 4294967295#64).toNat + (a &&& 4294967295#64).toNat * (b >>> 32).toNat) * 4294967296 + (a &&& 4294967295#64).toNat * (b &&& 4294967295#64).toNat:=by
  rw [ea,eb]
  generalize (a >>> 32).toNat=p
  generalize (b >>> 32).toNat=q
  generalize (a &&& 4294967295#64).toNat=r
  generalize (b &&& 4294967295#64).toNat=s
  rw [Nat.add_mul,Nat.mul_add,Nat.mul_add,Nat.mul_mul_mul_comm,Nat.mul_right_comm p _ s,← Nat.mul_assoc r q,Nat.add_mul]
  omega
 rw [ep]
 unfold Zy
 generalize (a &&& 4294967295#64)=x0 at *
 generalize (b &&& 4294967295#64)=y0 at *
 generalize (a >>> 32)=x1 at *
 generalize (b >>> 32)=y1 at *
 have t1:(x1 * y0 + (x0 * y0) >>> 32).toNat=x1.toNat * y0.toNat + x0.toNat * y0.toNat / 4294967296:=by
  rw [Tf (by rw [F6,m1,m2];omega),F6,m1,m2]
 have t2:(((x1 * y0 + (x0 * y0) >>> 32) &&& 4294967295#64) + x0 * y1).toNat=(x1.toNat * y0.toNat + x0.toNat * y0.toNat / 4294967296) % 4294967296 + x0.toNat * y1.toNat:=by
  rw [Tf (by rw [RR,t1,m3];omega),RR,t1,m3]
 have t3:(x1 * y1 + (x1 * y0 + (x0 * y0) >>> 32) >>> 32).toNat=x1.toNat * y1.toNat + (x1.toNat * y0.toNat + x0.toNat * y0.toNat / 4294967296) / 4294967296:=by
  rw [Tf (by rw [F6,t1,m4];omega),F6,t1,m4]
 rw [Tf (by rw [F6,t2,t3];omega),F6,t2,t3]
 omega
def GO (i:Nat):Nat:=((Wz[i]?).getD 0).toNat
theorem En:∀ i,i < 256→GO i≤8∧(i ≠ 0→1≤GO i∧2 ^ (GO i - 1)≤i∧i < 2 ^ GO i):=by
 have h:(List.range 256).all (fun i=>decide (GO i≤8) && (i == 0 || (decide (1≤GO i) && decide (2 ^ (GO i - 1)≤i) && decide (i < 2 ^ GO i))))=true:=by kernel_rfl
 intro i hi
 have:=List.all_eq_true.1 h i (List.mem_range.2 hi)
 simp only [Bool.and_eq_true,Bool.or_eq_true,beq_iff_eq,decide_eq_true_eq] at this
 exact ⟨this.1,fun h0=>by rcases this.2 with h | h;exact absurd h h0;exact ⟨h.1.1,h.1.2,h.2⟩⟩
def MJ (x:BitVec 64):Nat × BitVec 64:=if 4294967296#64≤x then (32,x >>> 32) else (0,x)
def NJ (s:Nat × BitVec 64):Nat × BitVec 64:=if 65536#64≤s.2 then (s.1 + 16,s.2 >>> 16) else s
def Kx (s:Nat × BitVec 64):Nat × BitVec 64:=if 256#64≤s.2 then (s.1 + 8,s.2 >>> 8) else s
def Cu (x:BitVec 64):Nat:=(Kx (NJ (MJ x))).1 + GO (Kx (NJ (MJ x))).2.toNat
theorem S8 {n t i x:Nat} (hi:x / 2 ^ n=i) (h1:1≤t) (h2:2 ^ (t - 1)≤i) (h3:i < 2 ^ t):2 ^ (n + t - 1)≤x∧x < 2 ^ (n + t):=by
 have hp:0 < 2 ^ n:=Nat.two_pow_pos n
 have e1:2 ^ (n + t - 1)=2 ^ (t - 1) * 2 ^ n:=Ul
 have e2:2 ^ (n + t)=2 ^ t * 2 ^ n:=Ul
 rw [e1,e2]
 subst hi
 exact ⟨Nat.le_trans (Nat.mul_le_mul_right _ h2) (Nat.div_mul_le_self x _),(Nat.div_lt_iff_lt_mul hp).1 h3⟩
theorem Ni (x:BitVec 64):∃ n,(Kx (NJ (MJ x))).1=n∧n≤56∧(Kx (NJ (MJ x))).2.toNat < 256∧x.toNat / 2 ^ n=(Kx (NJ (MJ x))).2.toNat∧(x ≠ 0#64→(Kx (NJ (MJ x))).2.toNat ≠ 0):=by
 have hx:=x.isLt
 have hz:x ≠ 0#64→x.toNat ≠ 0:=fun h h'=>h (BitVec.eq_of_toNat_eq (by simpa using h'))
 have e1:(4294967296#64).toNat=4294967296:=rfl
 have e2:(65536#64).toNat=65536:=rfl
 have e3:(256#64).toNat=256:=rfl
 by_cases h1:4294967296#64≤x
 all_goals simp only [MJ,h1,CL,NJ]
 ·have g1:=h1
  rw [BitVec.le_def,e1] at g1
  by_cases h2:65536#64≤x >>> 32
  all_goals simp only [h2,CL,Kx]
  ·have g2:=h2
   rw [BitVec.le_def,e2,BitVec.toNat_ushiftRight,Nat.shiftRight_eq_div_pow] at g2
   by_cases h3:256#64≤x >>> 32 >>> 16
   all_goals simp only [h3,CL]
   all_goals (have g3:=h3;rw [BitVec.le_def,e3,BitVec.toNat_ushiftRight,Nat.shiftRight_eq_div_pow,BitVec.toNat_ushiftRight,Nat.shiftRight_eq_div_pow] at g3)
   all_goals try simp only [Lb4]
   ·exact ⟨56,rfl,by omega,by omega,by omega,by omega⟩
   ·exact ⟨48,rfl,by omega,by omega,by omega,by omega⟩
  ·have g2:=h2
   rw [BitVec.le_def,e2,BitVec.toNat_ushiftRight,Nat.shiftRight_eq_div_pow] at g2
   by_cases h3:256#64≤x >>> 32
   all_goals simp only [h3,CL]
   all_goals (have g3:=h3;rw [BitVec.le_def,e3,BitVec.toNat_ushiftRight,Nat.shiftRight_eq_div_pow] at g3)
   all_goals try simp only [Lb4]
   ·exact ⟨40,rfl,by omega,by omega,by omega,by omega⟩
   ·exact ⟨32,rfl,by omega,by omega,by omega,by omega⟩
 ·have g1:=h1
  rw [BitVec.le_def,e1] at g1
  by_cases h2:65536#64≤x
  all_goals simp only [h2,CL,Kx]
  ·have g2:=h2
   rw [BitVec.le_def,e2] at g2
   by_cases h3:256#64≤x >>> 16
   all_goals simp only [h3,CL]
   all_goals (have g3:=h3;rw [BitVec.le_def,e3,BitVec.toNat_ushiftRight,Nat.shiftRight_eq_div_pow] at g3)
   all_goals try simp only [Lb4]
   ·exact ⟨24,rfl,by omega,by omega,by omega,by omega⟩
   ·exact ⟨16,rfl,by omega,by omega,by omega,by omega⟩
  ·have g2:=h2
   rw [BitVec.le_def,e2] at g2
   by_cases h3:256#64≤x
   all_goals simp only [h3,CL]
   all_goals (have g3:=h3;rw [BitVec.le_def,e3] at g3)
   all_goals try simp only [Lb4]
   ·exact ⟨8,rfl,by omega,by omega,by omega,by omega⟩
   ·exact ⟨0,rfl,by omega,by omega,by omega,by omega⟩
theorem Jx (x:BitVec 64):Cu x≤64∧(x ≠ 0#64→1≤Cu x∧2 ^ (Cu x - 1)≤x.toNat∧x.toNat < 2 ^ Cu x):=by
 obtain ⟨n,h1,h2,h3,h4,h5⟩:=Ni x
 obtain ⟨q1,q2⟩:=En _ h3
 unfold Cu
 rw [h1]
 refine ⟨by omega,fun h0=>?_⟩
 obtain ⟨k1,k2,k3⟩:=q2 (h5 h0)
 obtain ⟨j1,j2⟩:=S8 h4 k1 k2 k3
 exact ⟨by omega,j1,j2⟩
theorem HV (b:BitVec 8) (H:Hp):Vs (.str Wz) (B b) H=⟨True,.int .u8 (GO b.toNat),H⟩:=by
 have h:=b.isLt
 have hs:Wz.size=256:=rfl
 show (⟨_,_,_⟩:Out)=_
 congr 1
 exact eq_true ⟨by omega,by rw [hs];omega⟩
theorem H4 {n:Nat} (h:n < 9223372036854775808):IntKind.i64.wrap (n:Int)=n:=AY Aa
theorem GN (k:Int) (y:Nat) (hy:y < 256) (h0:0≤k) (h1:k≤56):IntKind.i64.wrap (k + (GO y:Int))=k + (GO y:Int):=by
 have:=(En y hy).1
 rw [AY Aa]
theorem FO (ok:OkP M) (a:BitVec 64):Ag M 259 [W a] [] 0 (Q3 (.int .i64 (Cu a)) [] 0):=by
 refine Ab ok.k259 rfl fun x hx=>?_
 have e32:(32#64).toNat=32:=rfl
 have e16:(16#64).toNat=16:=rfl
 have e8:(8#64).toNat=8:=rfl
 have w0:IntKind.i64.wrap 0=0:=rfl
 have w1:IntKind.i64.wrap 48=48:=rfl
 have w2:IntKind.i64.wrap 56=56:=rfl
 have w3:IntKind.i64.wrap 40=40:=rfl
 have w4:IntKind.i64.wrap 16=16:=rfl
 have w5:IntKind.i64.wrap 24=24:=rfl
 have w6:IntKind.i64.wrap 8=8:=rfl
 have w7:IntKind.i64.wrap 32=32:=rfl
 have hlen:=Ni a
 unfold Cu
 have ht:∀ y:BitVec 64,y.toNat < 256→((BitVec.setWidth 8 y).toNat=y.toNat∧GO y.toNat≤8):=fun y hy=>⟨by rw [BitVec.toNat_setWidth];omega,(En _ hy).1⟩
 by_cases h1:4294967296#64≤a
 all_goals simp only [MJ,h1,CL,NJ] at hlen ⊢
 ·by_cases h2:65536#64≤a >>> 32
  all_goals simp only [h2,CL,Kx] at hlen ⊢
  ·by_cases h3:256#64≤a >>> 32 >>> 16
   all_goals simp only [h3,CL] at hlen ⊢
   all_goals obtain ⟨n,hn,hn2,hy,-⟩:=hlen
   all_goals obtain ⟨hq,hk⟩:=ht _ hy
   all_goals (refine es 2000 ?_;(simp only [Up,Ug,e32,e16,e8,w0,w1,w2,w3,w4,w5,w6,w7,h1,h2,h3,HV,hq,H4 (Nat.lt_of_le_of_lt hk (by decide:8 < 9223372036854775808)),GN 56 _ hy Aa Aa,GN 48 _ hy Aa Aa,GN 40 _ hy Aa Aa,GN 32 _ hy Aa Aa,GN 24 _ hy Aa Aa,GN 16 _ hy Aa Aa,GN 8 _ hy Aa Aa,Int.zero_add,H4 (Nat.lt_of_le_of_lt (En _ hy).1 (by decide:8 < 9223372036854775808)),LZ,seval]);exact Ar.mkZ hx [] ⟨rfl,rfl,rfl⟩)
  ·by_cases h3:256#64≤a >>> 32
   all_goals simp only [h3,CL] at hlen ⊢
   all_goals obtain ⟨n,hn,hn2,hy,-⟩:=hlen
   all_goals obtain ⟨hq,hk⟩:=ht _ hy
   all_goals (refine es 2000 ?_;(simp only [Up,Ug,e32,e16,e8,w0,w1,w2,w3,w4,w5,w6,w7,h1,h2,h3,HV,hq,H4 (Nat.lt_of_le_of_lt hk (by decide:8 < 9223372036854775808)),GN 56 _ hy Aa Aa,GN 48 _ hy Aa Aa,GN 40 _ hy Aa Aa,GN 32 _ hy Aa Aa,GN 24 _ hy Aa Aa,GN 16 _ hy Aa Aa,GN 8 _ hy Aa Aa,Int.zero_add,H4 (Nat.lt_of_le_of_lt (En _ hy).1 (by decide:8 < 9223372036854775808)),LZ,seval]);exact Ar.mkZ hx [] ⟨rfl,rfl,rfl⟩)
 ·by_cases h2:65536#64≤a
  all_goals simp only [h2,CL,Kx] at hlen ⊢
  ·by_cases h3:256#64≤a >>> 16
   all_goals simp only [h3,CL] at hlen ⊢
   all_goals obtain ⟨n,hn,hn2,hy,-⟩:=hlen
   all_goals obtain ⟨hq,hk⟩:=ht _ hy
   all_goals (refine es 2000 ?_;(simp only [Up,Ug,e32,e16,e8,w0,w1,w2,w3,w4,w5,w6,w7,h1,h2,h3,HV,hq,H4 (Nat.lt_of_le_of_lt hk (by decide:8 < 9223372036854775808)),GN 56 _ hy Aa Aa,GN 48 _ hy Aa Aa,GN 40 _ hy Aa Aa,GN 32 _ hy Aa Aa,GN 24 _ hy Aa Aa,GN 16 _ hy Aa Aa,GN 8 _ hy Aa Aa,Int.zero_add,H4 (Nat.lt_of_le_of_lt (En _ hy).1 (by decide:8 < 9223372036854775808)),LZ,seval]);exact Ar.mkZ hx [] ⟨rfl,rfl,rfl⟩)
  ·by_cases h3:256#64≤a
   all_goals simp only [h3,CL] at hlen ⊢
   all_goals obtain ⟨n,hn,hn2,hy,-⟩:=hlen
   all_goals obtain ⟨hq,hk⟩:=ht _ hy
   all_goals (refine es 2000 ?_;(simp only [Up,Ug,e32,e16,e8,w0,w1,w2,w3,w4,w5,w6,w7,h1,h2,h3,HV,hq,H4 (Nat.lt_of_le_of_lt hk (by decide:8 < 9223372036854775808)),GN 56 _ hy Aa Aa,GN 48 _ hy Aa Aa,GN 40 _ hy Aa Aa,GN 32 _ hy Aa Aa,GN 24 _ hy Aa Aa,GN 16 _ hy Aa Aa,GN 8 _ hy Aa Aa,Int.zero_add,H4 (Nat.lt_of_le_of_lt (En _ hy).1 (by decide:8 < 9223372036854775808)),LZ,seval]);exact Ar.mkZ hx [] ⟨rfl,rfl,rfl⟩)
theorem Nr (ok:OkP M) (a:BitVec 64):Ag M 463 [W a] [] 0 (Q3 (.int .i64 ((64 - Cu a:Nat):Int)) [] 0):=by
 refine Ab ok.k463 rfl fun x hx=>?_
 have h:=(Jx a).1
 have w:IntKind.i64.wrap (64 - (Cu a:Int))=((64 - Cu a:Nat):Int):=AZ
 refine es 2000 ?_;(simp only [Ae2,Ah0,LZ,seval])
 refine Ak (FO ok a) ?_
 (simp only [w,LZ,seval])
 exact Ar.mkZ hx [] ⟨rfl,rfl,rfl⟩
end Mv
