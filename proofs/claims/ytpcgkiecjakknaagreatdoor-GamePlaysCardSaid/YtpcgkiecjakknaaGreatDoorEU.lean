/- A part. -/
import Derived.Test.YtpcgkiecjakknaaGreatDoorER
set_option linter.all false
set_option maxRecDepth 20000
set_option maxHeartbeats 4000000
namespace Mv
open Go
def Arx:LC:=(sr [A1 0 (.mv (.c .nils))] (sr [A1 3 (.mksl 32 32 (.ar 32 (.int .u8)) (cI 1) (cI 1)),mt 1 3] (.seq (sr [mI 2 0] (.block 0 (.loop (.seq (sr [mt 4 2,aI 5 .lss 4 16]
 (Dd 5 0)) (.seq (.block 1 (.regd [⟨1,0,mt 9 1⟩,⟨2,0,mt 10 2⟩,⟨3,3,ia 11 32 9 10⟩,⟨4,7,la 12 32 11⟩,⟨5,0,mt 13 1⟩,⟨6,0,mt 14 2⟩,⟨7,48,ia 15 32 13 14⟩,⟨8,112,la 16 32 15⟩,⟨9,255,kl 17 206 [(.t 12),(.t 16)]⟩,⟨0,0,mt 8 1⟩,⟨10,511,A1 18 (.bsl 32 1 (.ar 32 (.int .u8)) [(.i 32 0,32,(.t 17))])⟩,⟨11,2047,aP 19 32 32 8 18⟩,⟨12,4095,mt 1 19⟩])) (.reg [mt 6 2,aI 7 .add 6 1,mt 2 7])))))) (sr [mt 20 1,mt 0 20] .ret))))
def Asw:LF:=⟨Arx,0,0,21,[.tmp 0]⟩
def Asr:LC:=(sr [bX 2 0,
 bX 3 1,
 aB 4 32] (sr [A1 6 (.bsl 1 0 (.int .u8) []),A1 7 (.slarr 32 1 (.t 2) none none),
  aP 8 1 1 6 7,mt 5 8] (sr [mt 9 5,A1 10 (.slarr 32 1 (.t 3) none none),
  aP 11 1 1 9 10,kl 12 311 [(.t 11)],sb 32 4 12] .ret)))
def Asa:LF:=⟨Asr,2,0,13,[.cell 4 true 32]⟩
def Asi:LC:=(sr [aB 2 32] (sr [kl 11 413 [],kl 12 414 [],mt 3 11,mt 4 12] (sr [A1 13 (.bsl 1 0 (.int .u8) []),mt 14 0,
  aP 15 1 1 13 14,mt 5 15] (sr [mt 16 5,A1 17 (.bsl 1 1 (.int .u8) [(.i 1 0,1,(.c (.int .u8 1)))]),
  aP 18 1 1 16 17,mt 5 18] (.seq (.block 0 (.loop (.seq (sr [mt 19 5,
  lN 20 0 19,aI 21 .rem 20 136,aI 22 .neq 21 0]
 (Dd 22 0)) (.block 1 (.reg [mt 23 5,A1 24 (.bsl 1 1 (.int .u8) [(.i 1 0,1,(.c (.int .u8 0)))]),
  aP 25 1 1 23 24,mt 5 25]))))) (sr [mt 26 5,mt 27 5,
  lN 28 0 27,aI 29 .sub 28 1,ia 30 1 26 29,lb 31 1 30,A1 32 (.ari .xor (.t 31) (.c (.int .u8 128))),ia 33 1 26 29,sb 1 33 32] (sr [A1 6 (.alloc (.ar 25 (.int .u64)))] (.seq (sr [mI 7 0] (.block 2 (.loop (.seq (sr [mt 34 7,mt 35 5,
  lN 36 0 35,ak 37 .lss 34 36]
 (Dd 37 2)) (.seq (.block 3 (.seq (sr [mI 8 0] (.block 4 (.loop (.seq (sr [mt 40 8,aI 41 .lss 40 136]
 (Dd 41 4)) (.seq (.block 5 (.regd [⟨0,0,mt 44 8⟩,⟨1,1,aI 45 .quo 44 8⟩,⟨2,3,ib 46 25 1 6 45⟩,⟨3,7,lb 47 1 46⟩,⟨4,0,mt 48 5⟩,⟨5,0,mt 49 7⟩,⟨6,0,mt 50 8⟩,⟨7,96,ak 51 .add 49 50⟩,⟨8,240,ia 52 1 48 51⟩,⟨9,496,lb 53 1 52⟩,⟨10,1008,D0 54 .u64 53⟩,⟨11,0,mt 55 8⟩,⟨12,2048,aI 56 .rem 55 8⟩,⟨13,6144,aJ 57 .mul 8 56⟩,⟨14,14336,D0 58 .u64 57⟩,⟨15,32752,ak 59 .shl 54 58⟩,⟨16,65535,ak 60 .xor 47 59⟩,⟨17,131071,ib 61 25 1 6 45⟩,⟨18,262143,sb 1 61 60⟩])) (.reg [mt 42 8,aI 43 .add 42 1,mt 8 43])))))) (.reg [la 62 25 6,mt 63 3,mt 64 4,kl 65 415 [(.t 62),(.t 63),(.t 64)],sb 25 6 65]))) (.reg [mt 38 7,aI 39 .add 38 136,mt 7 39])))))) (sr [aB 9 32] (.seq (sr [mI 10 0] (.block 6 (.loop (.seq (sr [mt 66 10,aI 67 .lss 66 32]
 (Dd 67 6)) (.seq (.block 7 (.reg [mt 70 10,mt 71 10,aI 72 .quo 71 8,ib 73 25 1 6 72,lb 74 1 73,mt 75 10,aI 76 .rem 75 8,
  aJ 77 .mul 8 76,
  D0 78 .u64 77,ak 79 .shr 74 78,
  D0 80 .u8 79,ib 81 32 1 9 70,sb 1 81 80])) (.reg [mt 68 10,aI 69 .add 68 1,mt 10 69])))))) (sr [la 82 32 9,sb 32 2 82] .ret)))))))))))
def Ari:LF:=⟨Asi,1,0,83,[.cell 2 true 32]⟩
def Ar7:LC:=(sr [A1 0 (.mv (.c .nils))] (sr [A1 1 (.mv (.c .nils))] (sr [mI 2 1] (.seq (sr [mI 3 0] (.block 0 (.loop (.seq (sr [mt 6 3,aI 7 .lss 6 24]
 (Dd 7 0)) (.seq (.block 1 (sr [mU 4 0] (.seq (sr [mI 5 0] (.block 2 (.loop (.seq (sr [mt 10 5,aI 11 .lss 10 7]
 (Dd 11 2)) (.seq (.block 3 (.seq (sr [mt 14 2,aI 15 .rem 14 2,aI 16 .eql 15 1] (.cond (.t 16) (.reg [mt 17 4,mt 18 5,
  D0 19 .u64 18,
  aV 20 .shl 1 19,
  aU 21 .sub 20 1,
  aV 22 .shl 1 21,ak 23 .or 17 22,mt 4 23]) .skip)) (sr [mt 24 2,aI 25 .mul 24 2,mt 2 25] (sr [mt 26 2,aI 27 .gtr 26 255] (.cond (.t 27) (.reg [mt 28 2,aI 29 .xor 28 369,mt 2 29]) .skip))))) (.reg [mt 12 5,aI 13 .add 12 1,mt 5 13])))))) (.reg [mt 30 1,mt 31 4,A1 32 (.bsl 1 1 (.int .u64) [(.i 1 0,1,(.t 31))]),
  aP 33 1 8 30 32,mt 1 33])))) (.reg [mt 8 3,aI 9 .add 8 1,mt 3 9])))))) (sr [mt 34 1,mt 0 34] .ret)))))
def Arw:LF:=⟨Ar7,0,0,35,[.tmp 0]⟩
def Asp:LC:=(sr [A1 0 (.mv (.c .nils))] (sr [A1 6 (.mksl 1 8 (.int .i64) (cI 25) (cI 25)),mt 1 6] (sr [mI 2 1,
  mI 3 0] (.seq (sr [mI 4 0] (.block 0 (.loop (.seq (sr [mt 7 4,aI 8 .lss 7 24]
 (Dd 8 0)) (.seq (.block 1 (sr [mt 11 1,mt 12 2,mt 13 3,
  aJ 14 .mul 5 13,ak 15 .add 12 14,mt 16 4,aI 17 .add 16 1,mt 18 4,aI 19 .add 18 2,ak 20 .mul 17 19,aI 21 .quo 20 2,aI 22 .rem 21 64,ia 23 1 11 15,sb 1 23 22] (sr [mt 24 2,
  aJ 25 .mul 2 24,mt 26 3,
  aJ 27 .mul 3 26,ak 28 .add 25 27,aI 29 .rem 28 5,mt 5 29] (sr [mt 30 3,mt 2 30] (.reg [mt 31 5,mt 3 31]))))) (.reg [mt 9 4,aI 10 .add 9 1,mt 4 10])))))) (sr [mt 32 1,mt 0 32] .ret)))))
def Arj:LF:=⟨Asp,0,0,33,[.tmp 0]⟩
def Ars:LC:=(sr [bX 3 0,A1 6 (.alloc (.ar 25 (.int .u64)))] (.seq (sr [mI 7 0] (.block 0 (.loop (.seq (sr [mt 19 7,aI 20 .lss 19 24]
 (Dd 20 0)) (.seq (.block 1 (sr [A1 8 (.alloc (.ar 25 (.int .u64))),A1 9 (.alloc (.ar 25 (.int .u64)))] (.seq (sr [mI 10 0] (.block 2 (.loop (.seq (sr [mt 23 10,aI 24 .lss 23 5]
 (Dd 24 2)) (.seq (.block 3 (sr [mU 11 0,
  mU 12 0] (.seq (sr [mI 13 0] (.block 4 (.loop (.seq (sr [mt 27 13,aI 28 .lss 27 25]
 (Dd 28 4)) (.seq (.block 5 (sr [mt 31 11,mt 32 10,aI 33 .add 32 4,aI 34 .rem 33 5,mt 35 13,ak 36 .add 34 35,ib 37 25 1 3 36,lb 38 1 37,ak 39 .xor 31 38,mt 11 39] (.reg [mt 40 12,mt 41 10,aI 42 .add 41 1,aI 43 .rem 42 5,mt 44 13,ak 45 .add 43 44,ib 46 25 1 3 45,lb 47 1 46,ak 48 .xor 40 47,mt 12 48]))) (.reg [mt 29 13,aI 30 .add 29 5,mt 13 30])))))) (sr [mI 14 0] (.block 6 (.loop (.seq (sr [mt 49 14,aI 50 .lss 49 25]
 (Dd 50 6)) (.seq (.block 7 (.regd [⟨10,0,mt 63 12⟩,⟨11,1,kl 64 461 [(.t 63),(cI 1)]⟩,⟨0,0,mt 53 10⟩,⟨1,0,mt 54 14⟩,⟨2,12,ak 55 .add 53 54⟩,⟨3,0,mt 56 10⟩,⟨4,0,mt 57 14⟩,⟨5,96,ak 58 .add 56 57⟩,⟨6,224,ib 59 25 1 3 58⟩,⟨7,480,lb 60 1 59⟩,⟨8,0,mt 61 11⟩,⟨9,2016,ak 62 .xor 60 61⟩,⟨12,4067,ak 65 .xor 62 64⟩,⟨13,8191,ib 66 25 1 8 55⟩,⟨14,16383,sb 1 66 65⟩])) (.reg [mt 51 14,aI 52 .add 51 5,mt 14 52]))))))))) (.reg [mt 25 10,aI 26 .add 25 1,mt 10 26])))))) (.seq (sr [mI 15 0] (.block 8 (.loop (.seq (sr [mt 67 15,aI 68 .lss 67 5]
 (Dd 68 8)) (.seq (.block 9 (sr [mI 16 0] (.block 10 (.loop (.seq (sr [mt 71 16,aI 72 .lss 71 5]
 (Dd 72 10)) (.seq (.block 11 (.regd [⟨9,0,mt 84 15⟩,⟨10,0,mt 85 16⟩,⟨11,2,aJ 86 .mul 5 85⟩,⟨12,7,ak 87 .add 84 86⟩,⟨13,15,ib 88 25 1 8 87⟩,⟨14,31,lb 89 1 88⟩,⟨15,0,mt 90 2⟩,⟨16,0,mt 91 15⟩,⟨17,0,mt 92 16⟩,⟨18,256,aJ 93 .mul 5 92⟩,⟨19,896,ak 94 .add 91 93⟩,⟨20,1984,ia 95 1 90 94⟩,⟨21,4032,lb 96 1 95⟩,⟨22,8191,kl 97 461 [(.t 89),(.t 96)]⟩,⟨0,0,mt 75 16⟩,⟨1,0,mt 76 15⟩,⟨2,32768,aJ 77 .mul 2 76⟩,⟨3,0,mt 78 16⟩,⟨4,131072,aJ 79 .mul 3 78⟩,⟨5,491520,ak 80 .add 77 79⟩,⟨6,1015808,aI 81 .rem 80 5⟩,⟨7,2064384,aJ 82 .mul 5 81⟩,⟨8,4177920,ak 83 .add 75 82⟩,⟨23,8388607,ib 98 25 1 9 83⟩,⟨24,16777215,sb 1 98 97⟩])) (.reg [mt 73 16,aI 74 .add 73 1,mt 16 74]))))))) (.reg [mt 69 15,aI 70 .add 69 1,mt 15 70])))))) (.seq (sr [mI 17 0] (.block 12 (.loop (.seq (sr [mt 99 17,aI 100 .lss 99 5]
 (Dd 100 12)) (.seq (.block 13 (sr [mI 18 0] (.block 14 (.loop (.seq (sr [mt 103 18,aI 104 .lss 103 5]
 (Dd 104 14)) (.seq (.block 15 (.regd [⟨0,0,mt 107 18⟩,⟨1,0,mt 108 17⟩,⟨2,2,aJ 109 .mul 5 108⟩,⟨3,7,ak 110 .add 107 109⟩,⟨4,0,mt 111 18⟩,⟨5,0,mt 112 17⟩,⟨6,32,aJ 113 .mul 5 112⟩,⟨7,112,ak 114 .add 111 113⟩,⟨8,240,ib 115 25 1 9 114⟩,⟨9,496,lb 116 1 115⟩,⟨10,0,mt 117 18⟩,⟨11,1024,aI 118 .add 117 1⟩,⟨12,3072,aI 119 .rem 118 5⟩,⟨13,0,mt 120 17⟩,⟨14,8192,aJ 121 .mul 5 120⟩,⟨15,31744,ak 122 .add 119 121⟩,⟨16,64512,ib 123 25 1 9 122⟩,⟨17,130048,lb 124 1 123⟩,⟨18,261120,aU 125 .xor 124 18446744073709551615⟩,⟨19,0,mt 126 18⟩,⟨20,524288,aI 127 .add 126 2⟩,⟨21,1572864,aI 128 .rem 127 5⟩,⟨22,0,mt 129 17⟩,⟨23,4194304,aJ 130 .mul 5 129⟩,⟨24,16252928,ak 131 .add 128 130⟩,⟨25,33030144,ib 132 25 1 9 131⟩,⟨26,66584576,lb 133 1 132⟩,⟨27,134216704,ak 134 .and 125 133⟩,⟨28,268435440,ak 135 .xor 116 134⟩,⟨29,536870911,ib 136 25 1 3 110⟩,⟨30,1073741823,sb 1 136 135⟩])) (.reg [mt 105 18,aI 106 .add 105 1,mt 18 106]))))))) (.reg [mt 101 17,aI 102 .add 101 1,mt 17 102]))))))
 (.regd [⟨0,0,iI 137 25 1 3 0⟩,⟨1,1,lb 138 1 137⟩,⟨2,0,mt 139 1⟩,⟨3,0,mt 140 7⟩,⟨4,12,ia 141 1 139 140⟩,⟨5,28,lb 142 1 141⟩,⟨6,63,ak 143 .xor 138 142⟩,⟨7,127,iI 144 25 1 3 0⟩,⟨8,255,sb 1 144 143⟩])))))) (.reg [mt 21 7,aI 22 .add 21 1,mt 7 22])))))) (sr [la 145 25 3,sb 25 6 145] .ret)))
def Ar1:LF:=⟨Ars,3,0,146,[.cell 6 true 25]⟩
def Aqc:LC:=(sr [mU 4 0] (sr [mt 5 1,aI 6 .rem 5 64,mt 1 6] (.seq (sr [mt 7 1,aI 8 .eql 7 0] (.cond (.t 8) (sr [mt 9 0,mt 4 9] .ret) .skip)) (sr [mt 10 0,mt 11 1,
  D0 12 .u64 11,ak 13 .shl 10 12,mt 14 0,mt 15 1,
  aJ 16 .sub 64 15,
  D0 17 .u64 16,ak 18 .shr 14 17,ak 19 .or 13 18,mt 4 19] .ret))))
def Arf:LF:=⟨Aqc,2,0,20,[.tmp 4]⟩
structure OkB (M:Seat):Prop where
 k205:Au M 205 Asw=true
 k206:Au M 206 Asa=true
 k311:Au M 311 Ari=true
 k413:Au M 413 Arw=true
 k414:Au M 414 Arj=true
 k415:Au M 415 Ar1=true
 k461:Au M 461 Arf=true
end Mv
namespace Mv
def Ak5:List Nat:=[0,6,12,18,24,3,9,10,16,22,1,7,13,19,20,4,5,11,17,23,2,8,14,15,21]
def Apn:List Nat:=[0,44,43,21,14,28,20,3,45,61,1,6,25,8,18,27,36,10,15,56,62,55,39,41,2]
end Mv
namespace Mv
def Ln (p:Nat):Nat:=(lanes.getD p 0).toNat
def Tn (p:Nat):Nat:=(turns.getD p 0).toNat
def pos:Nat→Nat
 | 0=>1
 | p + 1=>Ln p
theorem Ar4:∀ p,p < 24→Ln p < 25:=Am
theorem Ap5:∀ p,p < 24→∀ q,q < 24→p ≠ q→Ln p ≠ Ln q:=Am
theorem Aqq:∀ j,j < 25→j ≠ 0→∃ p,p < 24∧Ln p=j∧pos p=Ak5.getD j 0∧Tn p=Apn.getD j 0:=Am
theorem Arg:∀ p,p < 24→Ln p ≠ 0:=Am
def Am3 (a:List (BitVec 64)):Nat→Nat→BitVec 64
 | 0,j=>a.getD j 0
 | p + 1,j=>if j=Ln p then rot (a.getD (pos p) 0) (Tn p) else Am3 a p j
theorem Ald (a:List (BitVec 64)) (j:Nat):∀ p,(∀ q,q < p→Ln q ≠ j)→Am3 a p j=a.getD j 0
 | 0,_=>rfl
 | p + 1,h=>by rw [Am3,if_neg (fun e=>h p Aa e.symm),Ald a j p (fun q hq=>h q Aa)]
theorem Anj (a:List (BitVec 64)) (p:Nat):∀ n,p < n→n≤24→Am3 a n (Ln p)=rot (a.getD (pos p) 0) (Tn p)
 | 0,h,_=>by omega
 | n + 1, h, h2 => by
   by_cases e:p=n
   ·subst e;rw [Am3,if_pos rfl]
   ·rw [Am3,if_neg (Ap5 p Aa n Aa e),Anj a p n Aa Aa]
theorem Aog (a:List (BitVec 64)) (ha:a.length=25):∀ p,p≤24→(Sr a p).1=a.getD (pos p) 0∧∀ j,(Sr a p).2.getD j 0=Am3 a p j
 | 0,_=>⟨rfl,fun _=>rfl⟩
 | p + 1, h => by
   obtain ⟨h1,h2⟩:=Aog a ha p Aa
   refine ⟨?_,fun j=>?_⟩
   ·show (Sr a p).2.getD (Ln p) 0=a.getD (Ln p) 0
    rw [h2,Ald a _ p (fun q hq=>Ap5 q Aa p Aa Aa)]
   ·show ((Sr a p).2.set (Ln p) (rot (Sr a p).1 (Tn p))).getD j 0=Am3 a (p + 1) j
    rw [ZF _ _ _ _ (by rw [Qo a ha];exact Ar4 p Aa),h1,h2,Am3]
theorem Ap3 (x:BitVec 64):rot x 0=x:=by
 have h:x >>> 64=0:=by
  apply BitVec.eq_of_toNat_eq
  rw [BitVec.toNat_ushiftRight,Nat.shiftRight_eq_div_pow,Nat.div_eq_of_lt x.isLt];rfl
 simp [rot,h]
theorem Aqp (a:List (BitVec 64)) (ha:a.length=25) (j:Nat) (hj:j < 25):(Sr a 24).2.getD j 0=rot (a.getD (Ak5.getD j 0) 0) (Apn.getD j 0):=by
 rw [(Aog a ha 24 (Nat.le_refl _)).2]
 by_cases h0:j=0
 ·subst h0
  rw [Ald a 0 24 (fun q hq=>Arg q hq)]
  exact (Ap3 _).symm
 ·obtain ⟨p,h1,h2,h3,h4⟩:=Aqq j hj h0
  rw [← h2,Anj a p 24 h1 (Nat.le_refl _),h2,h3,h4]
theorem Amv:∀ j,j < 25→Ak5.getD j 0 < 25:=Am
end Mv
namespace Mv
open Go
theorem Ao4 (a b:BitVec 64) (H:Hp):AP .or (W a) (W b) H=⟨True,W (a ||| b),H⟩:=Ll a b H
theorem Amm {M:Seat} (ok:OkB M) (x:BitVec 64) (n:Nat) (hn:n < 64) :
 Ag M 461 [W x,.int .i64 n] [] 0 (Q3 (W (rot x n)) [] 0):=by
 refine Ab ok.k461 rfl fun c hx=>?_
 have e1:(n:Int).tmod 64=n:=by rw [Int.tmod_eq_emod_of_nonneg Aa];omega
 refine es 30 ?_
 by_cases h0:n=0
 ·subst h0
  have d0:decide ((0:Int)=0)=true:=rfl
  have e0:(0:Int).tmod 64=0:=rfl
  simp only [Arf,Aqc,d0,e0,La3,↓Ad,AX,Ae,Nat.reduceLT,Int.reduceLE,Int.reduceLT,Nat.reducePow,Nat.reduceAnd,Nat.reduceOr,Nat.reduceShiftRight,Int.reduceToNat,reduceCtorEq,Nat.reduceAdd,Nat.reduceMul,Nat.reduceSub,Nat.reduceBEq,Nat.reduceEqDiff,Nat.reduceLeDiff,Nat.reduceBneDiff,Nat.reduceBNe,↓reduceIte]
  refine ⟨by omega,?_⟩
  refine Ar.mk hx [] [] (W (rot x 0)) [] 0 Am ?_ ?_ trivial ⟨rfl,rfl,rfl⟩
  ·simp only [SD,↓Ad,ex,Ro,AJ,AX,Ae,Nat.reduceLT,Int.reduceLE,Int.reduceLT,Nat.reducePow,Nat.reduceAnd,Nat.reduceOr,Nat.reduceShiftRight,Int.reduceToNat,reduceCtorEq,Nat.reduceAdd,Nat.reduceMul,Nat.reduceSub,Nat.reduceBEq,Nat.reduceEqDiff]
  ·rw [Ap3];simp only [Rs,↓Ad,ex,Ro,AJ,AX,Ae,Nat.reduceLT,Int.reduceLE,Int.reduceLT,Nat.reducePow,Nat.reduceAnd,Nat.reduceOr,Nat.reduceShiftRight,Int.reduceToNat,reduceCtorEq,Nat.reduceAdd,Nat.reduceMul,Nat.reduceSub,Nat.reduceBEq,Nat.reduceEqDiff,Nat.reduceLeDiff]
 ·have d0:decide ((n:Int)=0)=false:=decide_eq_false Aa
  have w1:IntKind.u64.wrap ((n:Nat):Int)=(n:Nat):=EX Aa
  have w2:IntKind.i64.wrap (64 - (n:Int))=((64 - n:Nat):Int):=AZ
  have w3:IntKind.u64.wrap ((64 - n:Nat):Int)=((64 - n:Nat):Int):=EX Aa
  simp only [Arf,Aqc,d0,e1,w1,w2,w3,Ao4,La3,↓Ad,AX,Ae,Nat.reduceLT,Int.reduceLE,Int.reduceLT,Nat.reducePow,Nat.reduceAnd,Nat.reduceOr,Nat.reduceShiftRight,Int.reduceToNat,reduceCtorEq,Nat.reduceAdd,Nat.reduceMul,Nat.reduceSub,Nat.reduceBEq,Nat.reduceEqDiff,Nat.reduceLeDiff,Nat.reduceBneDiff,Nat.reduceBNe,↓reduceIte]
  refine ⟨by omega,by omega,by omega,?_⟩
  refine Ar.mk hx [] [] (W (rot x n)) [] 0 Am ?_ ?_ trivial ⟨rfl,rfl,rfl⟩
  ·simp only [SD,↓Ad,ex,Ro,AJ,AX,Ae,Nat.reduceLT,Int.reduceLE,Int.reduceLT,Nat.reducePow,Nat.reduceAnd,Nat.reduceOr,Nat.reduceShiftRight,Int.reduceToNat,reduceCtorEq,Nat.reduceAdd,Nat.reduceMul,Nat.reduceSub,Nat.reduceBEq,Nat.reduceEqDiff]
  ·simp only [Rs,↓Ad,ex,Ro,AJ,AX,Ae,Nat.reduceLT,Int.reduceLE,Int.reduceLT,Nat.reducePow,Nat.reduceAnd,Nat.reduceOr,Nat.reduceShiftRight,Int.reduceToNat,reduceCtorEq,Nat.reduceAdd,Nat.reduceMul,Nat.reduceSub,Nat.reduceBEq,Nat.reduceEqDiff,Nat.reduceLeDiff]
   rfl
def lf:Nat→Nat
 | 0=>1
 | n + 1=>if 255 < lf n * 2 then (lf n * 2) ^^^ 369 else lf n * 2
def kk (i:Nat):Nat→BitVec 64
 | 0=>0
 | j + 1=>if lf (7 * i + j) % 2=1 then kk i j ||| ((1:BitVec 64) <<< (2 ^ j - 1)) else kk i j
theorem Asl:∀ n,n≤168→lf n < 256:=Am
theorem Ap2:∀ i,i < 24→kk i 7=rc.getD i 0:=Am
theorem Asu {a b:Nat} (ha:a < 4611686018427387904) (hb:b < 4611686018427387904):IntKind.i64.wrap (((BitVec.ofInt IntKind.i64.bits (a:Int) ^^^ BitVec.ofInt IntKind.i64.bits (b:Int)).toNat:Nat):Int)=((a ^^^ b:Nat):Int):=by
 show IntKind.i64.wrap (((BitVec.ofInt 64 (a:Int) ^^^ BitVec.ofInt 64 (b:Int)).toNat:Nat):Int)=_
 have h2:a ^^^ b < 2 ^ 63:=Nat.xor_lt_two_pow Aa Aa
 rw [BN,BN,BitVec.toNat_xor,BitVec.toNat_ofNat,BitVec.toNat_ofNat,Nat.mod_eq_of_lt Aa,Nat.mod_eq_of_lt Aa]
 rw [AY Aa]
theorem W1:V.int .u64 1=W 1:=rfl
theorem Ak3 (a b:BitVec 64) (H:Hp):AP .sub (W a) (W b) H=⟨True,W (a - b),H⟩:=by
 have ha:=a.isLt
 have hb:=b.isLt
 simp only [AP,W,Dx,BitVec.toNat_sub]
 congr 2
 omega
theorem Ak2 (a b:BitVec 64) (H:Hp):AP .shl (W a) (W b) H=⟨True,W (a <<< b.toNat),H⟩:=by
 have h:=GC a .u64 (b.toNat:Int) H
 simp only [Int.toNat_natCast] at h
 rw [show W b=V.int .u64 (b.toNat:Int) from rfl,h]
 simp
theorem Apw:∀ j,j < 7→((1:BitVec 64) <<< j - 1).toNat=2 ^ j - 1:=Am
theorem Amg {M:Seat} (ok:OkB M) :
 Ag M 413 [] [] 0 (Q3 (.sl 0 [] 0 24 1) [(0,.ar 1 24 (ws rc))] 1):=by
 refine Ab ok.k413 rfl fun x hx=>?_
 refine es 30 ?_
 simp only [Arw,Ar7,La3,↓Ad,AX,Ae,Nat.reduceLT,Int.reduceLE,Int.reduceLT,Nat.reducePow,Nat.reduceAnd,Nat.reduceOr,Nat.reduceShiftRight,Int.reduceToNat,reduceCtorEq,Nat.reduceAdd,Nat.reduceMul,Nat.reduceSub,Nat.reduceBEq,Nat.reduceEqDiff,Nat.reduceLeDiff,Nat.reduceBneDiff,Nat.reduceBNe,↓reduceIte]
 refine An (σ:=Nat) (fun i=>i≤24) (fun i=>fr 35 [(1,if i=0 then .nils else .sl 0 [] 0 i 1),(2,.int .i64 (lf (7 * i):Nat)),(3,.int .i64 i)])
  (fun i=>if i=0 then [] else [(0,.ar 1 i (ws rc))]) (fun _=>1) (fun i=>24 - i) 0 Aa ?_ ?_
 ·refine Ao.fr [] [] hx AQ Am ?_ ?_
  ·simp only [Bo,Nat.reduceLT,reduceCtorEq,Nat.reduceEqDiff,Nat.reduceLeDiff,Nat.reduceBEq]
   rfl
  ·trivial
 ·intro i hi
  by_cases h24:i=24
  ·subst h24
   have d0:decide (((24:Nat):Int) < 24)=false:=rfl
   have n24:¬ (24:Nat)=0:=Aa
   simp only [if_neg n24]
   (refine es 30 ?_;simp (maxSteps:=2000000) only [d0,La3,↓Ad,AX,Ae,Nat.reduceLT,Int.reduceLE,Int.reduceLT,Nat.reducePow,Nat.reduceAnd,Nat.reduceOr,Nat.reduceShiftRight,Int.reduceToNat,reduceCtorEq,Nat.reduceAdd,Nat.reduceMul,Nat.reduceSub,Nat.reduceBEq,Nat.reduceEqDiff,Nat.reduceLeDiff,Nat.reduceBneDiff,Nat.reduceBNe,↓reduceIte])
   refine Ar.mk hx [0] [] (.sl 0 [] 0 24 1) [(0,.ar 1 24 (ws rc))] 1 Am ?_ ?_ ?_ ⟨rfl,rfl,rfl⟩
   ·simp only [SD,↓Ad,ex,Ro,AJ,AX,Ae,Nat.reduceLT,Int.reduceLE,Int.reduceLT,Nat.reducePow,Nat.reduceAnd,Nat.reduceOr,Nat.reduceShiftRight,Int.reduceToNat,reduceCtorEq,Nat.reduceAdd,Nat.reduceMul,Nat.reduceSub,Nat.reduceBEq,Nat.reduceEqDiff]
   ·simp only [Rs,↓Ad,ex,Ro,AJ,AX,Ae,Nat.reduceLT,Int.reduceLE,Int.reduceLT,Nat.reducePow,Nat.reduceAnd,Nat.reduceOr,Nat.reduceShiftRight,Int.reduceToNat,reduceCtorEq,Nat.reduceAdd,Nat.reduceMul,Nat.reduceSub,Nat.reduceBEq,Nat.reduceEqDiff,Nat.reduceLeDiff]
   ·simp only [Bo,Nat.reduceLT,reduceCtorEq,Nat.reduceEqDiff,Nat.reduceLeDiff,Nat.reduceBEq]
  ·have d0:decide ((i:Int) < 24)=true:=decide_eq_true Aa
   have wi:IntKind.i64.wrap ((i:Int) + 1)=((i + 1:Nat):Int):=AZ
   (refine es 30 ?_;simp (maxSteps:=2000000) only [d0,La3,↓Ad,AX,Ae,Nat.reduceLT,Int.reduceLE,Int.reduceLT,Nat.reducePow,Nat.reduceAnd,Nat.reduceOr,Nat.reduceShiftRight,Int.reduceToNat,reduceCtorEq,Nat.reduceAdd,Nat.reduceMul,Nat.reduceSub,Nat.reduceBEq,Nat.reduceEqDiff,Nat.reduceLeDiff,Nat.reduceBneDiff,Nat.reduceBNe,↓reduceIte])
   refine An (σ:=Nat) (fun j=>j≤7) (fun j=>fr 35 [(1,if i=0 then .nils else .sl 0 [] 0 i 1),(2,.int .i64 (lf (7 * i + j):Nat)),(3,.int .i64 i),(4,W (kk i j)),(5,.int .i64 j)])
    (fun j=>if i=0 then [] else [(0,.ar 1 i (ws rc))]) (fun _=>1) (fun j=>7 - j) 0 Aa ?_ ?_
   ·refine Ao.fr [0] [] hx AQ Am ?_ ?_
    ·simp only [Bo,Nat.reduceLT,reduceCtorEq,Nat.reduceEqDiff,Nat.reduceLeDiff,Nat.reduceBEq,W_0,kk]
     by_cases h0:i=0
     ·simp only [if_pos h0,Bo,Nat.reduceLT,reduceCtorEq,Nat.reduceEqDiff,Nat.reduceLeDiff,Nat.reduceBEq]
      trivial
     ·simp only [if_neg h0,Bo,Nat.reduceLT,reduceCtorEq,Nat.reduceEqDiff,Nat.reduceLeDiff,Nat.reduceBEq]
      trivial
    ·by_cases h0:i=0
     ·simp only [if_pos h0,Bo,Nat.reduceLT,reduceCtorEq,Nat.reduceEqDiff,Nat.reduceLeDiff,Nat.reduceBEq]
     ·simp only [if_neg h0,Bo,Nat.reduceLT,reduceCtorEq,Nat.reduceEqDiff,Nat.reduceLeDiff,Nat.reduceBEq]
   ·intro j hj
    by_cases h7:j=7
    ·subst h7
     have d1:decide (((7:Nat):Int) < 7)=false:=rfl
     have e7:7 * i + 7=7 * (i + 1):=Aa
     by_cases h0:i=0
     ·simp only [if_pos h0]
      (refine es 30 ?_;simp (maxSteps:=2000000) only [d1,wi,La3,↓Ad,AX,Ae,Nat.reduceLT,Int.reduceLE,Int.reduceLT,Nat.reducePow,Nat.reduceAnd,Nat.reduceOr,Nat.reduceShiftRight,Int.reduceToNat,reduceCtorEq,Nat.reduceAdd,Nat.reduceMul,Nat.reduceSub,Nat.reduceBEq,Nat.reduceEqDiff,Nat.reduceLeDiff,Nat.reduceBneDiff,Nat.reduceBNe,↓reduceIte])
      subst h0
      refine ⟨1,by omega,by omega,?_⟩
      refine Ao.fr [81] [] hx AQ Am ?_ ?_
      ·simp only [if_neg (Nat.add_one_ne_zero 0),Bo,Nat.reduceLT,reduceCtorEq,Nat.reduceEqDiff,Nat.reduceLeDiff,Nat.reduceBEq]
      ·simp only [if_neg (Nat.add_one_ne_zero 0),Bo,Nat.reduceLT,reduceCtorEq,Nat.reduceEqDiff,Nat.reduceLeDiff,Nat.reduceBEq]
       intro q hq
       have:q=0:=Aa
       subst this
       simp only [if_true,Ap2 0 Aa,Rc]
     ·simp only [if_neg h0]
      (refine es 30 ?_;simp (maxSteps:=2000000) only [d1,wi,La3,↓Ad,AX,Ae,Nat.reduceLT,Int.reduceLE,Int.reduceLT,Nat.reducePow,Nat.reduceAnd,Nat.reduceOr,Nat.reduceShiftRight,Int.reduceToNat,reduceCtorEq,Nat.reduceAdd,Nat.reduceMul,Nat.reduceSub,Nat.reduceBEq,Nat.reduceEqDiff,Nat.reduceLeDiff,Nat.reduceBneDiff,Nat.reduceBNe,↓reduceIte])
      refine ⟨by omega,i + 1,by omega,by omega,?_⟩
      refine Ao.fr [81] [] hx AQ Am ?_ ?_
      ·simp only [if_neg (Nat.add_one_ne_zero i),e7,Bo,Nat.reduceLT,reduceCtorEq,Nat.reduceEqDiff,Nat.reduceLeDiff,Nat.reduceBEq]
      ·simp only [if_neg (Nat.add_one_ne_zero i),Bo,Nat.reduceLT,reduceCtorEq,Nat.reduceEqDiff,Nat.reduceLeDiff,Nat.reduceBEq]
       intro q hq
       by_cases h1:q < i
       ·rw [if_pos h1];exact (Rc _ _ _ _ _).mpr rfl
       ·have:q=i:=Aa
        subst this
        rw [if_neg h1,if_pos Aa,Ap2 q Aa];exact (Rc _ _ _ _ _).mpr rfl
    ·have d1:decide ((j:Int) < 7)=true:=decide_eq_true Aa
     have wj:IntKind.i64.wrap ((j:Int) + 1)=((j + 1:Nat):Int):=AZ
     have hl:=Asl (7 * i + j) Aa
     have w2:IntKind.i64.wrap (((lf (7 * i + j):Nat):Int) * 2)=((lf (7 * i + j) * 2:Nat):Int):=AZ
     have wx:IntKind.i64.wrap (((BitVec.ofInt IntKind.i64.bits ((lf (7 * i + j) * 2:Nat):Int) ^^^ BitVec.ofInt IntKind.i64.bits 369).toNat:Nat):Int)=(((lf (7 * i + j) * 2) ^^^ 369:Nat):Int):=Asu (b:=369) Aa Am
     have wu:IntKind.u64.wrap ((j:Nat):Int)=(j:Nat):=EX Aa
     have hs:=Apw j Aa
     have hm:((lf (7 * i + j):Nat):Int).tmod 2=((lf (7 * i + j) % 2:Nat):Int):=by rw [Int.tmod_eq_emod_of_nonneg Aa];omega
     by_cases hb:lf (7 * i + j) % 2=1
     ·have d2:decide (((lf (7 * i + j) % 2:Nat):Int)=1)=true:=decide_eq_true Aa
      have hk:kk i (j + 1)=kk i j ||| ((1:BitVec 64) <<< (2 ^ j - 1)):=by rw [kk,if_pos hb]
      by_cases hc:255 < lf (7 * i + j) * 2
      ·have d3:decide ((255:Int) < ((lf (7 * i + j) * 2:Nat):Int))=true:=decide_eq_true Aa
       have hn:lf (7 * i + (j + 1))=(lf (7 * i + j) * 2) ^^^ 369:=by show lf (7 * i + j + 1)=_;rw [lf,if_pos hc]
       (refine es 30 ?_;simp (maxSteps:=2000000) only [W1,Ak3,Ak2,hs,hm,d1,d2,d3,w2,wx,wu,wj,La3,↓Ad,AX,Ae,Nat.reduceLT,Int.reduceLE,Int.reduceLT,Nat.reducePow,Nat.reduceAnd,Nat.reduceOr,Nat.reduceShiftRight,Int.reduceToNat,reduceCtorEq,Nat.reduceAdd,Nat.reduceMul,Nat.reduceSub,Nat.reduceBEq,Nat.reduceEqDiff,Nat.reduceLeDiff,Nat.reduceBneDiff,Nat.reduceBNe,↓reduceIte])
       refine ⟨by omega,by omega,j + 1,by omega,by omega,?_⟩
       rw [hk,hn]
       refine Ao.fr [0] [] hx AQ Am ?_ ?_
       ·simp only [Bo,Nat.reduceLT,reduceCtorEq,Nat.reduceEqDiff,Nat.reduceLeDiff,Nat.reduceBEq]
        by_cases h0:i=0
        ·simp only [if_pos h0,Bo,Nat.reduceLT,reduceCtorEq,Nat.reduceEqDiff,Nat.reduceLeDiff,Nat.reduceBEq]
        ·simp only [if_neg h0,Bo,Nat.reduceLT,reduceCtorEq,Nat.reduceEqDiff,Nat.reduceLeDiff,Nat.reduceBEq]
       ·by_cases h0:i=0
        ·simp only [if_pos h0,Bo,Nat.reduceLT,reduceCtorEq,Nat.reduceEqDiff,Nat.reduceLeDiff,Nat.reduceBEq]
        ·simp only [if_neg h0,Bo,Nat.reduceLT,reduceCtorEq,Nat.reduceEqDiff,Nat.reduceLeDiff,Nat.reduceBEq]
      ·have d3:decide ((255:Int) < ((lf (7 * i + j) * 2:Nat):Int))=false:=decide_eq_false Aa
       have hn:lf (7 * i + (j + 1))=lf (7 * i + j) * 2:=by show lf (7 * i + j + 1)=_;rw [lf,if_neg hc]
       (refine es 30 ?_;simp (maxSteps:=2000000) only [W1,Ak3,Ak2,hs,hm,d1,d2,d3,w2,wx,wu,wj,La3,↓Ad,AX,Ae,Nat.reduceLT,Int.reduceLE,Int.reduceLT,Nat.reducePow,Nat.reduceAnd,Nat.reduceOr,Nat.reduceShiftRight,Int.reduceToNat,reduceCtorEq,Nat.reduceAdd,Nat.reduceMul,Nat.reduceSub,Nat.reduceBEq,Nat.reduceEqDiff,Nat.reduceLeDiff,Nat.reduceBneDiff,Nat.reduceBNe,↓reduceIte])
       refine ⟨by omega,by omega,j + 1,by omega,by omega,?_⟩
       rw [hk,hn]
       refine Ao.fr [0] [] hx AQ Am ?_ ?_
       ·simp only [Bo,Nat.reduceLT,reduceCtorEq,Nat.reduceEqDiff,Nat.reduceLeDiff,Nat.reduceBEq]
        by_cases h0:i=0
        ·simp only [if_pos h0,Bo,Nat.reduceLT,reduceCtorEq,Nat.reduceEqDiff,Nat.reduceLeDiff,Nat.reduceBEq]
        ·simp only [if_neg h0,Bo,Nat.reduceLT,reduceCtorEq,Nat.reduceEqDiff,Nat.reduceLeDiff,Nat.reduceBEq]
       ·by_cases h0:i=0
        ·simp only [if_pos h0,Bo,Nat.reduceLT,reduceCtorEq,Nat.reduceEqDiff,Nat.reduceLeDiff,Nat.reduceBEq]
        ·simp only [if_neg h0,Bo,Nat.reduceLT,reduceCtorEq,Nat.reduceEqDiff,Nat.reduceLeDiff,Nat.reduceBEq]
     ·have d2:decide (((lf (7 * i + j) % 2:Nat):Int)=1)=false:=decide_eq_false Aa
      have hk:kk i (j + 1)=kk i j:=by rw [kk,if_neg hb]
      by_cases hc:255 < lf (7 * i + j) * 2
      ·have d3:decide ((255:Int) < ((lf (7 * i + j) * 2:Nat):Int))=true:=decide_eq_true Aa
       have hn:lf (7 * i + (j + 1))=(lf (7 * i + j) * 2) ^^^ 369:=by show lf (7 * i + j + 1)=_;rw [lf,if_pos hc]
       (refine es 30 ?_;simp (maxSteps:=2000000) only [W1,Ak3,Ak2,hs,hm,d1,d2,d3,w2,wx,wu,wj,La3,↓Ad,AX,Ae,Nat.reduceLT,Int.reduceLE,Int.reduceLT,Nat.reducePow,Nat.reduceAnd,Nat.reduceOr,Nat.reduceShiftRight,Int.reduceToNat,reduceCtorEq,Nat.reduceAdd,Nat.reduceMul,Nat.reduceSub,Nat.reduceBEq,Nat.reduceEqDiff,Nat.reduceLeDiff,Nat.reduceBneDiff,Nat.reduceBNe,↓reduceIte])
       refine ⟨by omega,j + 1,by omega,by omega,?_⟩
       rw [hk,hn]
       refine Ao.fr [0] [] hx AQ Am ?_ ?_
       ·simp only [Bo,Nat.reduceLT,reduceCtorEq,Nat.reduceEqDiff,Nat.reduceLeDiff,Nat.reduceBEq]
        by_cases h0:i=0
        ·simp only [if_pos h0,Bo,Nat.reduceLT,reduceCtorEq,Nat.reduceEqDiff,Nat.reduceLeDiff,Nat.reduceBEq]
        ·simp only [if_neg h0,Bo,Nat.reduceLT,reduceCtorEq,Nat.reduceEqDiff,Nat.reduceLeDiff,Nat.reduceBEq]
       ·by_cases h0:i=0
        ·simp only [if_pos h0,Bo,Nat.reduceLT,reduceCtorEq,Nat.reduceEqDiff,Nat.reduceLeDiff,Nat.reduceBEq]
        ·simp only [if_neg h0,Bo,Nat.reduceLT,reduceCtorEq,Nat.reduceEqDiff,Nat.reduceLeDiff,Nat.reduceBEq]
      ·have d3:decide ((255:Int) < ((lf (7 * i + j) * 2:Nat):Int))=false:=decide_eq_false Aa
       have hn:lf (7 * i + (j + 1))=lf (7 * i + j) * 2:=by show lf (7 * i + j + 1)=_;rw [lf,if_neg hc]
       (refine es 30 ?_;simp (maxSteps:=2000000) only [W1,Ak3,Ak2,hs,hm,d1,d2,d3,w2,wx,wu,wj,La3,↓Ad,AX,Ae,Nat.reduceLT,Int.reduceLE,Int.reduceLT,Nat.reducePow,Nat.reduceAnd,Nat.reduceOr,Nat.reduceShiftRight,Int.reduceToNat,reduceCtorEq,Nat.reduceAdd,Nat.reduceMul,Nat.reduceSub,Nat.reduceBEq,Nat.reduceEqDiff,Nat.reduceLeDiff,Nat.reduceBneDiff,Nat.reduceBNe,↓reduceIte])
       refine ⟨by omega,j + 1,by omega,by omega,?_⟩
       rw [hk,hn]
       refine Ao.fr [0] [] hx AQ Am ?_ ?_
       ·simp only [Bo,Nat.reduceLT,reduceCtorEq,Nat.reduceEqDiff,Nat.reduceLeDiff,Nat.reduceBEq]
        by_cases h0:i=0
        ·simp only [if_pos h0,Bo,Nat.reduceLT,reduceCtorEq,Nat.reduceEqDiff,Nat.reduceLeDiff,Nat.reduceBEq]
        ·simp only [if_neg h0,Bo,Nat.reduceLT,reduceCtorEq,Nat.reduceEqDiff,Nat.reduceLeDiff,Nat.reduceBEq]
       ·by_cases h0:i=0
        ·simp only [if_pos h0,Bo,Nat.reduceLT,reduceCtorEq,Nat.reduceEqDiff,Nat.reduceLeDiff,Nat.reduceBEq]
        ·simp only [if_neg h0,Bo,Nat.reduceLT,reduceCtorEq,Nat.reduceEqDiff,Nat.reduceLeDiff,Nat.reduceBEq]
def pxy:Nat→Nat × Nat
 | 0=>(1,0)
 | t + 1=>((pxy t).2,(2 * (pxy t).1 + 3 * (pxy t).2) % 5)
def tv:Nat→Nat→Nat
 | 0,_=>0
 | q + 1,j=>if j=(pxy q).1 + 5 * (pxy q).2 then ((q + 1) * (q + 2) / 2) % 64 else tv q j
theorem Aqg:∀ t,t≤24→(pxy t).1 < 5∧(pxy t).2 < 5:=Am
theorem Anv {M:Seat} (ok:OkB M) :
 Ag M 414 [] [] 0 (Q3 (.sl 0 [] 0 25 1) [(0,.ar 1 25 (fun j=>.int .i64 (tv 24 j:Nat)))] 1):=by
 refine Ab ok.k414 rfl fun x hx=>?_
 refine es 30 ?_
 simp only [Arj,Asp,La3,↓Ad,AX,Ae,seval]
 repeat refine sd ?_
 refine An (σ:=Nat) (fun t=>t≤24) (fun t=>fr 33 [(1,.sl 0 [] 0 25 1),(2,.int .i64 ((pxy t).1:Nat)),(3,.int .i64 ((pxy t).2:Nat)),(4,.int .i64 t)])
  (fun t=>[(0,.ar 1 25 (fun j=>.int .i64 (tv t j:Nat)))]) (fun _=>1) (fun t=>24 - t) 0 Aa ?_ ?_
 ·refine Ao.fr [16] [] hx AQ Am ?_ ?_
  ·simp only [Bo,seval]
   exact ⟨rfl,rfl⟩
  ·simp only [Bo,seval]
   exact fun _ _=>rfl
 ·intro t ht
  by_cases h24:t=24
  ·subst h24
   have d0:decide (((24:Nat):Int) < 24)=false:=rfl
   (refine es 30 ?_;simp (maxSteps:=2000000) only [d0,La3,↓Ad,AX,Ae,seval])
   refine Ar.mk hx [0] [] (.sl 0 [] 0 25 1) [(0,.ar 1 25 (fun j=>.int .i64 (tv 24 j:Nat)))] 1 Am ?_ ?_ ?_ ⟨rfl,rfl,rfl⟩
   ·simp only [SD,↓Ad,ex,Ro,AJ,AX,Ae,seval]
   ·simp only [Rs,↓Ad,ex,Ro,AJ,AX,Ae,seval]
   ·simp only [Bo,seval]
  ·have d0:decide ((t:Int) < 24)=true:=decide_eq_true Aa
   obtain ⟨hx5,hy5⟩:=Aqg t ht
   have w1:IntKind.i64.wrap ((t:Int) + 1)=((t + 1:Nat):Int):=AZ
   have w2:IntKind.i64.wrap ((t:Int) + 2)=((t + 2:Nat):Int):=AZ
   have w3:IntKind.i64.wrap (5 * (((pxy t).2:Nat):Int))=((5 * (pxy t).2:Nat):Int):=AZ
   have w4:IntKind.i64.wrap ((((pxy t).1:Nat):Int) + ((5 * (pxy t).2:Nat):Int))=(((pxy t).1 + 5 * (pxy t).2:Nat):Int):=AZ
   have hm:(t + 1) * (t + 2)≤25 * 26:=Nat.mul_le_mul Aa Aa
   have w5:IntKind.i64.wrap (((t + 1:Nat):Int) * ((t + 2:Nat):Int))=(((t + 1) * (t + 2):Nat):Int):=by rw [← Int.natCast_mul,AY Aa]
   have w6:IntKind.i64.wrap ((((t + 1) * (t + 2):Nat):Int).tdiv 2)=(((t + 1) * (t + 2) / 2:Nat):Int):=Zq Aa
   have w7:((((t + 1) * (t + 2) / 2:Nat):Int)).tmod 64=(((t + 1) * (t + 2) / 2 % 64:Nat):Int):=by rw [Int.tmod_eq_emod_of_nonneg Aa];omega
   have w8:IntKind.i64.wrap (2 * (((pxy t).1:Nat):Int))=((2 * (pxy t).1:Nat):Int):=AZ
   have w9:IntKind.i64.wrap (3 * (((pxy t).2:Nat):Int))=((3 * (pxy t).2:Nat):Int):=AZ
   have wa:IntKind.i64.wrap (((2 * (pxy t).1:Nat):Int) + ((3 * (pxy t).2:Nat):Int))=((2 * (pxy t).1 + 3 * (pxy t).2:Nat):Int):=AZ
   have wb:(((2 * (pxy t).1 + 3 * (pxy t).2:Nat):Int)).tmod 5=(((2 * (pxy t).1 + 3 * (pxy t).2) % 5:Nat):Int):=by rw [Int.tmod_eq_emod_of_nonneg Aa];omega
   (refine es 30 ?_;simp (maxSteps:=2000000) only [d0,w1,w2,w3,w4,w5,w6,w7,w8,w9,wa,wb,La3,↓Ad,AX,Ae,seval])
   repeat refine sd ?_
   refine ⟨t + 1,by omega,by omega,?_⟩
   refine Ao.fr [0] [] hx AQ Am ?_ ?_
   ·simp only [Bo,seval]
    exact ⟨rfl,rfl⟩
   ·simp only [Bo,seval]
    intro j hj
    rw [tv]
    split <;> rfl
end Mv
