/- A part. -/
import Derived.Test.YtfljfijnobocoaaDoorDI
set_option linter.all false
set_option maxRecDepth 20000
set_option maxHeartbeats 4000000
namespace Mv
open Go
def c70:LC:=(sr [mn 4] (.seq (sr [mt 14 0,A1 15 (.eq false true .ptr (.t 14) (.c .nilp)),mt 16 15,mg 17 16 false 1,A2 18 16 false (.eq false true .ptr (.t 17) (.c .nilp)),
  BV 19 16 18] (.cond (.t 19) (sr [A1 20 (.mkif 74 (cI 1)),mt 4 20] .ret) .skip)) (.seq (sr [mt 21 0,nc 22 21,fa 23 8209 22,lb 24 1 23] (.cond (.t 24) (sr [mn 4] .ret) .skip)) (.seq (sr [mt 25 0,nc 26 25,fa 27 8208 26,lb 28 1 27,
  aU 29 .geq 28 8192] (.cond (.t 29) (sr [mt 30 0,kl 31 214 [(.t 30),(cU 18446744073709551614)]] (sr [mn 4] .ret)) .skip)) (.seq (.regd [⟨0,0,mt 33 0⟩,⟨1,0,mt 34 0⟩,⟨2,2,nc 35 34⟩,⟨3,6,fa 36 8208 35⟩,⟨4,14,lb 37 1 36⟩,⟨5,1,nc 38 33⟩,⟨6,33,fa 39 0 38⟩,⟨7,127,ib 40 8192 1 39 37⟩,⟨8,255,lb 41 1 40⟩,⟨9,511,kl 42 79 [(.t 41)]⟩,⟨10,1023,mt 32 42⟩,⟨11,2047,ee 43 32 0⟩,⟨12,2047,ee 44 32 1⟩,⟨13,2047,ee 45 32 2⟩,⟨14,2047,ee 46 32 3⟩,⟨15,2047,ee 47 32 4⟩,⟨16,2047,ee 48 32 5⟩,⟨17,2047,ee 49 32 6⟩,⟨18,4095,mt 5 43⟩,⟨19,270335,mt 6 44⟩,⟨20,802815,mt 7 45⟩,⟨21,1867775,mt 8 46⟩,⟨22,3997695,mt 9 47⟩,⟨23,8257535,mt 10 48⟩,⟨24,16777215,mt 11 49⟩]) (.seq (sr [mt 50 11,A1 51 (.un .not (.t 50))] (.cond (.t 51) (sr [mt 52 0,kl 53 214 [(.t 52),(cU 18446744073709551614)]] (sr [mn 4] .ret)) .skip)) (sr [mt 54 0,nc 55 54,fa 56 8192 55,mt 12 56] (sr [mt 57 12,mt 58 7,nc 59 57,ib 60 16 1 59 58,lb 61 1 60,mt 62 10,
  cVv 63 .u64 62,ak 64 .add 61 63,mt 13 64] (.seq (.block 0 (sr [mt 66 5,aI 67 .eql 66 0,mt 65 67] (.cond (.t 65) (sr [mt 68 0,mt 69 12,mt 70 7,nc 71 69,ib 72 16 1 71 70,lb 73 1 72,kl 74 214 [(.t 68),(.t 73)]] (sr [mn 4] .ret)) (sr [mt 76 5,aI 77 .lss 76 26,mt 75 77] (.cond (.t 75) (.regd [⟨2,0,mt 81 5⟩,⟨3,0,mt 82 12⟩,⟨4,0,mt 83 7⟩,⟨5,2,nc 84 82⟩,⟨6,14,ib 85 16 1 84 83⟩,⟨7,30,lb 86 1 85⟩,⟨8,0,mt 87 12⟩,⟨9,0,mt 88 8⟩,⟨10,64,nc 89 87⟩,⟨11,448,ib 90 16 1 89 88⟩,⟨12,960,lb 91 1 90⟩,⟨13,0,mt 92 12⟩,⟨14,0,mt 93 9⟩,⟨15,2048,nc 94 92⟩,⟨16,14336,ib 95 16 1 94 93⟩,⟨17,30720,lb 96 1 95⟩,⟨18,65535,kl 97 215 [(.t 81),(.t 86),(.t 91),(.t 96)]⟩,⟨0,0,mt 79 12⟩,⟨1,0,mt 80 6⟩,⟨19,131071,mt 78 97⟩,⟨20,655359,ee 98 78 0⟩,⟨22,131072,nc 100 79⟩,⟨23,4194303,ib 101 16 1 100 80⟩,⟨24,8388607,sb 1 101 98⟩,⟨21,655359,ee 99 78 1⟩]) (sr [mt 103 5,aI 104 .eql 103 26,mt 102 104] (.cond (.t 102) (.reg [mt 105 12,mt 106 6,mt 107 10,
  cVv 108 .u64 107,nc 109 105,ib 110 16 1 109 106,sb 1 110 108]) (sr [mt 112 5,aI 113 .eql 112 27,mt 114 113,mg 115 114 false 5,A2 116 114 false (.ari .eql (.t 115) (cI 28)),
  BV 117 114 116,mt 111 117] (.cond (.t 111) (.seq (sr [mt 118 13,
  aU 119 .geq 118 8192] (.cond (.t 119) (sr [mt 120 0,kl 121 214 [(.t 120),(cU 18446744073709551614)]] (sr [mn 4] .ret)) .skip)) (sr [mt 122 5,aI 123 .eql 122 27] (.cond (.t 123) (.regd [⟨0,0,mt 124 12⟩,⟨1,0,mt 125 6⟩,⟨2,0,mt 126 0⟩,⟨3,0,mt 127 13⟩,⟨4,4,nc 128 126⟩,⟨5,20,fa 129 0 128⟩,⟨6,60,ib 130 8192 1 129 127⟩,⟨7,124,lb 131 1 130⟩,⟨8,1,nc 132 124⟩,⟨9,511,ib 133 16 1 132 125⟩,⟨10,1023,sb 1 133 131⟩]) (.regd [⟨0,0,mt 134 0⟩,⟨1,0,mt 135 13⟩,⟨2,0,mt 136 12⟩,⟨3,0,mt 137 8⟩,⟨4,4,nc 138 136⟩,⟨5,28,ib 139 16 1 138 137⟩,⟨6,60,lb 140 1 139⟩,⟨7,1,nc 141 134⟩,⟨8,129,fa 142 0 141⟩,⟨9,511,ib 143 8192 1 142 135⟩,⟨10,1023,sb 1 143 140⟩])))) (sr [mt 145 5,aI 146 .lss 145 34,mt 144 146] (.cond (.t 144) (sr [mt 147 0,mt 148 5,mt 149 6,mt 150 7,mt 151 10,
  cVv 152 .u64 151,kl 153 216 [(.t 147),(.t 148),(.t 149),(.t 150),(.t 152)]] (sr [mn 4] .ret)) (.seq (.regd [⟨0,0,mt 155 0⟩,⟨1,0,mt 156 1⟩,⟨2,0,mt 157 5⟩,⟨3,0,mt 158 12⟩,⟨4,0,mt 159 7⟩,⟨5,8,nc 160 158⟩,⟨6,56,ib 161 16 1 160 159⟩,⟨7,120,lb 162 1 161⟩,⟨8,0,mt 163 12⟩,⟨9,0,mt 164 8⟩,⟨10,256,nc 165 163⟩,⟨11,1792,ib 166 16 1 165 164⟩,⟨12,3840,lb 167 1 166⟩,⟨13,8191,kl 168 217 [(.t 155),(.t 156),(.t 157),(.t 162),(.t 167)]⟩,⟨14,16383,A1 169 (.un .not (.t 168))⟩,⟨15,32767,mt 154 169⟩]) (.cond (.t 154) (sr [mn 4] .ret) .skip))))))))))))) (sr [mt 170 0,nc 171 170,fa 172 8208 171,lb 173 1 172,
  aU 174 .add 173 1,nc 175 170,fa 176 8208 175,sb 1 176 174] (sr [mn 4] .ret)))))))))))
def f70:LF:=⟨c70,2,0,177,[.tmp 4]⟩
def c71:LC:=(sr [mI 6 0,mn 7] (.seq (.block 0 (sr [mt 10 0,A1 11 (.eq false true .ptr (.t 10) (.c .nilp)),mt 12 11,mg 13 12 false 1,A2 14 12 false (.eq false true .ptr (.t 13) (.c .nilp)),
  BV 15 12 14,mt 9 15] (.cond (.t 9) (sr [A1 16 (.mkif 74 (cI 1)),
  mI 6 0,mt 7 16] .ret) (sr [mt 18 2,aI 19 .lss 18 0,mt 17 19] (.cond (.t 17) (sr [A1 20 (.mkif 74 (cI 2)),
  mI 6 0,mt 7 20] .ret) .skip))))) (sr [mI 8 0] (.seq (.block 1 (.loop (.seq (sr [mt 21 8,mt 22 2,ak 23 .lss 21 22,mt 24 23,mg 25 24 true 0,A2 26 24 true (.nilc (.t 25)),A2 27 24 true (.fadr 8209 (.t 26)),A2 28 24 true (.load false 1 (.t 27)),A2 29 24 true (.un .not (.t 28)),
  Fq 30 24 29]
 (Dd 30 1)) (.block 2 (sr [mt 31 0,mt 32 1,kl 33 70 [(.t 31),(.t 32)]] (.reg [mt 34 8,aI 35 .add 34 1,mt 8 35])))))) (sr [mt 36 8,mt 6 36,mn 7] .ret)))))
def f71:LF:=⟨c71,3,0,37,[.tmp 6,.tmp 7]⟩
def c76:LC:=(sr [mU 12 0,mn 13] (.seq (sr [mt 17 0,aI 18 .lss 17 0,mt 19 18,mg 20 19 false 0,A2 21 19 false (.ari .gtr (.t 20) (cI 35)),
  BV 22 19 21,mt 23 22,mg 24 23 false 5,mg 25 23 false 5,A2 26 23 false (.conv .i32 (.t 25)),A2 27 23 false (.conv .i64 (.t 26)),A2 28 23 false (.ari .neq (.t 24) (.t 27)),
  BV 29 23 28] (.cond (.t 29) (sr [A1 30 (.mkif 74 (cI 2)),
  mU 12 0,mt 13 30] .ret) .skip)) (sr [mt 31 0,
  cVv 32 .u64 31,mt 14 32] (.seq (sr [mt 33 1,mt 34 2,mt 35 3,mt 36 4,A1 37 (.bsl 1 4 (.int .i64) [(.i 1 0,1,(.t 33)),(.i 1 1,1,(.t 34)),(.i 1 2,1,(.t 35)),(.i 1 3,1,(.t 36))]),
  lN 38 0 37,
  mI 39 0] (.block 0 (.loop (sr [ak 40 .lss 39 38] (.seq (Dd 40 0) (.seq (.block 1 (sr [ia 41 1 37 39,lb 42 1 41,mt 16 42] (.seq (sr [mt 43 16,aI 44 .lss 43 0,mt 45 44,mg 46 45 false 16,A2 47 45 false (.ari .gtr (.t 46) (cI 15)),
  BV 48 45 47] (.cond (.t 48) (sr [A1 49 (.mkif 74 (cI 2)),
  mU 12 0,mt 13 49] .ret) .skip)) (.reg [mt 50 14,
  aU 51 .shl 50 4,mt 52 16,
  cVv 53 .u64 52,ak 54 .or 51 53,mt 14 54])))) (.reg [aI 55 .add 39 1,mt 39 55]))))))) (sr [mt 56 14,
  aU 57 .shl 56 40,mt 58 5,
  cVv 59 .u32 58,
  cVv 60 .u64 59,ak 61 .or 57 60,mt 12 61,mn 13] .ret)))))
def f76:LF:=⟨c76,6,0,62,[.tmp 12,.tmp 13]⟩
def c79:LC:=(sr [bX 1 0,
 mI 2 0,
 mI 3 0,
 mI 4 0,
 mI 5 0,
 mI 6 0,
 mI 7 0,A1 8 (.mv (.c (.bool false)))] (sr [lb 10 1 1,
  aU 11 .shr 10 56,
  cVv 12 .i64 11,mt 2 12] (.seq (sr [mt 13 2,aI 14 .gtr 13 35,mt 15 14,A2 16 15 false (.load false 1 (.t 1)),A2 17 15 false (.ari .shr (.t 16) (cU 32)),A2 18 15 false (.ari .and (.t 17) (cU 255)),A2 19 15 false (.ari .neq (.t 18) (cU 0)),
  BV 20 15 19] (.cond (.t 20) (sr [mI 2 0,
  mI 3 0,
  mI 4 0,
  mI 5 0,
  mI 6 0,
  mI 7 0,A1 8 (.mv (.c (.bool false)))] .ret) .skip)) (sr [A1 21 (.mkfn 220 [(.t 1)]),mt 9 21] (.seq (.regd [⟨1,0,mt 23 9⟩,⟨2,1,⟨(some 24),.dyn (.t 23) [(cI 52)],none⟩⟩,⟨3,0,mt 25 9⟩,⟨4,7,⟨(some 26),.dyn (.t 25) [(cI 48)],none⟩⟩,⟨5,0,mt 27 9⟩,⟨6,31,⟨(some 28),.dyn (.t 27) [(cI 44)],none⟩⟩,⟨7,0,mt 29 9⟩,⟨8,127,⟨(some 30),.dyn (.t 29) [(cI 40)],none⟩⟩,⟨0,0,mt 22 2⟩,⟨9,0,lb 31 1 1⟩,⟨10,512,cVv 32 .i32 31⟩,⟨11,1536,cVv 33 .i64 32⟩,⟨12,511,mt 2 22⟩,⟨13,4607,mt 3 24⟩,⟨14,12799,mt 4 26⟩,⟨15,29183,mt 5 28⟩,⟨16,61951,mt 6 30⟩,⟨17,131071,mt 7 33⟩,⟨18,262143,A1 8 (.mv (.c (.bool true)))⟩]) .ret)))))
def f79:LF:=⟨c79,1,0,34,[.tmp 2,.tmp 3,.tmp 4,.tmp 5,.tmp 6,.tmp 7,.tmp 8]⟩
def Aig:LC:=.reg [mt 4 0,mt 5 0,mt 6 1,nc 7 4,fa 8 8209 7,A0 (.store 1 (.t 8) (.c (.bool true))),nc 9 5,fa 10 8210 9,sb 1 10 6]
def Any:LF:=⟨Aig,2,0,11,[]⟩
def Age:LC:=(sr [mI 3 0] (sr [lb 4 1 1,mt 5 0,ak 6 .shr 4 5,
  aU 7 .and 6 15,
  cVv 8 .i64 7,mt 3 8] .ret))
def Afl:LF:=⟨Age,1,1,9,[.tmp 3]⟩
variable {M:Seat}
structure OkV (M:Seat):Prop extends OkS M where
 k70:Au M 70 f70=true
 k71:Au M 71 f71=true
 k79:Au M 79 f79=true
 k214:Au M 214 Any=true
 k220:Au M 220 Afl=true
 fn220:EC M 220
def CP (w:BitVec 64):Nat:=(w >>> 56).toNat
def pF (w:BitVec 64) (k:Nat):Nat:=(w >>> k &&& 15#64).toNat
def pN (w:BitVec 64):Int:=(w.setWidth 32).toInt
theorem Lw (w:BitVec 64):(w >>> 56).toInt=(CP w:Int):=by
 have h:(w >>> 56).toNat < 256:=by rw [BitVec.toNat_ushiftRight,Nat.shiftRight_eq_div_pow];have:=w.isLt;omega
 rw [BitVec.toInt_eq_toNat_cond,if_pos Aa];rfl
theorem A5 (w:BitVec 64) (k:Nat):pF w k < 16:=by
 rw [pF,BitVec.toNat_and]
 exact Nat.lt_of_le_of_lt Nat.and_le_right Am
theorem Ab7 (w:BitVec 64) (k:Nat):(w >>> k &&& 15#64).toInt=(pF w k:Int):=by
 have h:=A5 w k
 rw [BitVec.toInt_eq_toNat_cond,if_pos (by unfold pF at h;omega)];rfl
theorem RU (ok:OkV M) (f g:Nat→BitVec 64) (pc:BitVec 64) (hl:Bool) (xt e:BitVec 64) :
 Ag M 214 [.ptr 0 [],W e] [(0,A3 f g pc hl xt)] 1 (Q3 (.tup .fnil) [(0,A3 f g pc true e)] 1):=by
 refine Ab ok.k214 rfl fun x hx=>?_
 refine es 2000 ?_;(simp only [Any,Aig,Zt,seval])
 refine Rv hx [0] (.tup .fnil) ([(0,A3 f g pc true e)]) 1 ?_
 all_goals simp only [A3,LY,seval]
theorem Eu (ok:OkV M) (w:BitVec 64) (k:Nat):Ag M 220 [.int .i64 k,.imm (W w)] [] 0 (Q3 (.int .i64 (pF w k:Nat)) [] 0):=by
 refine Ab ok.k220 rfl fun x hx=>?_
 refine es 2000 ?_;(simp only [Afl,Age,LZ,seval])
 simp only [Ab7]
 repeat refine sd ?_
 refine Ar.mk hx [] [] (.int .i64 (pF w k:Nat)) [] 0 Am (by (simp only [CU,seval])) (by (try simp only [OJ,seval]) <;> exact q2) trivial ⟨rfl,rfl,rfl⟩
def BB (w:BitVec 64):V:=.tup (.fcons 0 (.int .i64 (CP w)) (.fcons 1 (.int .i64 (pF w 52)) (.fcons 2 (.int .i64 (pF w 48)) (.fcons 3 (.int .i64 (pF w 44)) (.fcons 4 (.int .i64 (pF w 40)) (.fcons 5 (.int .i64 (pN w)) (.fcons 6 (.bool true) .fnil)))))))
def Mx:=(Bb @LZ @BB.eq_1)
theorem AO (ok:OkV M) (w:BitVec 64) (h1:CP w≤35) (h2:w >>> 32 &&& 255#64=0#64):Ag M 79 [W w] [] 0 (Q3 (BB w) [] 0):=by
 refine Ab ok.k79 rfl fun x hx=>?_
 have e1:((35:Int) < (CP w:Int))=False:=eq_false Aa
 refine es 2000 ?_;(simp only [f79,c79,Lw,e1,h2,LZ,seval])
 have wn:IntKind.i64.wrap (w.setWidth 32).toInt=pN w:=by
  have h1:=BitVec.toInt_lt (x:=w.setWidth 32)
  have h2:=BitVec.le_toInt (x:=w.setWidth 32)
  rw [AY Aa];rfl
 refine oyK (ok.fn220) (Eu ok w 52) (by (try simp only [LY,seval]) <;> exact q1) (by simp only [LX]) ?_
 (simp only [LZ,seval])
 refine oyK (ok.fn220) (Eu ok w 48) (by (try simp only [LY,seval]) <;> exact q1) (by simp only [LX]) ?_
 (simp only [LZ,seval])
 refine oyK (ok.fn220) (Eu ok w 44) (by (try simp only [LY,seval]) <;> exact q1) (by simp only [LX]) ?_
 (simp only [LZ,seval])
 refine oyK (ok.fn220) (Eu ok w 40) (by (try simp only [LY,seval]) <;> exact q1) (by simp only [LX]) ?_
 (simp only [wn,LZ,seval])
 refine Ar.mk hx [] [] (BB w) [] 0 Am (by simp only [Laj,G5,LZ,seval]) ?_ trivial ⟨rfl,rfl,rfl⟩
 simp only [Mx,Dz,DC,FY,seval,LY]
theorem Jl (ok:OkV M) (f g:Nat→BitVec 64) (pc xt:BitVec 64) (hpc:¬ 8192#64≤pc) (w:BitVec 64) (hw:f pc.toNat=w) (hop:CP w=28) (h2:w >>> 32 &&& 255#64=0#64) (wh:BitVec 64) (hwh:g (pF w 48) + BitVec.ofInt 64 (pN w)=wh) (hlt:¬ 8192#64≤wh) :
 Ag M 70 [.ptr 0 [],.ptr 1 []] [(0,A3 f g pc false xt)] 2 (Q3 .nili [(0,A3 (FI f wh.toNat (g (pF w 44))) g (pc + 1#64) false xt)] 2):=by
 refine Ab ok.k70 rfl fun x hx=>?_
 have hp:pc.toNat < 8192:=YU
 have a1:=A5 w 52
 have a2:=A5 w 48
 have a3:=A5 w 44
 have a4:=A5 w 40
 have hp2:wh.toNat < 8192:=by rw [BitVec.le_def] at hlt;simpa using hlt
 refine es 2000 ?_;(simp only [f70,c70,Zt,hpc,hw,seval])
 repeat refine sd ?_
 have zz:=@BB.eq_1;refine G0 (AO ok w Aa h2) ?_
 (simp only [Mx,hop,hlt,hwh,seval])
 repeat refine sd ?_
 refine Rv hx [0,1] (.nili) ([(0,A3 (FI f wh.toNat (g (pF w 44))) g (pc + 1#64) false xt)]) 2 ?_
 all_goals simp only [A3,Zh,LY,seval]
theorem Np (ok:OkV M) (f g:Nat→BitVec 64) (pc xt:BitVec 64) (hpc:¬ 8192#64≤pc) (w:BitVec 64) (hw:f pc.toNat=w) (hop:CP w=26) (h2:w >>> 32 &&& 255#64=0#64) :
 Ag M 70 [.ptr 0 [],.ptr 1 []] [(0,A3 f g pc false xt)] 2 (Q3 .nili [(0,A3 f (FI g (pF w 52) (BitVec.ofInt 64 (pN w))) (pc + 1#64) false xt)] 2):=by
 refine Ab ok.k70 rfl fun x hx=>?_
 have hp:pc.toNat < 8192:=YU
 have a1:=A5 w 52
 have a2:=A5 w 48
 have a3:=A5 w 44
 have a4:=A5 w 40
 refine es 2000 ?_;(simp only [f70,c70,Zt,hpc,hw,seval])
 repeat refine sd ?_
 have zz:=@BB.eq_1;refine G0 (AO ok w Aa h2) ?_
 (simp only [Mx,hop,seval])
 repeat refine sd ?_
 refine Rv hx [0,1] (.nili) ([(0,A3 f (FI g (pF w 52) (BitVec.ofInt 64 (pN w))) (pc + 1#64) false xt)]) 2 ?_
 all_goals simp only [A3,Zh,LY,seval]
theorem Aky (ok:OkV M) (f g:Nat→BitVec 64) (pc xt:BitVec 64) (hpc:¬ 8192#64≤pc) (w:BitVec 64) (hw:f pc.toNat=w) (hop:CP w=0) (h2:w >>> 32 &&& 255#64=0#64) :
 Ag M 70 [.ptr 0 [],.ptr 1 []] [(0,A3 f g pc false xt)] 2 (Q3 .nili [(0,A3 f g pc true (g (pF w 48)))] 2):=by
 refine Ab ok.k70 rfl fun x hx=>?_
 have hp:pc.toNat < 8192:=YU
 have a1:=A5 w 52
 have a2:=A5 w 48
 have a3:=A5 w 44
 have a4:=A5 w 40
 refine es 2000 ?_;(simp only [f70,c70,Zt,hpc,hw,seval])
 repeat refine sd ?_
 have zz:=@BB.eq_1;refine G0 (AO ok w Aa h2) ?_
 (simp only [Mx,hop,seval])
 repeat refine sd ?_
 have zz:=@A3.eq_1;refine SM [0] (RU ok f g pc false xt (g (pF w 48))) ?_
 (simp only [Zt,seval])
 refine Rv hx [0,1] (.nili) ([(0,A3 f g pc true (g (pF w 48)))]) 2 ?_
 all_goals simp only [A3,Zh,LY,seval]
structure Mc where
 f:Nat→BitVec 64
 g:Nat→BitVec 64
 pc:BitVec 64
 hl:Bool
 xt:BitVec 64
def Mc.v (m:Mc):V:=A3 m.f m.g m.pc m.hl m.xt
def Mz (M:Seat) (m m':Mc):Prop:=Ag M 70 [.ptr 0 [],.ptr 1 []] [(0,m.v)] 2 (Q3 .nili [(0,m'.v)] 2)
theorem Amw {M:Seat} (ok:OkV M) (ms:Nat→Mc) (k n:Nat) (hk:k≤n) (hn:n < 9223372036854775808) (hs:∀ i,i < k→(ms i).hl=false∧Mz M (ms i) (ms (i + 1))) (he:(ms k).hl=true ∨ k=n) :
 Ag M 71 [.ptr 0 [],.ptr 1 [],.int .i64 n] [(0,(ms 0).v)] 2 (Q3 (Ah (.int .i64 k) .nili) [(0,(ms k).v)] 2):=by
 refine Ab ok.k71 rfl fun x hx=>?_
 have e0:((n:Int) < 0)=False:=eq_false Aa
 have hS:∀ (m:Mc) H a z,Az H a z m.v m.v:=fun m H a z=>by simp only [Mc.v,A3,LY,seval]
 have hN:∀ m:Mc,AC m.v:=fun m=>by simp only [Mc.v,A3,AC,UL,implies_true,and_self]
 have hR:∀ (m:Mc) a,m.v.ren a=m.v:=fun m a=>rfl
 refine es 2000 ?_;(simp only [f71,c71,e0,LZ,seval])
 refine An (σ:=Nat) (fun i=>i≤k) (fun i=>fr 37 [(0,.ptr 0 []),(1,.ptr 1 []),(2,.int .i64 n),(8,.int .i64 i)]) (fun i=>[(0,(ms i).v)]) (fun _=>2) (fun i=>k - i) 0 Aa ?_ ?_
 ·refine Ao.fr [0,1] [] hx AQ Am ?_ ?_
  ·simp only [LY,seval]
  ·simp only [hS,LY,seval]
 ·intro i hi
  refine es 2000 ?_
  by_cases hik:i=k
  ·subst hik
   rcases he with he | he
   ·by_cases hin:i < n
    ·have d0:((i:Int) < (n:Int))=True:=eq_true Aa
     (simp only [d0,Mc.v,Zt,he,seval])
     have zz:=C4 @Mc.v.eq_1 @A3.eq_1 he;exact Bf hx [0,1] ⟨rfl,rfl,rfl⟩
    ·have d0:((i:Int) < (n:Int))=False:=eq_false Aa
     (simp only [d0,Mc.v,Zt,seval])
     have zz:=Bb @Mc.v.eq_1 @A3.eq_1;exact Bf hx [0,1] ⟨rfl,rfl,rfl⟩
   ·have d0:((i:Int) < (n:Int))=False:=eq_false Aa
    (simp only [d0,Mc.v,Zt,seval])
    have zz:=Bb @Mc.v.eq_1 @A3.eq_1;exact Bf hx [0,1] ⟨rfl,rfl,rfl⟩
  ·obtain ⟨h1,h2⟩:=hs i Aa
   have d0:((i:Int) < (n:Int))=True:=eq_true Aa
   have w0:IntKind.i64.wrap ((i:Int) + 1)=((i + 1:Nat):Int):=AZ
   have hv:(ms i).v=A3 (ms i).f (ms i).g (ms i).pc (ms i).hl (ms i).xt:=rfl
   rw [hv]
   (simp only [d0,Zt,h1,seval])
   have hst:=h2
   unfold Mz at hst
   rw [hv,h1] at hst
   have zz:=Bb @A3.eq_1 hN;refine Om [0,1] [0] (hst) ?_
   (simp only [hR,w0,LZ,seval])
   refine ⟨i + 1,by omega,by omega,?_⟩
   refine Ao.fr [0,1] [] hx AQ Am ?_ ?_
   ·simp only [LY,seval]
   ·simp only [hS,LY,seval]
structure OkI (M:Seat):Prop extends OkV M where
 k76:Au M 76 f76=true
def QJ (op:Int) (d a b c:Nat) (n:Int):BitVec 64 :=
 (((((BitVec.ofInt 64 op <<< 4 ||| BitVec.ofInt 64 d) <<< 4 ||| BitVec.ofInt 64 a) <<< 4 ||| BitVec.ofInt 64 b) <<< 4 ||| BitVec.ofInt 64 c) <<< 40) ||| BitVec.ofInt 64 (IntKind.u32.wrap n)
theorem Fg {M:Seat} (ok:OkI M) (op:Int) (d a b c:Nat) (n:Int) (hd:d < 16) (ha:a < 16) (hb:b < 16) (hc:c < 16) (h1:0≤op∧op≤35) (h2:-2147483648≤n∧n < 2147483648) :
 Ag M 76 [.int .i64 op,.int .i64 d,.int .i64 a,.int .i64 b,.int .i64 c,.int .i64 n] [] 0 (Q3 (Ah (W (QJ op d a b c n)) .nili) [] 0):=by
 refine Ab ok.k76 rfl fun x hx=>?_
 have l1:∀ q:Nat,q < 16→(((q:Int) < 0)=False):=fun q _=>eq_false Aa
 have l2:∀ q:Nat,q < 16→((15:Int) < (q:Int))=False:=fun q h=>eq_false Aa
 have w1:IntKind.i64.wrap 1=1:=rfl
 have w2:IntKind.i64.wrap 2=2:=rfl
 have w3:IntKind.i64.wrap 3=3:=rfl
 have w4:IntKind.i64.wrap 4=4:=rfl
 have e1:(op < 0)=False:=eq_false Aa
 have e2:((35:Int) < op)=False:=eq_false Aa
 have e3:IntKind.i64.wrap (IntKind.i32.wrap n)=n:=by
  have:IntKind.i32.wrap n=n:=by
   have e:IntKind.i32.wrap n=if n % 4294967296 ≥ 2147483648 then n % 4294967296 - 4294967296 else n % 4294967296:=Amt
   rw [e];split <;> omega
  rw [this,AY Aa]
 refine es 2000 ?_;(simp only [f76,c76,e1,e2,e3,LZ,seval])
 refine AW ?_
 refine es 2000 ?_
 (simp only [l1 d hd,l2 d hd,w1,w2,w3,w4,LZ,seval])
 repeat refine sd ?_
 refine AW ?_
 refine es 2000 ?_
 (simp only [l1 a ha,l2 a ha,w1,w2,w3,w4,LZ,seval])
 repeat refine sd ?_
 refine AW ?_
 refine es 2000 ?_
 (simp only [l1 b hb,l2 b hb,w1,w2,w3,w4,LZ,seval])
 repeat refine sd ?_
 refine AW ?_
 refine es 2000 ?_
 (simp only [l1 c hc,l2 c hc,w1,w2,w3,w4,LZ,seval])
 repeat refine sd ?_
 refine AW ?_
 refine es 2000 ?_
 (simp only [LZ,seval])
 have zz:=@QJ.eq_1;exact Bf hx [] ⟨rfl,rfl,rfl⟩
end Mv
