/- A part. -/
import Derived.Test.YtlfkjfonpacelaaGreatDoorIU
set_option linter.all false
set_option maxRecDepth 20000
set_option maxHeartbeats 4000000
namespace Mv
open Go
def Sb:LC:=(sr [mn 4] (.seq (sr [mt 14 0,A1 15 (.eq false true .ptr (.t 14) (.c .nilp)),mt 16 15,mg 17 16 false 1,A2 18 16 false (.eq false true .ptr (.t 17) (.c .nilp)),
  CQ 19 16 18] (.cond (.t 19) (sr [A1 20 (.mkif 74 (cI 1)),mt 4 20] .ret) .skip)) (.seq (sr [mt 21 0,nc 22 21,fa 23 8209 22,lb 24 1 23] (.cond (.t 24) (sr [mn 4] .ret) .skip)) (.seq (sr [mt 25 0,nc 26 25,fa 27 8208 26,lb 28 1 27,
  aU 29 .geq 28 8192] (.cond (.t 29) (sr [mt 30 0,kl 31 214 [(.t 30),(cU 18446744073709551614)]] (sr [mn 4] .ret)) .skip)) (.seq (.regd [⟨0,0,mt 33 0⟩,⟨1,0,mt 34 0⟩,⟨2,2,nc 35 34⟩,⟨3,6,fa 36 8208 35⟩,⟨4,14,lb 37 1 36⟩,⟨5,1,nc 38 33⟩,⟨6,33,fa 39 0 38⟩,⟨7,127,ib 40 8192 1 39 37⟩,⟨8,255,lb 41 1 40⟩,⟨9,511,kl 42 79 [(.t 41)]⟩,⟨10,1023,mt 32 42⟩,⟨11,2047,ee 43 32 0⟩,⟨12,2047,ee 44 32 1⟩,⟨13,2047,ee 45 32 2⟩,⟨14,2047,ee 46 32 3⟩,⟨15,2047,ee 47 32 4⟩,⟨16,2047,ee 48 32 5⟩,⟨17,2047,ee 49 32 6⟩,⟨18,4095,mt 5 43⟩,⟨19,270335,mt 6 44⟩,⟨20,802815,mt 7 45⟩,⟨21,1867775,mt 8 46⟩,⟨22,3997695,mt 9 47⟩,⟨23,8257535,mt 10 48⟩,⟨24,16777215,mt 11 49⟩]) (.seq (sr [mt 50 11,A1 51 (.un .not (.t 50))] (.cond (.t 51) (sr [mt 52 0,kl 53 214 [(.t 52),(cU 18446744073709551614)]] (sr [mn 4] .ret)) .skip)) (sr [mt 54 0,nc 55 54,fa 56 8192 55,mt 12 56] (sr [mt 57 12,mt 58 7,nc 59 57,ib 60 16 1 59 58,lb 61 1 60,mt 62 10,
  DL 63 .u64 62,ak 64 .add 61 63,mt 13 64] (.seq (.block 0 (sr [mt 66 5,aI 67 .eql 66 0,mt 65 67] (.cond (.t 65) (sr [mt 68 0,mt 69 12,mt 70 7,nc 71 69,ib 72 16 1 71 70,lb 73 1 72,kl 74 214 [(.t 68),(.t 73)]] (sr [mn 4] .ret)) (sr [mt 76 5,aI 77 .lss 76 26,mt 75 77] (.cond (.t 75) (.regd [⟨2,0,mt 81 5⟩,⟨3,0,mt 82 12⟩,⟨4,0,mt 83 7⟩,⟨5,2,nc 84 82⟩,⟨6,14,ib 85 16 1 84 83⟩,⟨7,30,lb 86 1 85⟩,⟨8,0,mt 87 12⟩,⟨9,0,mt 88 8⟩,⟨10,64,nc 89 87⟩,⟨11,448,ib 90 16 1 89 88⟩,⟨12,960,lb 91 1 90⟩,⟨13,0,mt 92 12⟩,⟨14,0,mt 93 9⟩,⟨15,2048,nc 94 92⟩,⟨16,14336,ib 95 16 1 94 93⟩,⟨17,30720,lb 96 1 95⟩,⟨18,65535,kl 97 215 [(.t 81),(.t 86),(.t 91),(.t 96)]⟩,⟨0,0,mt 79 12⟩,⟨1,0,mt 80 6⟩,⟨19,131071,mt 78 97⟩,⟨20,655359,ee 98 78 0⟩,⟨22,131072,nc 100 79⟩,⟨23,4194303,ib 101 16 1 100 80⟩,⟨24,8388607,sb 1 101 98⟩,⟨21,655359,ee 99 78 1⟩]) (sr [mt 103 5,aI 104 .eql 103 26,mt 102 104] (.cond (.t 102) (.reg [mt 105 12,mt 106 6,mt 107 10,
  DL 108 .u64 107,nc 109 105,ib 110 16 1 109 106,sb 1 110 108]) (sr [mt 112 5,aI 113 .eql 112 27,mt 114 113,mg 115 114 false 5,A2 116 114 false (.ari .eql (.t 115) (cI 28)),
  CQ 117 114 116,mt 111 117] (.cond (.t 111) (.seq (sr [mt 118 13,
  aU 119 .geq 118 8192] (.cond (.t 119) (sr [mt 120 0,kl 121 214 [(.t 120),(cU 18446744073709551614)]] (sr [mn 4] .ret)) .skip)) (sr [mt 122 5,aI 123 .eql 122 27] (.cond (.t 123) (.regd [⟨0,0,mt 124 12⟩,⟨1,0,mt 125 6⟩,⟨2,0,mt 126 0⟩,⟨3,0,mt 127 13⟩,⟨4,4,nc 128 126⟩,⟨5,20,fa 129 0 128⟩,⟨6,60,ib 130 8192 1 129 127⟩,⟨7,124,lb 131 1 130⟩,⟨8,1,nc 132 124⟩,⟨9,511,ib 133 16 1 132 125⟩,⟨10,1023,sb 1 133 131⟩]) (.regd [⟨0,0,mt 134 0⟩,⟨1,0,mt 135 13⟩,⟨2,0,mt 136 12⟩,⟨3,0,mt 137 8⟩,⟨4,4,nc 138 136⟩,⟨5,28,ib 139 16 1 138 137⟩,⟨6,60,lb 140 1 139⟩,⟨7,1,nc 141 134⟩,⟨8,129,fa 142 0 141⟩,⟨9,511,ib 143 8192 1 142 135⟩,⟨10,1023,sb 1 143 140⟩])))) (sr [mt 145 5,aI 146 .lss 145 34,mt 144 146] (.cond (.t 144) (sr [mt 147 0,mt 148 5,mt 149 6,mt 150 7,mt 151 10,
  DL 152 .u64 151,kl 153 216 [(.t 147),(.t 148),(.t 149),(.t 150),(.t 152)]] (sr [mn 4] .ret)) (.seq (.regd [⟨0,0,mt 155 0⟩,⟨1,0,mt 156 1⟩,⟨2,0,mt 157 5⟩,⟨3,0,mt 158 12⟩,⟨4,0,mt 159 7⟩,⟨5,8,nc 160 158⟩,⟨6,56,ib 161 16 1 160 159⟩,⟨7,120,lb 162 1 161⟩,⟨8,0,mt 163 12⟩,⟨9,0,mt 164 8⟩,⟨10,256,nc 165 163⟩,⟨11,1792,ib 166 16 1 165 164⟩,⟨12,3840,lb 167 1 166⟩,⟨13,8191,kl 168 217 [(.t 155),(.t 156),(.t 157),(.t 162),(.t 167)]⟩,⟨14,16383,A1 169 (.un .not (.t 168))⟩,⟨15,32767,mt 154 169⟩]) (.cond (.t 154) (sr [mn 4] .ret) .skip))))))))))))) (sr [mt 170 0,nc 171 170,fa 172 8208 171,lb 173 1 172,
  aU 174 .add 173 1,nc 175 170,fa 176 8208 175,sb 1 176 174] (sr [mn 4] .ret)))))))))))
def Se:LF:=⟨Sb,2,0,177,[.tmp 4]⟩
def c71:LC:=(sr [mI 6 0,mn 7] (.seq (.block 0 (sr [mt 10 0,A1 11 (.eq false true .ptr (.t 10) (.c .nilp)),mt 12 11,mg 13 12 false 1,A2 14 12 false (.eq false true .ptr (.t 13) (.c .nilp)),
  CQ 15 12 14,mt 9 15] (.cond (.t 9) (sr [A1 16 (.mkif 74 (cI 1)),
  mI 6 0,mt 7 16] .ret) (sr [mt 18 2,aI 19 .lss 18 0,mt 17 19] (.cond (.t 17) (sr [A1 20 (.mkif 74 (cI 2)),
  mI 6 0,mt 7 20] .ret) .skip))))) (sr [mI 8 0] (.seq (.block 1 (.loop (.seq (sr [mt 21 8,mt 22 2,ak 23 .lss 21 22,mt 24 23,mg 25 24 true 0,A2 26 24 true (.nilc (.t 25)),A2 27 24 true (.fadr 8209 (.t 26)),A2 28 24 true (.load false 1 (.t 27)),A2 29 24 true (.un .not (.t 28)),
  HR 30 24 29]
 (DJ 30 1)) (.block 2 (sr [mt 31 0,mt 32 1,kl 33 70 [(.t 31),(.t 32)]] (.reg [mt 34 8,aI 35 .add 34 1,mt 8 35])))))) (sr [mt 36 8,mt 6 36,mn 7] .ret)))))
def f71:LF:=⟨c71,3,0,37,[.tmp 6,.tmp 7]⟩
def c75:LC:=(sr [A1 2 (.mv (.c .nils))] (sr [A1 3 (.mv (.c .nils))] (.seq (sr [mt 8 0,
  lN 9 0 8,
  mI 10 0] (.block 0 (.loop (sr [ak 11 .lss 10 9] (.seq (DJ 11 0) (.seq (.block 1 (sr [mt 12 10,ia 13 7 8 10,la 14 7 13,A1 5 (.alloc (.st (.cons zI (.cons zI (.cons zI (.cons zI (.cons zI (.cons zI (.cons zU .nil))))))))),mt 4 12,sb 7 5 14] (.seq (sr [mt 15 4,aI 16 .geq 15 8192] (.cond (.t 16) (.exit 0) .skip)) (sr [fa 18 0 5,lb 19 1 18,fa 20 1 5,lb 21 1 20,
  DL 22 .u64 21,
  aU 23 .rem 22 16,
  DL 24 .i64 23,fa 25 2 5,lb 26 1 25,
  DL 27 .u64 26,
  aU 28 .rem 27 16,
  DL 29 .i64 28,fa 30 3 5,lb 31 1 30,
  DL 32 .u64 31,
  aU 33 .rem 32 16,
  DL 34 .i64 33,fa 35 4 5,lb 36 1 35,
  DL 37 .u64 36,
  aU 38 .rem 37 16,
  DL 39 .i64 38,fa 40 5 5,lb 41 1 40,kl 42 77 [(.t 19),(.t 24),(.t 29),(.t 34),(.t 39),(.t 41)],mt 17 42,ee 43 17 0,ee 44 17 1,mt 6 43,mt 7 44] (.seq (sr [mt 45 7,aI 46 .neq 45 0] (.cond (.t 46) (.reg [fa 47 6 5,lb 48 1 47,mt 6 48]) .skip)) (.reg [mt 49 3,mt 50 6,A1 51 (.bsl 1 1 zU [(.i 1 0,1,(.t 50))]),
  aP 52 1 8 49 51,mt 3 52])))))) (.reg [aI 53 .add 10 1,mt 10 53]))))))) (sr [mt 54 3,mt 2 54] .ret))))
def f75:LF:=⟨c75,1,0,55,[.tmp 2]⟩
def c77:LC:=(sr [mU 12 0,
 mI 13 0] (sr [mt 17 0,
  DL 18 .u64 17,mt 14 18] (sr [mt 19 1,mt 20 2,mt 21 3,mt 22 4,A1 23 (.bsl 1 4 zI [(.i 1 0,1,(.t 19)),(.i 1 1,1,(.t 20)),(.i 1 2,1,(.t 21)),(.i 1 3,1,(.t 22))]),mt 15 23] (.seq (sr [mI 16 0] (.block 0 (.loop (.seq (sr [mt 24 16,aI 25 .lss 24 4]
 (DJ 25 0)) (.seq (.block 1 (.seq (sr [mt 28 15,mt 29 16,ia 30 1 28 29,lb 31 1 30,aI 32 .lss 31 0,mt 33 32,mg 34 33 false 15,mg 35 33 false 16,A2 36 33 false (.isl 1 (.t 34) (.t 35)),A2 37 33 false (.load false 1 (.t 36)),A2 38 33 false (.ari .gtr (.t 37) (cI 15)),
  CQ 39 33 38] (.cond (.t 39) (sr [mU 12 0,
  mI 13 2] .ret) .skip)) (.reg [mt 40 14,
  aU 41 .mul 40 16,mt 42 15,mt 43 16,ia 44 1 42 43,lb 45 1 44,
  DL 46 .u64 45,ak 47 .add 41 46,mt 14 47]))) (.reg [mt 26 16,aI 27 .add 26 1,mt 16 27])))))) (.seq (sr [mt 48 0,aI 49 .lss 48 0,mt 50 49,mg 51 50 false 0,A2 52 50 false (.ari .gtr (.t 51) (cI 35)),
  CQ 53 50 52,mt 54 53,mg 55 54 false 5,A2 56 54 false (.ari .lss (.t 55) (.c (.int .i64 (-2147483648)))),
  CQ 57 54 56,mt 58 57,mg 59 58 false 5,A2 60 58 false (.ari .geq (.t 59) (cI 2147483648)),
  CQ 61 58 60] (.cond (.t 61) (sr [mU 12 0,
  mI 13 2] .ret) .skip)) (sr [mt 62 14,
  aU 63 .mul 62 1099511627776,mt 64 5,
  DL 65 .u64 64,
  aU 66 .and 65 4294967295,ak 67 .add 63 66,mt 12 67,
  mI 13 0] .ret))))))
def f77:LF:=⟨c77,6,0,68,[.tmp 12,.tmp 13]⟩
def c79:LC:=(sr [bX 1 0,
 mI 2 0,
 mI 3 0,
 mI 4 0,
 mI 5 0,
 mI 6 0,
 mI 7 0,A1 8 (.mv (.c (.bool false)))] (sr [lb 10 1 1,
  aU 11 .shr 10 56,
  DL 12 .i64 11,mt 2 12] (.seq (sr [mt 13 2,aI 14 .gtr 13 35,mt 15 14,A2 16 15 false (.load false 1 (.t 1)),A2 17 15 false (.ari .shr (.t 16) (cU 32)),A2 18 15 false (.ari .and (.t 17) (cU 255)),A2 19 15 false (.ari .neq (.t 18) (cU 0)),
  CQ 20 15 19] (.cond (.t 20) (sr [mI 2 0,
  mI 3 0,
  mI 4 0,
  mI 5 0,
  mI 6 0,
  mI 7 0,A1 8 (.mv (.c (.bool false)))] .ret) .skip)) (sr [A1 21 (.mkfn 220 [(.t 1)]),mt 9 21] (.seq (.regd [⟨1,0,mt 23 9⟩,⟨2,1,⟨(some 24),.dyn (.t 23) [(cI 52)],none⟩⟩,⟨3,0,mt 25 9⟩,⟨4,7,⟨(some 26),.dyn (.t 25) [(cI 48)],none⟩⟩,⟨5,0,mt 27 9⟩,⟨6,31,⟨(some 28),.dyn (.t 27) [(cI 44)],none⟩⟩,⟨7,0,mt 29 9⟩,⟨8,127,⟨(some 30),.dyn (.t 29) [(cI 40)],none⟩⟩,⟨0,0,mt 22 2⟩,⟨9,0,lb 31 1 1⟩,⟨10,512,DL 32 .i32 31⟩,⟨11,1536,DL 33 .i64 32⟩,⟨12,511,mt 2 22⟩,⟨13,4607,mt 3 24⟩,⟨14,12799,mt 4 26⟩,⟨15,29183,mt 5 28⟩,⟨16,61951,mt 6 30⟩,⟨17,131071,mt 7 33⟩,⟨18,262143,A1 8 (.mv (.c (.bool true)))⟩]) .ret)))))
def f79:LF:=⟨c79,1,0,34,[.tmp 2,.tmp 3,.tmp 4,.tmp 5,.tmp 6,.tmp 7,.tmp 8]⟩
def Asw:LC:=.reg [mt 4 0,mt 5 0,mt 6 1,nc 7 4,fa 8 8209 7,A0 (.store 1 (.t 8) (.c (.bool true))),nc 9 5,fa 10 8210 9,sb 1 10 6]
def As9:LF:=⟨Asw,2,0,11,[]⟩
def As5:LC:=(sr [mt 11 0,nc 12 11,fa 13 8192 12,mt 10 13] (.seq (sr [mt 14 1] (.block 0 (.seq (sr [aI 16 .eql 14 30,mt 15 16] (.cond (.t 15) .skip (.reg [aI 17 .eql 14 31,mt 15 17]))) (.cond (.t 15) (sr [mt 18 10,mt 19 3,nc 20 18,ib 21 16 1 20 19,lb 22 1 21,
  aU 23 .eql 22 0,mt 24 1,aI 25 .eql 24 30,A1 26 (.eq true false .bool (.t 23) (.t 25))] (.cond (.t 26) (sr [mt 27 0,nc 28 27,fa 29 8208 28,lb 30 1 29,
  aU 31 .add 30 1,nc 32 27,fa 33 8208 32,sb 1 33 31] .ret) .skip)) (sr [aI 35 .eql 14 33,mt 34 35] (.cond (.t 34) (.reg [mt 36 10,mt 37 3,nc 38 36,ib 39 16 1 38 37,lb 40 1 39,mt 4 40]) .skip)))))) (.seq (sr [mt 41 4,
  aU 42 .geq 41 8192] (.cond (.t 42) (sr [mt 43 0,kl 44 214 [(.t 43),(cU 18446744073709551614)]] .ret) .skip)) (.seq (sr [mt 45 1,aI 46 .eql 45 32] (.cond (.t 46) (.regd [⟨0,0,mt 47 10⟩,⟨1,0,mt 48 2⟩,⟨2,0,mt 49 0⟩,⟨3,4,nc 50 49⟩,⟨4,12,fa 51 8208 50⟩,⟨5,28,lb 52 1 51⟩,⟨6,60,aU 53 .add 52 1⟩,⟨7,1,nc 54 47⟩,⟨8,255,ib 55 16 1 54 48⟩,⟨9,511,sb 1 55 53⟩]) .skip)) (.reg [mt 56 0,mt 57 4,nc 58 56,fa 59 8208 58,sb 1 59 57])))))
def Asj:LF:=⟨As5,5,0,60,[]⟩
def OU:LC:=(sr [A1 10 (.mv (.c (.bool false)))] (sr [mU 11 8,
  mU 12 4] (.seq (sr [mt 22 2,aI 23 .eql 22 35] (.cond (.t 23) (.reg [mU 11 4,
  mU 12 8]) .skip)) (.seq (sr [mt 24 3,mt 25 11,kl 26 326 [(.t 24),(.t 25)],A1 27 (.un .not (.t 26)),mt 28 27,mg 29 28 false 4,mg 30 28 false 12,⟨(some 31),.call 326 [(.t 29),(.t 30)],(some (28,false))⟩,A2 32 28 false (.un .not (.t 31)),
  CQ 33 28 32] (.cond (.t 33) (sr [mt 34 0,kl 35 214 [(.t 34),(cU 18446744073709551614)]] (sr [A1 10 (.mv (.c (.bool false)))] .ret)) .skip)) (sr [A1 13 (.mv (.c .nils))] (.seq (sr [mt 36 0,nc 37 36,fa 38 0 37,mt 39 3,mt 40 3,mt 41 11,ak 42 .add 40 41,A1 43 (.slarr 8192 1 (.t 38) (some (.t 39)) (some (.t 42))),
  lN 44 0 43,
  mI 45 0] (.block 0 (.loop (sr [ak 46 .lss 45 44] (.seq (DJ 46 0) (.seq (.block 1 (sr [ia 47 1 43 45,lb 48 1 47,mt 15 48] (.reg [mt 49 13,mt 50 15,kl 51 327 [(.t 49),(.t 50)],mt 13 51]))) (.reg [aI 52 .add 45 1,mt 45 52]))))))) (sr [A1 16 (.mv (.c .nils))] (.seq (sr [mt 53 2,aI 54 .eql 53 34] (.cond (.t 54) (sr [mt 56 1,mt 57 13,A1 58 (.s2a 64 1 (.t 57)),la 59 64 58,kl 60 212 [(.t 56),(.t 59)],mt 55 60,ee 61 55 0,ee 62 55 1,
  aB 17 32,sb 32 17 61,mt 18 62] (.reg [A1 63 (.slarr 32 1 (.t 17) none none),mt 16 63])) (sr [mt 65 1,mt 66 13,A1 67 (.s2a 32 1 (.t 66)),la 68 32 67,kl 69 328 [(.t 65),(.t 68)],mt 64 69,ee 70 64 0,ee 71 64 1,
  aB 19 64,sb 64 19 70,mt 20 71] (.seq (sr [mt 72 20,A1 73 (.eq true true (.iface [74]) (.t 72) (.c .nili))] (.cond (.t 73) (sr [mt 74 0,kl 75 214 [(.t 74),(cU 18446744073709551615)]] (sr [A1 10 (.mv (.c (.bool false)))] .ret)) .skip)) (.reg [A1 76 (.slarr 64 1 (.t 19) none none),mt 16 76]))))) (.seq (sr [mt 77 12,
  mU 78 0] (.block 2 (.loop (sr [ak 79 .lss 78 77] (.seq (DJ 79 2) (.seq (.block 3 (sr [mt 80 78,mt 21 80]
 (.regd [⟨4,0,mt 85 16⟩,⟨5,0,mt 86 21⟩,⟨6,2,aV 87 .mul 8 86⟩,⟨7,7,A1 88 (.slsl 1 (.t 85) (some (.t 87)) none)⟩,⟨8,15,kl 89 308 [(.t 88)]⟩,⟨0,0,mt 81 0⟩,⟨1,0,mt 82 4⟩,⟨2,0,mt 83 21⟩,⟨3,192,ak 84 .add 82 83⟩,⟨9,32,nc 90 81⟩,⟨10,544,fa 91 0 90⟩,⟨11,2047,ib 92 8192 1 91 84⟩,⟨12,4095,sb 1 92 89⟩]))) (.reg [aU 93 .add 78 1,mt 78 93]))))))) (sr [A1 10 (.mv (.c (.bool true)))] .ret))))))))))
def OB:LF:=⟨OU,5,0,94,[.tmp 10]⟩
def Ata:LC:=(sr [mI 3 0] (sr [lb 4 1 1,mt 5 0,ak 6 .shr 4 5,
  aU 7 .and 6 15,
  DL 8 .i64 7,mt 3 8] .ret))
def Aq9:LF:=⟨Ata,1,1,9,[.tmp 3]⟩
def Atu:LC:=(sr [A1 4 (.mv (.c (.bool false)))] (sr [mt 5 0,
  aU 6 .leq 5 8192,mt 7 6,mg 8 7 true 1,mg 9 7 true 0,A2 10 7 true (.ari .sub (cU 8192) (.t 9)),A2 11 7 true (.ari .leq (.t 8) (.t 10)),
  HR 12 7 11,mt 4 12] .ret))
def Apa:LF:=⟨Atu,2,0,13,[.tmp 4]⟩
def Afi:LC:=(sr [mU 8 0,mn 9] (.seq (sr [mt 10 0] (.block 0 (.seq (.block 17 (.seq (.block 16 (.seq (.block 15 (.seq (.block 14 (.seq (.block 13 (.seq (.block 12 (.seq (.block 11 (.seq (.block 10 (.seq (.block 9 (.seq (.block 8 (.seq (.block 7 (.seq (.block 6 (.seq (.block 5 (.seq (.block 4 (.seq (.block 3 (.seq (.block 2 (.seq (.block 1 (.seq (.seq (sr [aI 12 .eql 10 1,mt 11 12] (.cond (.t 11) (.exit 1) .skip)) (.seq (sr [aI 14 .eql 10 2,mt 13 14] (.cond (.t 13) (.exit 2) .skip)) (.seq (sr [aI 16 .eql 10 3,mt 15 16] (.cond (.t 15) (.exit 3) .skip)) (.seq (.seq (sr [aI 18 .eql 10 4,mt 17 18] (.cond (.t 17) .skip (sr [aI 19 .eql 10 5,mt 17 19] (.cond (.t 17) .skip (sr [aI 20 .eql 10 6,mt 17 20] (.cond (.t 17) .skip (.reg [aI 21 .eql 10 7,mt 17 21]))))))) (.cond (.t 17) (.exit 4) .skip)) (.seq (.seq (sr [aI 23 .eql 10 8,mt 22 23] (.cond (.t 22) .skip (.reg [aI 24 .eql 10 9,mt 22 24]))) (.cond (.t 22) (.exit 5) .skip)) (.seq (sr [aI 26 .eql 10 10,mt 25 26] (.cond (.t 25) (.exit 6) .skip)) (.seq (.seq (sr [aI 28 .eql 10 11,mt 27 28] (.cond (.t 27) .skip (sr [aI 29 .eql 10 12,mt 27 29] (.cond (.t 27) .skip (sr [aI 30 .eql 10 13,mt 27 30] (.cond (.t 27) .skip (sr [aI 31 .eql 10 14,mt 27 31] (.cond (.t 27) .skip (.reg [aI 32 .eql 10 15,mt 27 32]))))))))) (.cond (.t 27) (.exit 7) .skip)) (.seq (sr [aI 34 .eql 10 17,mt 33 34] (.cond (.t 33) (.exit 8) .skip)) (.seq (sr [aI 36 .eql 10 16,mt 35 36] (.cond (.t 35) (.exit 9) .skip)) (.seq (sr [aI 38 .eql 10 19,mt 37 38] (.cond (.t 37) (.exit 10) .skip)) (.seq (sr [aI 40 .eql 10 18,mt 39 40] (.cond (.t 39) (.exit 11) .skip)) (.seq (sr [aI 42 .eql 10 21,mt 41 42] (.cond (.t 41) (.exit 12) .skip)) (.seq (sr [aI 44 .eql 10 20,mt 43 44] (.cond (.t 43) (.exit 13) .skip)) (.seq (sr [aI 46 .eql 10 22,mt 45 46] (.cond (.t 45) (.exit 14) .skip)) (.seq (sr [aI 48 .eql 10 23,mt 47 48] (.cond (.t 47) (.exit 15) .skip)) (.seq (sr [aI 50 .eql 10 25,mt 49 50] (.cond (.t 49) (.exit 16) .skip)) (sr [aI 52 .eql 10 24,mt 51 52] (.cond (.t 51) (.exit 17) .skip))))))))))))))))))
 (.exit 0))) (.seq (sr [mt 53 1,mt 54 2,ak 55 .add 53 54,mt 8 55,mn 9] .ret)
 (.exit 0)))) (.seq (sr [mt 56 1,mt 57 2,ak 58 .sub 56 57,mt 8 58,mn 9] .ret)
 (.exit 0)))) (.seq (sr [mt 59 1,mt 60 2,ak 61 .mul 59 60,mt 8 61,mn 9] .ret)
 (.exit 0)))) (.seq (sr [mt 62 0,mt 63 1,mt 64 2,kl 65 321 [(.t 62),(.t 63),(.t 64)],mt 8 65,mn 9] .ret)
 (.exit 0)))) (.seq (sr [mt 66 0,mt 67 1,mt 68 2,mt 69 3,kl 70 322 [(.t 66),(.t 67),(.t 68),(.t 69)],mt 8 70,mn 9] .ret)
 (.exit 0)))) (.seq (sr [mt 71 1,mt 72 2,kl 73 323 [(.t 71),(.t 72)],mt 8 73,mn 9] .ret)
 (.exit 0)))) (.seq (sr [mt 74 0,mt 75 1,mt 76 2,kl 77 324 [(.t 74),(.t 75),(.t 76)],mt 8 77,mn 9] .ret)
 (.exit 0)))) (.reg [mt 78 2,mt 79 1,mt 1 78,mt 2 79]))) (.seq (sr [mt 80 1,mt 81 2,ak 82 .lss 80 81,kl 83 325 [(.t 82)],mt 8 83,mn 9] .ret)
 (.exit 0)))) (.reg [mt 84 2,mt 85 1,mt 1 84,mt 2 85]))) (.seq (sr [mt 86 1,
  DL 87 .i64 86,mt 88 2,
  DL 89 .i64 88,ak 90 .lss 87 89,kl 91 325 [(.t 90)],mt 8 91,mn 9] .ret)
 (.exit 0)))) (.reg [mU 2 0]))) (.seq (sr [mt 92 1,mt 93 2,ak 94 .eql 92 93,kl 95 325 [(.t 94)],mt 8 95,mn 9] .ret)
 (.exit 0)))) (.seq (sr [mt 96 1,mt 97 2,ak 98 .and 96 97,mt 8 98,mn 9] .ret)
 (.exit 0)))) (.seq (sr [mt 99 1,mt 100 2,ak 101 .or 99 100,mt 8 101,mn 9] .ret)
 (.exit 0)))) (.reg [mU 2 18446744073709551615]))) (.seq (sr [mt 102 1,mt 103 2,ak 104 .xor 102 103,mt 8 104,mn 9] .ret)
 (.exit 0))))) (sr [A1 105 (.mkif 74 (cI 10)),
  mU 8 0,mt 9 105] .ret)))
def YT:LF:=⟨Afi,4,0,106,[.tmp 8,.tmp 9]⟩
def Adb:ByteArray:=⟨#[0,1,2,2,3,3,3,3,4,4,4,4,4,4,4,4,5,5,5,5,5,5,5,5,5,5,5,5,5,5,5,5,6,6,6,6,6,6,6,6,6,6,6,6,6,6,6,6,6,6,6,6,6,6,6,6,6,6,6,6,6,6,6,6,7,7,7,7,7,7,7,7,7,7,7,7,7,7,7,7,7,7,7,7,7,7,7,7,7,7,7,7,7,7,7,7,7,7,7,7,7,7,7,7,7,7,7,7,7,7,7,7,7,7,7,7,7,7,7,7,7,7,7,7,7,7,7,7,8,8,8,8,8,8,8,8,8,8,8,8,8,8,8,8,8,8,8,8,8,8,8,8,8,8,8,8,8,8,8,8,8,8,8,8,8,8,8,8,8,8,8,8,8,8,8,8,8,8,8,8,8,8,8,8,8,8,8,8,8,8,8,8,8,8,8,8,8,8,8,8,8,8,8,8,8,8,8,8,8,8,8,8,8,8,8,8,8,8,8,8,8,8,8,8,8,8,8,8,8,8,8,8,8,8,8,8,8,8,8,8,8,8,8,8,8,8,8,8,8,8,8,8,8,8,8,8]⟩
def Akl:LC:=(sr [mU 6 0] (.seq (sr [mt 10 2,
  aU 11 .eql 10 0] (.cond (.t 11) (sr [mU 6 0] .ret) .skip)) (.seq (sr [mt 12 0] (.block 0 (sr [aI 14 .eql 12 4,mt 13 14] (.cond (.t 13) (sr [mt 15 1,mt 16 2,ak 17 .quo 15 16,mt 6 17] .ret) (sr [aI 19 .eql 12 6,mt 18 19] (.cond (.t 18) (sr [mt 20 1,mt 21 2,ak 22 .rem 20 21,mt 6 22] .ret) .skip)))))) (sr [mt 23 2,
  DL 24 .i64 23,aI 25 .lss 24 0,mt 26 1,
  DL 27 .i64 26,aI 28 .lss 27 0,mt 7 25,mt 8 28] (.seq (sr [mt 29 7] (.cond (.t 29) (.reg [mt 30 2,A1 31 (.un .neg (.t 30)),mt 2 31]) .skip)) (.seq (sr [mt 32 8] (.cond (.t 32) (.reg [mt 33 1,A1 34 (.un .neg (.t 33)),mt 1 34]) .skip)) (sr [mt 35 1,mt 36 2,ak 37 .rem 35 36,mt 9 37] (.seq (sr [mt 38 0,aI 39 .eql 38 5] (.cond (.t 39) (.reg [mt 40 1,mt 41 2,ak 42 .quo 40 41,mt 43 8,mt 44 7,A1 45 (.eq true false .bool (.t 43) (.t 44)),mt 9 42,mt 8 45]) .skip)) (.seq (sr [mt 46 8] (.cond (.t 46) (sr [mt 47 9,A1 48 (.un .neg (.t 47)),mt 6 48] .ret) .skip)) (sr [mt 49 9,mt 6 49] .ret))))))))))
def Amw:LF:=⟨Akl,3,0,50,[.tmp 6]⟩
def Acm:LC:=(sr [mU 8 0] (.seq (sr [mt 13 3,
  aU 14 .eql 13 0] (.cond (.t 14) (sr [mU 8 0] .ret) .skip)) (.seq (.regd [⟨0,0,mt 15 1⟩,⟨1,0,mt 16 3⟩,⟨2,3,ak 17 .rem 15 16⟩,⟨3,0,mt 18 2⟩,⟨4,0,mt 19 3⟩,⟨5,24,ak 20 .rem 18 19⟩,⟨6,7,mt 1 17⟩,⟨7,127,mt 2 20⟩]) (sr [mt 22 1,mt 23 2,kl 24 421 [(.t 22),(.t 23)],mt 21 24,ee 25 21 0,ee 26 21 1,mt 9 25,mt 10 26] (.seq (sr [mt 27 0,aI 28 .eql 27 8] (.cond (.t 28) (.reg [mt 30 1,mt 31 2,A1 32 (.add64 (.t 30) (.t 31) (cU 0)),mt 29 32,ee 33 29 0,ee 34 29 1,mt 10 33,mt 9 34]) .skip)) (sr [mt 36 9,mt 37 10,mt 38 3,kl 39 423 [(.t 36),(.t 37),(.t 38)],mt 35 39,ee 40 35 0,ee 41 35 1,mt 11 40,mt 12 41] (sr [mt 42 12,mt 8 42] .ret)))))))
def XR:LF:=⟨Acm,4,0,43,[.tmp 8]⟩
def Asx:LC:=(sr [mU 4 0] (sr [mU 5 1] (.seq (.block 0 (.loop (.seq (sr [mt 6 1,
  aU 7 .gtr 6 0]
 (DJ 7 0)) (.seq (.block 1 (.seq (sr [mt 10 1,
  aU 11 .and 10 1,
  aU 12 .eql 11 1] (.cond (.t 12) (.reg [mt 13 5,mt 14 0,ak 15 .mul 13 14,mt 5 15]) .skip)) (.reg [mt 16 0,mt 17 0,ak 18 .mul 16 17,mt 0 18]))) (.reg [mt 8 1,
  aU 9 .shr 8 1,mt 1 9]))))) (sr [mt 19 5,mt 4 19] .ret))))
def Atw:LF:=⟨Asx,2,0,20,[.tmp 4]⟩
def Rk:LC:=(sr [mU 6 0] (.seq (sr [mt 8 0] (.block 0 (sr [aI 10 .eql 8 11,mt 9 10] (.cond (.t 9) (.seq (sr [mt 11 1,
  aU 12 .geq 11 7] (.cond (.t 12) (sr [mt 13 2,mt 6 13] .ret) .skip)) (sr [mt 14 1,
  aV 15 .mul 8 14,
  aV 16 .sub 56 15,mt 7 16] (sr [mt 17 2,mt 18 7,ak 19 .shl 17 18,
  DL 20 .i64 19,mt 21 7,ak 22 .shr 20 21,
  DL 23 .u64 22,mt 6 23] .ret))) (sr [aI 25 .eql 8 12,mt 24 25] (.cond (.t 24) (.seq (sr [mt 26 1,
  aU 27 .gtr 26 7] (.cond (.t 27) (sr [mU 6 0] .ret) .skip)) (sr [mt 28 2,mt 29 1,
  aV 30 .mul 8 29,
  aV 31 .sub 56 30,ak 32 .shr 28 31,
  aU 33 .and 32 255,mt 6 33] .ret)) (sr [aI 35 .eql 8 13,mt 34 35] (.cond (.t 34) (sr [mt 36 2,mt 37 1,ak 38 .shl 36 37,mt 6 38] .ret) (sr [aI 40 .eql 8 14,mt 39 40] (.cond (.t 39) (sr [mt 41 2,mt 42 1,ak 43 .shr 41 42,mt 6 43] .ret) .skip)))))))))) (sr [mt 44 2,
  DL 45 .i64 44,mt 46 1,ak 47 .shr 45 46,
  DL 48 .u64 47,mt 6 48] .ret)))
def PE:LF:=⟨Rk,3,0,49,[.tmp 6]⟩
def Aud:LC:=(sr [mU 2 0] (.seq (sr [mt 3 0] (.cond (.t 3) (sr [mU 2 1] .ret) .skip)) (sr [mU 2 0] .ret)))
def Asg:LF:=⟨Aud,1,0,4,[.tmp 2]⟩
def Atf:LC:=(sr [mU 4 0,
 mU 5 0] (sr [mt 14 0,
  aU 15 .and 14 4294967295,mt 6 15] (sr [mt 16 0,
  aU 17 .shr 16 32,mt 7 17] (sr [mt 18 1,
  aU 19 .and 18 4294967295,mt 8 19] (sr [mt 20 1,
  aU 21 .shr 20 32,mt 9 21] (sr [mt 22 6,mt 23 8,ak 24 .mul 22 23,mt 10 24] (sr [mt 25 7,mt 26 8,ak 27 .mul 25 26,mt 28 10,
  aU 29 .shr 28 32,ak 30 .add 27 29,mt 11 30] (sr [mt 31 11,
  aU 32 .and 31 4294967295,mt 12 32] (sr [mt 33 11,
  aU 34 .shr 33 32,mt 13 34] (sr [mt 35 12,mt 36 6,mt 37 9,ak 38 .mul 36 37,ak 39 .add 35 38,mt 12 39] (sr [mt 40 7,mt 41 9,ak 42 .mul 40 41,mt 43 13,ak 44 .add 42 43,mt 45 12,
  aU 46 .shr 45 32,ak 47 .add 44 46,mt 4 47] (sr [mt 48 0,mt 49 1,ak 50 .mul 48 49,mt 5 50] .ret))))))))))))
def Arf:LF:=⟨Atf,2,0,51,[.tmp 4,.tmp 5]⟩
def Anh:LC:=(sr [mU 6 0,
 mU 7 0] (.seq (sr [mt 19 2,
  aU 20 .eql 19 0] (.cond (.t 20) (.reg [A1 21 .nope ,A0 .nope ]) .skip)) (.seq (sr [mt 22 2,mt 23 0,ak 24 .leq 22 23] (.cond (.t 24) (.reg [A1 25 .nope ,A0 .nope ]) .skip)) (.seq (sr [mt 26 0,
  aU 27 .eql 26 0] (.cond (.t 27) (.seq (.regd [⟨0,0,mt 28 1⟩,⟨1,0,mt 29 2⟩,⟨2,3,ak 30 .quo 28 29⟩,⟨3,0,mt 31 1⟩,⟨4,0,mt 32 2⟩,⟨5,24,ak 33 .rem 31 32⟩,⟨6,7,mt 6 30⟩,⟨7,127,mt 7 33⟩]) .ret) .skip)) (sr [mt 34 2,kl 35 463 [(.t 34)],
  DL 36 .u64 35,mt 8 36] (sr [mt 37 2,mt 38 8,ak 39 .shl 37 38,mt 2 39] (sr [mt 40 2,
  aU 41 .shr 40 32,mt 9 41] (sr [mt 42 2,
  aU 43 .and 42 4294967295,mt 10 43] (sr [mt 44 0,mt 45 8,ak 46 .shl 44 45,mt 47 1,mt 48 8,
  aV 49 .sub 64 48,ak 50 .shr 47 49,ak 51 .or 46 50,mt 11 51] (sr [mt 52 1,mt 53 8,ak 54 .shl 52 53,mt 12 54] (sr [mt 55 12,
  aU 56 .shr 55 32,mt 13 56] (sr [mt 57 12,
  aU 58 .and 57 4294967295,mt 14 58] (sr [mt 59 11,mt 60 9,ak 61 .quo 59 60,mt 15 61] (sr [mt 62 11,mt 63 15,mt 64 9,ak 65 .mul 63 64,ak 66 .sub 62 65,mt 16 66] (.seq (.block 0 (.loop (.seq (sr [mt 67 15,
  aU 68 .geq 67 4294967296,mt 69 68,mg 70 69 false 15,mg 71 69 false 10,A2 72 69 false (.ari .mul (.t 70) (.t 71)),mg 73 69 false 16,A2 74 69 false (.ari .mul (cU 4294967296) (.t 73)),mg 75 69 false 13,A2 76 69 false (.ari .add (.t 74) (.t 75)),A2 77 69 false (.ari .gtr (.t 72) (.t 76)),
  CQ 78 69 77]
 (DJ 78 0)) (.block 1 (sr [mt 79 15,
  aU 80 .sub 79 1,mt 15 80] (sr [mt 81 16,mt 82 9,ak 83 .add 81 82,mt 16 83] (sr [mt 84 16,
  aU 85 .geq 84 4294967296] (.cond (.t 85) (.exit 0) .skip)))))))) (sr [mt 86 11,
  aU 87 .mul 86 4294967296,mt 88 13,ak 89 .add 87 88,mt 90 15,mt 91 2,ak 92 .mul 90 91,ak 93 .sub 89 92,mt 17 93] (sr [mt 94 17,mt 95 9,ak 96 .quo 94 95,mt 18 96] (sr [mt 97 17,mt 98 18,mt 99 9,ak 100 .mul 98 99,ak 101 .sub 97 100,mt 16 101] (.seq (.block 2 (.loop (.seq (sr [mt 102 18,
  aU 103 .geq 102 4294967296,mt 104 103,mg 105 104 false 18,mg 106 104 false 10,A2 107 104 false (.ari .mul (.t 105) (.t 106)),mg 108 104 false 16,A2 109 104 false (.ari .mul (cU 4294967296) (.t 108)),mg 110 104 false 14,A2 111 104 false (.ari .add (.t 109) (.t 110)),A2 112 104 false (.ari .gtr (.t 107) (.t 111)),
  CQ 113 104 112]
 (DJ 113 2)) (.block 3 (sr [mt 114 18,
  aU 115 .sub 114 1,mt 18 115] (sr [mt 116 16,mt 117 9,ak 118 .add 116 117,mt 16 118] (sr [mt 119 16,
  aU 120 .geq 119 4294967296] (.cond (.t 120) (.exit 2) .skip)))))))) (sr [mt 121 15,
  aU 122 .mul 121 4294967296,mt 123 18,ak 124 .add 122 123,mt 125 17,
  aU 126 .mul 125 4294967296,mt 127 14,ak 128 .add 126 127,mt 129 18,mt 130 2,ak 131 .mul 129 130,ak 132 .sub 128 131,mt 133 8,ak 134 .shr 132 133,mt 6 124,mt 7 134] .ret))))))))))))))))))))
def Ai2:LF:=⟨Anh,3,0,135,[.tmp 6,.tmp 7]⟩
def Yj:LC:=(sr [mI 2 0] (.seq (sr [mt 3 0,
  aU 4 .geq 3 4294967296] (.cond (.t 4) (sr [mt 5 0,
  aU 6 .shr 5 32,mt 0 6] (.reg [mI 2 32])) .skip)) (.seq (sr [mt 7 0,
  aU 8 .geq 7 65536] (.cond (.t 8) (sr [mt 9 0,
  aU 10 .shr 9 16,mt 0 10] (.reg [mt 11 2,aI 12 .add 11 16,mt 2 12])) .skip)) (.seq (sr [mt 13 0,
  aU 14 .geq 13 256] (.cond (.t 14) (sr [mt 15 0,
  aU 16 .shr 15 8,mt 0 16] (.reg [mt 17 2,aI 18 .add 17 8,mt 2 18])) .skip)) (sr [mt 19 2,mt 20 0,
  DL 21 .u8 20,A1 22 (.sidx (.c (.str Adb)) (.t 21)),
  DL 23 .i64 22,ak 24 .add 19 23,mt 2 24] .ret)))))
def Yu:LF:=⟨Yj,1,0,25,[.tmp 2]⟩
def Apj:LC:=(sr [mI 2 0] (sr [mt 3 0,kl 4 259 [(.t 3)],
  aJ 5 .sub 64 4,mt 2 5] .ret))
def Apv:LF:=⟨Apj,1,0,6,[.tmp 2]⟩
variable {M:Seat}
def Lcb:=(Cv @CP @Sb.eq_1 @Se.eq_1)
structure OkP (M:Seat):Prop where
 k215:Ar M 215 YT=true
 k321:Ar M 321 Amw=true
 k322:Ar M 322 XR=true
 k323:Ar M 323 Atw=true
 k324:Ar M 324 PE=true
 k325:Ar M 325 Asg=true
 k421:Ar M 421 Arf=true
 k423:Ar M 423 Ai2=true
 k259:Ar M 259 Yu=true
 k463:Ar M 463 Apv=true
def flg (t:Bool):BitVec 64:=if t then 1#64 else 0#64
theorem W6 (ok:OkP M) (t:Bool):Ae M 325 [.bool t] [] 0 (Q3 (W (flg t)) [] 0):=by
 refine Ab ok.k325 rfl fun x hx=>?_;cases t;all_goals refine eX ?_;simp only [Asg,Aud,LZ,seval]
 all_goals (have zz:=@flg.eq_1;exact AI hx [] ⟨rfl,rfl,rfl⟩)
def Ag1 (op:Nat) (a b:BitVec 64):BitVec 64 :=
 if b=0#64 then 0#64 else if op=4 then a / b else if op=6 then a % b
 else if op=5 then (if ((a.toInt < 0) ↔ (b.toInt < 0)) then (if a.toInt < 0 then -a else a) / (if b.toInt < 0 then -b else b) else -((if a.toInt < 0 then -a else a) / (if b.toInt < 0 then -b else b)))
 else if a.toInt < 0 then -((-a) % (if b.toInt < 0 then -b else b)) else a % (if b.toInt < 0 then -b else b)
theorem Pp (ok:OkP M) (op:Nat) (ho:op=4 ∨ op=5 ∨ op=6 ∨ op=7) (a b:BitVec 64):Ae M 321 [.int .i64 op,W a,W b] [] 0 (Q3 (W (Ag1 op a b)) [] 0):=by
 refine Ab ok.k321 rfl fun x hx=>?_;by_cases hb:b=0#64
 ·subst hb;refine eX ?_;simp only [Amw,Akl,LZ,seval];have zz:=@Ag1.eq_1;exact AI hx [] ⟨rfl,rfl,rfl⟩
 ·have hn:¬ -b=0#64:=fun h=>hb (by have:=congrArg (fun x=>-x) h;simpa using this);have e0:(b ≠ 0)=True:=eq_true hb;have e1:(-b ≠ 0)=True:=eq_true hn;rcases Classical.propComplete (a.toInt < 0) with h1 | h1 <;> rcases Classical.propComplete (b.toInt < 0) with h2 | h2 <;> rcases ho with rfl | rfl | rfl | rfl;all_goals simp only [Ag1,hb,h1,h2,Lb9,seval,iff_self,iff_true,iff_false,true_iff,false_iff,not_false_eq_true]
  all_goals refine eX ?_;simp only [Amw,Akl,hb,h1,h2,e0,e1,Lbp,seval]
  all_goals repeat refine sd ?_
  all_goals exact Ap.mkZ hx [] ⟨rfl,rfl,rfl⟩
def pwr:Nat→BitVec 64→BitVec 64→BitVec 64→BitVec 64
 | 0,_,_,p=>p
 | k + 1,a,b,p=>if b=0#64 then p else pwr k (a * a) (b >>> 1) (if b &&& 1#64=1#64 then p * a else p)
theorem TE (ok:OkP M) (a b:BitVec 64):Ae M 323 [W a,W b] [] 0 (Q3 (W (pwr 64 a b 1#64)) [] 0):=by
 refine Ab ok.k323 rfl fun x hx=>?_;generalize hF:pwr 64 a b 1#64=F;refine eX ?_;simp only [Atw,Asx,LZ,seval];refine Am (σ:=Nat × BitVec 64 × BitVec 64 × BitVec 64) (fun s=>pwr s.1 s.2.1 s.2.2.1 s.2.2.2=F∧s.2.2.1.toNat < 2 ^ s.1) (fun s=>fr 20 [(0,W s.2.1),(1,W s.2.2.1),(5,W s.2.2.2)]) (fun _=>[]) (fun _=>0) (fun s=>s.1) (64,a,b,1#64) ⟨hF,b.isLt⟩ ?_ ?_
 ·refine Ak.fr [] [] hx AG Al ?_ ?_
  ·simp only [LY,seval]
  ·trivial
 ·rintro ⟨k,a,b,p⟩ ⟨h1,h2⟩;dsimp only at h1 h2;refine eX ?_;by_cases h0:b=0#64
  ·subst h0;have hp:p=F:=by
    cases k with
    | zero=>exact h1
    | succ k=>rw [pwr,if_pos rfl] at h1;exact h1
   subst hp;simp only [LZ,seval];exact Ap.mkZ hx [] ⟨rfl,rfl,rfl⟩
  ·have hg:(0#64 < b)=True:=eq_true (by
    rw [BitVec.lt_def];have:b.toNat ≠ 0:=fun h=>h0 (BitVec.eq_of_toNat_eq MY)
    show 0 < b.toNat;omega)
   cases k with
   | zero=>exact absurd (BitVec.eq_of_toNat_eq (by have:b.toNat < 1:=h2;show b.toNat=0;omega)) h0
   | succ k =>
     rw [pwr,if_neg h0] at h1;have hs:(b >>> 1).toNat < 2 ^ k:=by
      rw [BitVec.toNat_ushiftRight,Nat.shiftRight_eq_div_pow];rw [Nat.pow_succ] at h2;omega
     by_cases h3:b &&& 1#64=1#64
     ·rw [if_pos h3] at h1;simp only [hg,h3,LZ,seval];refine ⟨(k,a * a,b >>> 1,p * a),h1,hs,by omega,?_⟩;refine Ak.fr [] [] hx AG Al ?_ ?_
      ·simp only [LY,seval]
      ·trivial
     ·rw [if_neg h3] at h1;simp only [hg,h3,LZ,seval];refine ⟨(k,a * a,b >>> 1,p),h1,hs,by omega,?_⟩;refine Ak.fr [] [] hx AG Al ?_ ?_
      ·simp only [LY,seval]
      ·trivial
end Mv
