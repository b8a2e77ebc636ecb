/- A part. -/
import Derived.Test.YtlfkjfonpacelaaGreatDoorFN
set_option linter.all false
set_option maxRecDepth 20000
set_option maxHeartbeats 8000000
namespace Mv
open Go
def c36:LC:=(sr [A1 6 (.mv (.c (.bool false)))] (sr [A1 7 (.mv (.c .nilp))] (sr [kl 38 151 [(.c .nils)],kl 39 68 [],mt 8 38,mt 9 39] (.seq (sr [mt 40 8,A1 41 (.eq false true .ptr (.t 40) (.c .nilp)),mt 42 41,mg 43 42 false 9,A2 44 42 false (.eq false true .ptr (.t 43) (.c .nilp)),
  BV 45 42 44,mt 46 45,⟨(some 47),.call 122 [],(some (46,false))⟩,A2 48 46 false (.un .not (.t 47)),
  BV 49 46 48] (.cond (.t 49) (sr [A1 6 (.mv (.c (.bool false)))] .ret) .skip)) (sr [mt 51 9,mt 52 0,kl 53 152 [(.c .nilp),(.t 51),(.t 52)],mt 50 53,ee 54 50 0,ee 55 50 1,mt 10 54,mt 11 55] (sr [mt 57 8,mt 58 0,kl 59 152 [(.t 57),(.c .nilp),(.t 58)],mt 56 59,ee 60 56 0,ee 61 56 1,mt 12 60,mt 13 61] (sr [mt 63 7,kl 64 153 [(.t 63)],mt 62 64,ee 65 62 0,ee 66 62 1,
  aB 14 32,sb 32 14 65,mt 15 66] (sr [mt 68 7,mt 69 1,kl 70 154 [(.t 68),(.t 69)],mt 67 70,ee 71 67 0,ee 72 67 1,
  aB 16 32,sb 32 16 71,mt 17 72] (sr [mt 74 7,mt 75 1,kl 76 155 [(.t 74),(.t 75)],mt 73 76,ee 77 73 0,ee 78 73 1,A1 18 (.alloc (.st (.cons (.ar 32 (.int .u8)) (.cons (.st (.cons (.ar 16 (.int .u64)) (.cons (.int .u64) (.cons .bool (.cons (.int .u64) .nil))))) (.cons .slice (.cons (.ar 64 (.int .u8)) .nil)))))),sb 116 18 77,mt 19 78] (sr [kl 79 156 [(cU 9)],mt 20 79] (sr [mt 81 8,mt 82 9,kl 83 152 [(.t 81),(.t 82),(cI 2)],mt 80 83,ee 84 80 0,ee 85 80 1,mt 21 84,mt 22 85] (.seq (sr [mt 86 20,A1 87 (.eq false true .ptr (.t 86) (.c .nilp)),mt 88 87,mg 89 88 false 22,A2 90 88 false (.eq true true (.iface [74]) (.t 89) (.c .nili)),
  BV 91 88 90,mt 92 91,mg 93 92 false 21,A2 94 92 false (.eq false true .ptr (.t 93) (.c .nilp)),
  BV 95 92 94] (.cond (.t 95) (sr [A1 6 (.mv (.c (.bool false)))] .ret) .skip)) (sr [A1 97 (.build (.ar 32 (.int .u8)) []),kl 98 157 [(cI 3),(cU 9),(.t 97)],mt 99 20,A1 100 (.build (.ar 32 (.int .u8)) []),kl 101 112 [(.t 98),(.t 99),(cI 0),(.t 100),(cU 0)],mt 96 101,ee 102 96 0,ee 103 96 1,mt 23 102,mt 22 103] (sr [mt 105 21,mt 106 2,kl 107 123 [(.c .nilp),(.t 105),(.t 106)],mt 104 107,ee 108 104 0,ee 109 104 1,mt 24 108,mt 25 109] (sr [mt 111 23,mt 112 2,kl 113 123 [(.t 111),(.c .nilp),(.t 112)],mt 110 113,ee 114 110 0,ee 115 110 1,mt 26 114,mt 27 115] (sr [mt 117 21,kl 118 124 [(.c .nilp),(.t 117)],mt 116 118,ee 119 116 0,ee 120 116 1,mt 28 119,mt 29 120] (.seq (sr [mt 121 11,mt 122 13,mt 123 15,mt 124 17,mt 125 19,mt 126 25,mt 127 27,mt 128 29,A1 129 (.build (.st (.cons (.int .i64) (.cons .bool (.cons .bool (.cons (.ar 32 (.int .u8)) (.cons (.st (.cons (.ar 32 (.int .u8)) (.cons (.st (.cons (.ar 16 (.int .u64)) (.cons (.int .u64) (.cons .bool (.cons (.int .u64) .nil))))) (.cons .slice (.cons (.ar 64 (.int .u8)) .nil))))) .nil)))))) []),kl 130 158 [(.c .nilp),(.t 129),(cI 0),(cU 0)],A1 131 (.bsl 1 9 .iface [(.i 1 0,1,(.t 121)),(.i 1 1,1,(.t 122)),(.i 1 2,1,(.t 123)),(.i 1 3,1,(.t 124)),(.i 1 4,1,(.t 125)),(.i 1 5,1,(.t 126)),(.i 1 6,1,(.t 127)),(.i 1 7,1,(.t 128)),(.i 1 8,1,(.t 130))]),
  lN 132 0 131,
  mI 133 0] (.block 0 (.loop (sr [ak 134 .lss 133 132] (.seq (Dd 134 0) (.seq (.block 1 (sr [ia 135 1 131 133,lb 136 1 135,mt 31 136] (sr [mt 137 31,A1 138 (.mkif 74 (cI 1)),kl 139 63 [(.t 137),(.t 138)],A1 140 (.un .not (.t 139))] (.cond (.t 140) (sr [A1 6 (.mv (.c (.bool false)))] .ret) .skip)))) (.reg [aI 141 .add 133 1,mt 133 141]))))))) (sr [mt 143 23,mt 144 21,mt 145 2,kl 146 123 [(.t 143),(.t 144),(.t 145)],mt 142 146,ee 147 142 0,ee 148 142 1,mt 32 147,mt 33 148] (sr [mt 150 23,mt 151 21,kl 152 124 [(.t 150),(.t 151)],mt 149 152,ee 153 149 0,ee 154 149 1,mt 34 153,mt 35 154] (sr [mt 156 8,mt 157 9,mt 158 0,kl 159 152 [(.t 156),(.t 157),(.t 158)],mt 155 159,ee 160 155 0,ee 161 155 1,mt 36 160,mt 37 161] (.seq (sr [mt 162 0,aI 163 .lss 162 1,mt 164 163,mg 165 164 false 0,A2 166 164 false (.ari .gtr (.t 165) (cI 20)),
  BV 167 164 166] (.cond (.t 167) (sr [mt 168 22,A1 169 (.eq false true (.iface [74]) (.t 168) (.c .nili)),mt 170 169,mg 171 170 true 33,A2 172 170 true (.mkif 74 (cI 3)),⟨(some 173),.call 63 [(.t 171),(.t 172)],(some (170,true))⟩,
  Fq 174 170 173,mt 175 174,mg 176 175 true 35,A2 177 175 true (.mkif 74 (cI 3)),⟨(some 178),.call 63 [(.t 176),(.t 177)],(some (175,true))⟩,
  Fq 179 175 178,mt 180 179,mg 181 180 true 37,A2 182 180 true (.mkif 74 (cI 2)),⟨(some 183),.call 63 [(.t 181),(.t 182)],(some (180,true))⟩,
  Fq 184 180 183,mt 6 184] .ret) .skip)) (sr [mt 185 22,A1 186 (.eq false true (.iface [74]) (.t 185) (.c .nili)),mt 187 186,mg 188 187 true 33,A2 189 187 true (.mkif 74 (cI 3)),⟨(some 190),.call 63 [(.t 188),(.t 189)],(some (187,true))⟩,
  Fq 191 187 190,mt 192 191,mg 193 192 true 35,A2 194 192 true (.mkif 74 (cI 3)),⟨(some 195),.call 63 [(.t 193),(.t 194)],(some (192,true))⟩,
  Fq 196 192 195,mt 197 196,mg 198 197 true 37,A2 199 197 true (.eq false true (.iface [74]) (.t 198) (.c .nili)),
  Fq 200 197 199,mt 6 200] .ret))))))))))))))))))))))
def f36:LF:=⟨c36,3,0,201,[.tmp 6]⟩
def Axh:LC:=(sr [A1 0 (.mv (.c (.bool false)))] (sr [kl 13 151 [(.c .nils)],mt 1 13] (sr [kl 14 156 [(cU 50)],mt 2 14] (.seq (sr [mt 15 1,A1 16 (.eq false true .ptr (.t 15) (.c .nilp)),mt 17 16,mg 18 17 false 2,A2 19 17 false (.eq false true .ptr (.t 18) (.c .nilp)),
  BV 20 17 19] (.cond (.t 20) (sr [A1 0 (.mv (.c (.bool false)))] .ret) .skip)) (sr [mt 22 1,kl 23 68 [],kl 24 152 [(.t 22),(.t 23),(cI 1)],mt 21 24,ee 25 21 0,ee 26 21 1,mt 3 25,mt 4 26] (.seq (sr [mt 27 4,A1 28 (.eq true true (.iface [74]) (.t 27) (.c .nili)),mt 29 28,mg 30 29 false 3,A2 31 29 false (.eq false true .ptr (.t 30) (.c .nilp)),
  BV 32 29 31] (.cond (.t 32) (sr [A1 0 (.mv (.c (.bool false)))] .ret) .skip)) (sr [mt 34 3,kl 35 153 [(.t 34)],mt 33 35,ee 36 33 0,ee 37 33 1,
  aB 5 32,sb 32 5 36,mt 4 37] (sr [mt 39 3,kl 40 154 [(.t 39),(cU 0)],mt 38 40,ee 41 38 0,ee 42 38 1,
  aB 6 32,sb 32 6 41,mt 7 42] (.seq (sr [mt 43 4,A1 44 (.eq true true (.iface [74]) (.t 43) (.c .nili)),mt 45 44,mg 46 45 false 7,A2 47 45 false (.eq true true (.iface [74]) (.t 46) (.c .nili)),
  BV 48 45 47,mt 49 48,A2 50 49 false (.load true 32 (.t 5)),A2 51 49 false (.load true 32 (.t 6)),A2 52 49 false (.eq false false (.ar 32 1 false .int) (.t 50) (.t 51)),
  BV 53 49 52] (.cond (.t 53) (sr [A1 0 (.mv (.c (.bool false)))] .ret) .skip)) (.seq (.regd [⟨0,0,la 55 32 5⟩,⟨1,1,kl 56 157 [(cI 1),(cU 10),(.t 55)]⟩,⟨2,0,mt 57 2⟩,⟨3,0,la 58 32 6⟩,⟨4,15,kl 59 112 [(.t 56),(.t 57),(cI 0),(.t 58),(cU 0)]⟩,⟨5,31,mt 54 59⟩,⟨6,63,ee 60 54 0⟩,⟨7,63,ee 61 54 1⟩,⟨8,127,mt 8 60⟩,⟨9,511,mt 4 61⟩]) (.seq (sr [mt 62 4,A1 63 (.eq true true (.iface [74]) (.t 62) (.c .nili)),mt 64 63,mg 65 64 false 8,A2 66 64 false (.eq false true .ptr (.t 65) (.c .nilp)),
  BV 67 64 66] (.cond (.t 67) (sr [A1 0 (.mv (.c (.bool false)))] .ret) .skip)) (sr [mt 69 8,mt 70 3,kl 71 124 [(.t 69),(.t 70)],mt 68 71,ee 72 68 0,ee 73 68 1,mt 9 72,mt 4 73] (sr [mt 75 8,A1 76 (.build (.ar 32 (.int .u8)) [(.i 1 0,1,(.c (.int .u8 1)))]),kl 77 110 [(.t 75),(cI 0),(.c (.bool false)),(.t 76),(cI 1),(cU 2),(cU 1)],mt 74 77,ee 78 74 0,ee 79 74 1,mt 10 78,mt 7 79] (sr [mt 81 8,mt 82 3,kl 83 124 [(.t 81),(.t 82)],mt 80 83,ee 84 80 0,ee 85 80 1,mt 11 84,mt 12 85] (sr [mt 86 4,A1 87 (.eq false true (.iface [74]) (.t 86) (.c .nili)),mt 88 87,mg 89 88 true 7,A2 90 88 true (.eq false true (.iface [74]) (.t 89) (.c .nili)),
  Fq 91 88 90,mt 92 91,mg 93 92 true 12,A2 94 92 true (.eq false true (.iface [74]) (.t 93) (.c .nili)),
  Fq 95 92 94,mt 96 95,mg 97 96 true 10,A2 98 96 true (.ari .eql (.t 97) (cI 1)),
  Fq 99 96 98,mt 100 99,mg 101 100 true 9,A2 102 100 true (.len 0 (.t 101)),A2 103 100 true (.ari .eql (.t 102) (cI 0)),
  Fq 104 100 103,mt 105 104,mg 106 105 true 11,A2 107 105 true (.len 0 (.t 106)),A2 108 105 true (.ari .eql (.t 107) (cI 1)),
  Fq 109 105 108,mt 110 109,mg 111 110 true 11,A2 112 110 true (.isl 151 (.t 111) (cI 0)),A2 113 110 true (.fadr 0 (.t 112)),A2 114 110 true (.load false 1 (.t 113)),A2 115 110 true (.ari .eql (.t 114) (cI 1)),
  Fq 116 110 115,mt 117 116,mg 118 117 true 11,A2 119 117 true (.isl 151 (.t 118) (cI 0)),A2 120 117 true (.fadr 1 (.t 119)),A2 121 117 true (.load false 1 (.t 120)),
  Fq 122 117 121,mt 123 122,mg 124 123 true 11,A2 125 123 true (.isl 151 (.t 124) (cI 0)),A2 126 123 true (.fadr 2 (.t 125)),A2 127 123 true (.load false 1 (.t 126)),A2 128 123 true (.un .not (.t 127)),
  Fq 129 123 128,mt 0 129] .ret)))))))))))))))
def Axp:LF:=⟨Axh,0,0,130,[.tmp 0]⟩
variable {M:Seat}
structure OkHi (M:Seat):Prop where
 v:OkHv M
 k75:Au M 75 f75=true
 k123:Au M 123 Awg=true
 k124:Au M 124 f124=true
 k151:Au M 151 Axn=true
 k156:Au M 156 Axi=true
 k157:Au M 157 Ax0=true
 k158:Au M 158 Axt=true
theorem Ati (ok:OkHi M):Ag M 151 [.nils] [] 0 (Q3 (.ptr 0 []) [(0,EJ.v)] 1):=by
 have hW:Ag M 75 [.nils] [] 0 (Q3 .nils [] 0):=by
  refine Ab ok.k75 rfl fun x hx=>?_
  refine es 2000 ?_;(simp only [f75,c75,LZ,seval])
  refine AW ?_
  refine es 2000 ?_
  (simp only [LZ,seval])
  exact Ar.mkZ hx [] ⟨rfl,rfl,rfl⟩
 have hL:=Avj ok.v.o.q.okA
 refine Ab ok.k151 rfl fun x hx=>?_
 refine es 2000 ?_;(simp only [Axn,Axy,LZ,seval])
 refine Ak (hW) ?_
 (simp only [LZ,seval])
 have zz:=@A3.eq_1;refine Kb (hL) ?_
 (simp only [AH,A3,seval])
 have zz:=C4 @Mc.v.eq_1 @EJ.eq_1 @A3.eq_1;exact Bf hx [48] ⟨rfl,rfl,rfl⟩
theorem Atn (ok:OkHi M) (d:Int) (l:BitVec 64) (s:Dg):Ag M 157 [.int .i64 d,W l,dg s] [] 0 (Q3 (Al d l 0#64 s) [] 0):=by
 refine Ab ok.k157 rfl fun x hx=>?_
 refine es 2000 ?_;(simp only [Ax0,Axm,LZ,seval])
 have zz:=C4 @Al.eq_1 @Ac.eq_1 @dg.eq_1;exact Bf hx [] ⟨rfl,rfl,rfl⟩
theorem Att (ok:OkHi M) (v:BitVec 64) (hv:¬ 281474976710656#64 < v) (hs:∀ n,n < 8→¬ 281474976710656#64 < HK v n + v):Ag M 156 [W v] [] 0 (Q3 (.ptr 0 []) [(0,Aq (DD v 8) (HK v 8) 0#64 .nils 0#64)] 1):=by
 have okL:=ok.v.g.t.s.v.g.l
 refine Ab ok.k156 rfl fun x hx=>?_
 refine es 2000 ?_;(simp only [Axi,Axo,LZ,seval])
 have zz:=@Aq.eq_1;refine Kb (MF okL) ?_
 (simp only [Aq,LZ,seval])
 refine An (σ:=Nat) (fun n=>n≤8) (fun n=>fr 20 [(0,W v),(3,.ptr 0 []),(6,.int .i64 n)]) (fun n=>[(0,Aq (DD v n) (HK v n) 0#64 .nils 0#64)]) (fun _=>1) (fun n=>8 - n) 0 Aa ?_ ?_
 ·refine Ao.fr [16] [] hx AQ Am ?_ ?_
  ·simp only [Int.natCast_zero,LY,seval]
  ·simp only [Aq,HK,DD,Nat.not_lt_zero,if_false,LY,seval]
 ·intro n h8
  refine es 2000 ?_
  by_cases hn:n=8
  ·subst hn
   have d0:(((8:Nat):Int) < 8)=False:=eq_false Aa
   (simp only [Aq,d0,LZ,seval])
   have zz:=@Aq.eq_1;exact Bf hx [0] ⟨rfl,rfl,rfl⟩
  ·have hn:n < 8:=Aa
   have d0:((n:Int) < 8)=True:=eq_true Aa
   have w0:IntKind.i64.wrap ((n:Int) + 1)=((n + 1:Nat):Int):=AZ
   have hp:=JJ okL (DD v n) (HK v n) 0#64 0#64 n hn v hv (hs n hn)
   (simp only [Aq,d0,LZ,seval])
   have zz:=@Aq.eq_1;refine SM [0] (hp) ?_
   (simp only [Aq,w0,LZ,seval])
   refine ⟨n + 1,by omega,by omega,?_⟩
   refine Ao.fr [0] [] hx AQ Am ?_ ?_
   ·simp only [LY,seval]
   ·simp only [Aq,HK,LY,seval]
    intro j hj
    unfold DD
    by_cases h:j=n
    ·rw [if_pos h,if_neg (show ¬ n < n by omega),if_pos (show j < n + 1 by omega),BitVec.zero_add]
    ·rw [if_neg h]
     by_cases h2:j < n
     ·rw [if_pos h2,if_pos (show j < n + 1 by omega)]
     ·rw [if_neg h2,if_neg (show ¬ j < n + 1 by omega)]
theorem At6 (ok:OkHi M) (v:V) (pl:Int) (t:BitVec 64) (hv:v = .st 151 (.fcons 0 (.int .i64 0) (.fcons 1 (.bool false) (.fcons 2 (.bool false) (.fcons 3 (dg Dg.zero) (.fcons 35 stZ .fnil)))))) :
 Ag M 158 [.nilp,v,.int .i64 pl,W t] [] 0 (Q3 (er 1) [] 0):=by
 subst hv
 refine Ab ok.k158 rfl fun x hx=>?_
 refine es 2000 ?_;(simp only [Axt,Axu,stZ,LZ,seval])
 exact Ar.mkZ hx [] ⟨rfl,rfl,rfl⟩
theorem Auv (ok:OkHi M) (d:Int):Ag M 152 [.nilp,.ptr 0 [],.int .i64 d] [] 1 (Q3 (Ah .nilp (er 1)) [] 1):=by
 refine Ab ok.v.a.r.n.k152 rfl fun x hx=>?_
 refine es 2000 ?_;(simp only [Ave,Avc,LZ,seval])
 have zz:=@Ah.eq_1;exact Bf hx [0] ⟨rfl,rfl,rfl⟩
theorem At3 (ok:OkHi M):Ag M 254 [.nilp,.ptr 0 []] [] 1 (Q3 (Ah .nilp (er 1)) [] 1):=by
 refine Ab ok.v.k254 rfl fun x hx=>?_
 refine es 2000 ?_;(simp only [Avn,Avl,LZ,seval])
 have zz:=@Ah.eq_1;exact Bf hx [0] ⟨rfl,rfl,rfl⟩
theorem Auj (ok:OkHi M) (c:Int):Ag M 123 [.nilp,.ptr 0 [],.int .i64 c] [] 1 (Q3 (Ah (.bool false) (er 1)) [] 1):=by
 have hS:=At3 ok
 refine Ab ok.k123 rfl fun x hx=>?_
 refine es 2000 ?_;(simp only [Awg,Awf,LZ,seval])
 refine cnK [0] [] (hS) (by constructor <;> (try simp only [LY,seval]) <;> exact q1) ?_
 (simp only [AH,seval])
 have zz:=@Ah.eq_1;exact Bf hx [0] ⟨rfl,rfl,rfl⟩
theorem Auz (ok:OkHi M) (d:Int):Ag M 152 [.ptr 0 [],.nilp,.int .i64 d] [] 1 (Q3 (Ah .nilp (er 1)) [] 1):=by
 refine Ab ok.v.a.r.n.k152 rfl fun x hx=>?_
 refine es 2000 ?_;(simp only [Ave,Avc,LZ,seval])
 have zz:=@Ah.eq_1;exact Bf hx [0] ⟨rfl,rfl,rfl⟩
theorem Ava (ok:OkHi M):Ag M 254 [.ptr 0 [],.nilp] [] 1 (Q3 (Ah .nilp (er 1)) [] 1):=by
 refine Ab ok.v.k254 rfl fun x hx=>?_
 refine es 2000 ?_;(simp only [Avn,Avl,LZ,seval])
 have zz:=@Ah.eq_1;exact Bf hx [0] ⟨rfl,rfl,rfl⟩
theorem Auo (ok:OkHi M) (c:Int):Ag M 123 [.ptr 0 [],.nilp,.int .i64 c] [] 1 (Q3 (Ah (.bool false) (er 1)) [] 1):=by
 have hS:=Ava ok
 refine Ab ok.k123 rfl fun x hx=>?_
 refine es 2000 ?_;(simp only [Awg,Awf,LZ,seval])
 refine cnK [0] [] (hS) (by constructor <;> (try simp only [LY,seval]) <;> exact q1) ?_
 (simp only [AH,seval])
 have zz:=@Ah.eq_1;exact Bf hx [0] ⟨rfl,rfl,rfl⟩
theorem Aty (ok:OkHi M):Ag M 124 [.nilp,.ptr 0 []] [] 1 (Q3 (Ah .nils (er 1)) [] 1):=by
 have hS:=At3 ok
 refine Ab ok.k124 rfl fun x hx=>?_
 refine es 2000 ?_;(simp only [f124,Avu,LZ,seval])
 refine cnK [0] [] (hS) (by constructor <;> (try simp only [LY,seval]) <;> exact q1) ?_
 (simp only [AH,seval])
 have zz:=@Ah.eq_1;exact Bf hx [0] ⟨rfl,rfl,rfl⟩
theorem Ats (ok:OkHi M):Ag M 153 [.nilp] [] 0 (Q3 (Ah (dg Dg.zero) (er 1)) [] 0):=by
 refine Ab ok.v.a.k153 rfl fun x hx=>?_
 refine es 2000 ?_;(simp only [Aw6,Aw1,LZ,seval])
 have zz:=Bb @Ah.eq_1 @dg.eq_1;exact Bf hx [] ⟨rfl,rfl,rfl⟩
theorem Auh (ok:OkHi M) (i:BitVec 64):Ag M 154 [.nilp,W i] [] 0 (Q3 (Ah (dg Dg.zero) (er 1)) [] 0):=by
 refine Ab ok.v.a.k154 rfl fun x hx=>?_
 refine es 2000 ?_;(simp only [Av4,Avt,LZ,seval])
 have zz:=Bb @Ah.eq_1 @dg.eq_1;exact Bf hx [] ⟨rfl,rfl,rfl⟩
theorem Atq (ok:OkHi M) (i:BitVec 64):Ag M 155 [.nilp,W i] [] 0 (Q3 (Ah stZ (er 1)) [] 0):=by
 refine Ab ok.v.k155 rfl fun x hx=>?_
 refine es 2000 ?_;(simp only [Awu,Aws,LZ,seval])
 have zz:=Bb @Ah.eq_1 @stZ.eq_1;exact Bf hx [] ⟨rfl,rfl,rfl⟩
theorem At4 (ok:OkHi M) (D:Int) (l g:BitVec 64) (s:Dg) (n a:Nat) (d:Int) (hd:(D=d)=False) :
 Ag M 254 [.ptr 0 [],.ptr 3 []] [(0,Ai D l g s (.ptr 2 []) (.sl 1 [] 0 n 42)),(3,EA (.sl 4 [] 0 a 3) d (.map 5) (.map 6))] 7 (Q3 (Ah .nilp (er 3)) [(0,Ai D l g s (.ptr 2 []) (.sl 1 [] 0 n 42)),(3,EA (.sl 4 [] 0 a 3) d (.map 5) (.map 6))] 7):=by
 have hR:=EU ok.v.g D l g s n
 refine Ab ok.v.k254 rfl fun x hx=>?_
 refine es 2000 ?_;(simp only [Avn,Avl,Ai,Al,Ac,EA,LZ,seval])
 have zz:=Ka @Ai.eq_1 @Al.eq_1 @Ac.eq_1 @dg.eq_1;refine L9 [0,1,2] [0] (hR) ?_
 (simp only [Al,Ac,Ai,EA,hd,LZ,seval])
 have zz:=Db @Ah.eq_1 @Ai.eq_1 @Al.eq_1 @Ac.eq_1 @EA.eq_1 @dg.eq_1;exact Bf hx [0,1,2,3,4,5,6] ⟨rfl,rfl,rfl⟩
theorem Aut (ok:OkHi M) (D:Int) (l g:BitVec 64) (s:Dg) (n a:Nat) (d:Int) (hd:(D=d)=False) (c:Int) :
 Ag M 123 [.ptr 0 [],.ptr 3 [],.int .i64 c] [(0,Ai D l g s (.ptr 2 []) (.sl 1 [] 0 n 42)),(3,EA (.sl 4 [] 0 a 3) d (.map 5) (.map 6))] 7 (Q3 (Ah (.bool false) (er 3)) [(0,Ai D l g s (.ptr 2 []) (.sl 1 [] 0 n 42)),(3,EA (.sl 4 [] 0 a 3) d (.map 5) (.map 6))] 7):=by
 have hS:=At4 ok D l g s n a d hd
 refine Ab ok.k123 rfl fun x hx=>?_
 refine es 2000 ?_;(simp only [Awg,Awf,Ai,Al,Ac,EA,LZ,seval])
 have zz:=GM @Ai.eq_1 @Al.eq_1 @Ac.eq_1 @EA.eq_1 @dg.eq_1;refine Bw [0,1,2,3,4,5,6] [0,3] (hS) ?_
 (simp only [AH,Ai,Al,Ac,EA,seval])
 have zz:=Db @Ah.eq_1 @Ai.eq_1 @Al.eq_1 @Ac.eq_1 @EA.eq_1 @dg.eq_1;exact Bf hx [0,1,2,3,4,5,6] ⟨rfl,rfl,rfl⟩
theorem Atw (ok:OkHi M) (D:Int) (l g:BitVec 64) (s:Dg) (n a:Nat) (d:Int) (hd:(D=d)=False) :
 Ag M 124 [.ptr 0 [],.ptr 3 []] [(0,Ai D l g s (.ptr 2 []) (.sl 1 [] 0 n 42)),(3,EA (.sl 4 [] 0 a 3) d (.map 5) (.map 6))] 7 (Q3 (Ah .nils (er 3)) [(0,Ai D l g s (.ptr 2 []) (.sl 1 [] 0 n 42)),(3,EA (.sl 4 [] 0 a 3) d (.map 5) (.map 6))] 7):=by
 have hS:=At4 ok D l g s n a d hd
 refine Ab ok.k124 rfl fun x hx=>?_
 refine es 2000 ?_;(simp only [f124,Avu,Ai,Al,Ac,EA,LZ,seval])
 have zz:=GM @Ai.eq_1 @Al.eq_1 @Ac.eq_1 @EA.eq_1 @dg.eq_1;refine Bw [0,1,2,3,4,5,6] [0,3] (hS) ?_
 (simp only [AH,Ai,Al,Ac,EA,seval])
 have zz:=Db @Ah.eq_1 @Ai.eq_1 @Al.eq_1 @Ac.eq_1 @EA.eq_1 @dg.eq_1;exact Bf hx [0,1,2,3,4,5,6] ⟨rfl,rfl,rfl⟩
structure OkHj (M:Seat):Prop where
 i:OkHi M
 k255:Au M 255 Axs=true
 k257:Au M 257 f257=true
 k359:Au M 359 Aaj=true
def vwG (g t c r n:Nat) (own:Int):V:=.st 5 (.fcons 0 (.ptr g []) (.fcons 1 (.ptr t []) (.fcons 2 (.sl c [] 0 n 42) (.fcons 3 (.sl r [] 0 n 1) (.fcons 4 (.int .i64 own) .fnil)))))
def acV (c:Int) (st df:Bool) (v:Dg) (p:V):V:=.st 151 (.fcons 0 (.int .i64 c) (.fcons 1 (.bool st) (.fcons 2 (.bool df) (.fcons 3 (dg v) (.fcons 35 p .fnil)))))
theorem At5 {M:Seat} (ok:OkHj M) (n:Nat) (hn:0 < n) (own:Int) (c:Nat→Cl) (rt:Nat→Bool) (hp:(c 0).par = -1) (hr:rt 0=true) :
 Ag M 255 [.ptr 0 [],.int .i64 0] [(0,vwG 1 2 3 4 n own),(3,Ap n c),(4,.ar 1 n fun j=>.bool (rt j))] 5 (Q3 (.bool true) [(0,vwG 1 2 3 4 n own),(3,Ap n c),(4,.ar 1 n fun j=>.bool (rt j))] 5):=by
 have d0:((0:Int) < (n:Int))=True:=eq_true Aa
 have d1:(0 < n)=True:=eq_true hn
 have d2:((n:Int)≤0)=False:=eq_false Aa
 refine Ab ok.k255 rfl fun x hx=>?_
 refine es 2000 ?_;(simp only [Axs,Axd,vwG,Ap,Cl.v,Ac,LZ,seval])
 refine AW ?_
 refine es 2000 ?_
 (simp only [vwG,Ap,Cl.v,Ac,d0,d1,d2,hp,hr,LZ,seval])
 repeat refine sd ?_
 have zz:=@dg.eq_1;exact Bf hx [0,1,2,3,4] ⟨rfl,rfl,rfl⟩
theorem Aup {M:Seat} (ok:OkHj M) (pres:List (Dg × Pr)) (l:List (Nat→BitVec 64)) (n:Nat) (own cl:Int) (c:Cl) (hst:c.st=false) (hpos:c.pos=2#64) :
 Ag M 257 [.ptr 13 [],.ptr 17 [],c.v] (hB pres l ++ [(13,vwG 14 0 15 16 n own),(17,acV cl true false Dg.zero stZ)]) 18 (Q3 (Ah (.bool true) .nili) (hB pres l ++ [(13,vwG 14 0 15 16 n own),(17,acV cl true false Dg.zero (BI (Dp EJ.f 13 0) EJ.h [Da EJ.f 0#64] Pr.zero))]) 18):=by
 have hT:=FA ok.i.v.g.t.s.v.g.p ok.k359 (D:=1) (k:=1) (i:=0) Am Am Am
 rw [show pw 1 0=2#64 by decide,show BitVec.ofNat 64 (Zp 1 1 0)=0#64 by decide] at hT
 have hP:=Auc ok.i.v pres l
 unfold hB at *
 generalize I3.com=C1 at *
 generalize Dp EJ.f 13 0=R0 at *
 generalize [Da EJ.f 0#64]=L0 at *
 simp only [Mc.v,Mc.h,EJ,I3,A3,BI,Hd.v,AM,EA,I2,Lv] at hP ⊢
 refine Ab ok.k257 rfl fun x hx=>?_
 refine es 2000 ?_;(simp only [f257,Axf,Cl.v,Ac,hst,hpos,vwG,acV,stZ,EA,I2,Lv,Mc.v,EJ,I3,Zt,B3,seval])
 refine Bq (hT) ?_
 (simp only [AH,vwG,acV,stZ,EA,I2,Lv,seval])
 refine cnK [0,1,2,3,4,5,6,7,8,9,10,11,12] [0,1,2,3,4,5,6,7,8,10,11,12] (hP) (by constructor <;> (try simp only [kn1,Bj,Lbx,seval]) <;> first | exact q1 | (intro j hj;rcases (show j=0 ∨ j=1 by omega) with rfl | rfl <;> simp only [Nat.one_ne_zero,CL,LY,seval])) ?_
 (simp only [Oh,I1,I4,Iu,kn1,vwG,acV,stZ,EA,I2,Lv,seval])
 refine Ar.mk hx [0,1,2,3,4,5,6,7,8,9,10,11,12,13,14,15,16,17] [] (Ah (.bool true) .nili) _ 18 Am (by (simp only [CU,seval])) (by simp only [LV,AH,seval,LY]) ?_ ⟨rfl,rfl,rfl⟩
 simp only [kn1,Lbx,I1,Bj,Be,vwG,acV,EA,I2,Lv,seval]
 intro j hj
 rcases (show j=0 ∨ j=1 by omega) with rfl | rfl <;> simp only [Nat.one_ne_zero,CL,LN,LP,V.ren,AV,A6,BS,Ex,seval,LY]
theorem At1 {M:Seat} (ok:OkHj M) (pres:List (Dg × Pr)) (l:List (Nat→BitVec 64)) (G:Gs) (hD:G.D=1) (hn:G.n=1) (hp:(G.c 0).pos=1#64) (hv:(G.c 0).val=I3.com) :
 Ag M 124 [.ptr 0 [],.ptr 4 []] (G.H ++ hC pres l) 17 (Q3 (Ah .nils .nili) (G.H ++ hC pres l) 17):=by
 have hS:=Avp ok.i.v ok.k359 pres l G hD hn hp hv
 have hP:=D4 ok.i.v.g.t.s.v.g.p
 unfold hC at *
 generalize I3.com=C1 at *
 simp only [Gs.H,hD,hn,Ai,Al,Ac,Ap,Cl.v,Aq,A7,A4,EA,I2,Lv,Mc.v,EJ,I3,A3,vwV,kn1,B3] at hS ⊢
 refine Ab ok.i.k124 rfl fun x hx=>?_
 refine es 2000 ?_;(simp only [f124,Avu,LZ,seval])
 have z1:IntKind.i64.wrap 1=1:=rfl
 refine cnK [0,1,2,3,4,5,6,7,8,9,10,11,12,13,14,15,16] [0,1,2,3,4,5,6,7,8,9,10,11,12,14,15,16] (hS) (by constructor <;> (try simp only [Bj,Lbx,seval]) <;> first | exact q1 | (intro j hj;rcases (show j=0 ∨ j=1 by omega) with rfl | rfl <;> simp only [Nat.one_ne_zero,CL,LY,seval])) ?_
 (simp only [NC,I1,I4,Iu,z1,hp,seval])
 refine AW ?_
 refine es 2000 ?_
 (simp only [hp,z1,LZ,seval])
 refine Ak (hP) ?_
 (simp only [AS,z1,LZ,seval])
 refine AW ?_
 refine es 2000 ?_
 (simp only [z1,LZ,seval])
 refine Ar.mk hx [0,1,2,3,4,5,6,7,8,9,10,11,12,13,14,15,16] [] (Ah .nils .nili) _ 17 Am (by (simp only [CU,seval])) (by simp only [LV,AH,seval,LY]) ?_ ⟨rfl,rfl,rfl⟩
 simp only [Lbx,I1,Bj,seval]
 intro j hj
 rcases (show j=0 ∨ j=1 by omega) with rfl | rfl <;> simp only [Nat.one_ne_zero,CL,LN,LP,V.ren,AV,A6,BS,Ex,seval,LY]
theorem Atz {M:Seat} (ok:OkHj M) (fn:EC M 257) (pres:List (Dg × Pr)) (l:List (Nat→BitVec 64)) (G:Gs) (hD:G.D=1) (hn:G.n=2) (hp:(G.c 0).pos=1#64) (hv:(G.c 0).val=I3.com) (hp1:(G.c 1).pos=2#64) (hv1:(G.c 1).val=d1 1#8) (hne:¬ I3.com=d1 1#8)
 (hr0:(G.c 0).par = -1) (hr1:(G.c 1).par=0) (hs1:(G.c 1).rs=false) (ht1:(G.c 1).st=false) :
 Ag M 124 [.ptr 0 [],.ptr 4 []] (G.H ++ hC pres l) 17 (Q3 (Ah (.sl 17 [] 0 1 151) .nili) (G.H ++ hC pres l ++ [(17,.ar 151 1 fun _=>acV 1 true false Dg.zero (BI (Dp EJ.f 13 0) EJ.h [Da EJ.f 0#64] Pr.zero))]) 18):=by
 have hS:=Au9 ok.i.v ok.k359 pres l G hD hn hp hv hp1 hv1 hne
 have hP:=D4 ok.i.v.g.t.s.v.g.p
 have hP2:=Bc ok.i.v.g.t.s.v.g.p (k:=1) (i:=0) Am Am
 rw [show pw 1 0=2#64 by decide] at hP2
 have hH:=At5 ok 2 Am 0 G.c (fun j=>decide (j=0)) hr0 rfl
 have hT:=Aup ok pres l 2 0 1 (G.c 1) ht1 hp1
 unfold hC hB at *
 generalize I3.com=C1 at *
 generalize Dp EJ.f 13 0=R0 at *
 generalize [Da EJ.f 0#64]=L0 at *
 simp only [Gs.H,hD,hn,Ai,Al,Ac,Ap,Cl.v,Aq,A7,A4,EA,I2,Lv,Mc.v,Mc.h,EJ,I3,A3,vwV,vwG,kn1,BI,Hd.v,AM,acV,stZ,hp1,hr1,hs1,ht1,B3] at hS hT hH ⊢
 refine Ab ok.i.k124 rfl fun x hx=>?_
 refine es 2000 ?_;(simp only [f124,Avu,LZ,seval])
 have z1:IntKind.i64.wrap 1=1:=rfl
 have z2:IntKind.i64.wrap 2=2:=rfl
 refine cnK [0,1,2,3,4,5,6,7,8,9,10,11,12,13,14,15,16] [0,1,2,3,4,5,6,7,8,9,10,11,12,14,15,16] (hS) (by constructor <;> (try simp only [Bj,Lbx,seval]) <;> first | exact q1 | (intro j hj;rcases (show j=0 ∨ j=1 by omega) with rfl | rfl <;> simp only [Nat.one_ne_zero,CL,LY,seval])) ?_
 (simp only [NC,I1,I4,Iu,z1,hp,seval])
 refine AW ?_
 refine es 2000 ?_
 (simp only [hp,z1,LZ,seval])
 refine Ak (hP) ?_
 (simp only [AS,z1,LZ,seval])
 refine AW ?_
 refine es 2000 ?_
 (simp only [z1,z2,hp1,hr1,hs1,ht1,LZ,seval])
 refine Ak (hP2) ?_
 (simp only [AS,z1,z2,hp1,hr1,hs1,ht1,LZ,seval])
 refine cnK [81,0,4,82,83] [81,82,83] (hH) (by constructor <;> (try simp only [Fz,dg,seval]) <;> first | exact q1 | (intro j hj;rcases (show j=0 ∨ j=1 by omega) with rfl | rfl <;> simp only [Nat.one_ne_zero,hp1,hr1,hs1,ht1,CL,LY,seval])) ?_
 (simp only [z1,z2,hp1,hr1,hs1,ht1,EE,seval])
 repeat refine sd ?_
 refine Axb (f:=257) fn rfl ?_
 refine cnK [4,5,6,7,8,9,10,11,12,13,14,15,16,81,0,82,83,1713] [4,5,6,7,8,9,10,11,12,14,15,16,81,1713] (hT) (by constructor <;> (try simp only [Bj,Lbx,seval]) <;> first | exact q1 | (intro j hj;rcases (show j=0 ∨ j=1 by omega) with rfl | rfl <;> simp only [Nat.one_ne_zero,CL,LY,seval])) ?_
 (simp only [Oh,I1,I4,Iu,z1,z2,seval])
 refine AW ?_
 refine es 2000 ?_
 (simp only [z1,LZ,seval])
 refine Ar.mk hx [0,1,2,3,4,5,6,7,8,9,10,11,12,13,14,15,16,2369] [] (Ah (.sl 17 [] 0 1 151) .nili) _ 18 Am (by (simp only [CU,seval])) (by simp only [LV,AH,seval,LY]) ?_ ⟨rfl,rfl,rfl⟩
 simp only [Lbx,I1,Bj,Be,seval]
 refine ⟨fun j hj=>?_,fun j hj=>?_⟩
 ·rcases (show j=0 ∨ j=1 by omega) with rfl | rfl <;> simp only [Nat.one_ne_zero,CL,LN,LP,V.ren,AV,A6,BS,Ex,seval,LY]
 ·obtain rfl:j=0:=Aa
  simp only [if_true,Be,Fz,seval]
end Mv
