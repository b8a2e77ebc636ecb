/- A part. -/
import Derived.Test.YtlfkjfonpacelaaGreatDoorJT
set_option linter.all false
set_option maxRecDepth 20000
set_option maxHeartbeats 16000000
namespace Mv
open Go
def Alb:LC:=(.seq (.regd [⟨0,0,mt 248 11⟩,⟨1,1,nc 249 248⟩,⟨2,3,fa 250 1 249⟩,⟨3,7,lb 251 1 250⟩,⟨4,0,mt 252 11⟩,⟨5,16,nc 253 252⟩,⟨6,48,fa 254 0 253⟩,⟨7,112,lb 255 1 254⟩,⟨8,0,mt 256 27⟩,⟨9,256,lN 257 0 256⟩,⟨10,1023,kl 258 123 [(.t 251),(.t 255),(.t 257)]⟩,⟨11,2047,mt 247 258⟩,⟨12,4095,ee 259 247 0⟩,⟨13,4095,ee 260 247 1⟩,⟨14,16383,mt 20 260⟩]) (sr [mt 261 20,A1 262 (.mkif 74 (cI 4)),kl 263 63 [(.t 261),(.t 262)],mt 10 263] .ret))
def XM:LC:=(sr [ak 221 .lss 220 219] (.seq (DJ 221 8) (.seq (.block 9 (sr [mt 222 220,mt 28 222] (.seq (.regd [⟨0,0,mt 224 11⟩,⟨1,1,nc 225 224⟩,⟨2,3,fa 226 1 225⟩,⟨3,7,lb 227 1 226⟩,⟨4,0,mt 228 11⟩,⟨5,16,nc 229 228⟩,⟨6,48,fa 230 0 229⟩,⟨7,112,lb 231 1 230⟩,⟨8,0,mt 232 28⟩,⟨9,511,kl 233 123 [(.t 227),(.t 231),(.t 232)]⟩,⟨10,1023,mt 223 233⟩,⟨11,2047,ee 234 223 0⟩,⟨12,2047,ee 235 223 1⟩,⟨13,4095,mt 29 234⟩,⟨14,16383,mt 30 235⟩]) (sr [mt 236 30,A1 237 (.eq true true (.iface [74]) (.t 236) (.c .nili)),mt 238 237,mg 239 238 false 29,mg 240 238 false 27,mg 241 238 false 28,A2 242 238 false (.isl 1 (.t 240) (.t 241)),A2 243 238 false (.load false 1 (.t 242)),A2 244 238 false (.eq true false .bool (.t 239) (.t 243)),
  CQ 245 238 244] (.cond (.t 245) (sr [A1 10 (.mv (.c (.bool false)))] .ret) .skip))))) (.reg [aI 246 .add 220 1,mt 220 246]))))
def ZI:LC:=(sr [mt 215 15,mt 216 16,kl 217 163 [(.t 215),(.t 216)],mt 27 217] (.seq (sr [mt 218 27,
  lN 219 0 218,
  mI 220 0] (.block 8 (.loop (XM))))
 (Alb)))
def PF:LC:=(sr [ak 140 .lss 139 138] (.seq (DJ 140 6) (.seq (.block 7 (sr [mt 141 139,ia 142 151 137 139,la 143 151 142,A1 23 (.alloc (.st (.cons zI (.cons .bool (.cons .bool (.cons zD (.cons zS .nil))))))),mt 22 141,sb 151 23 143] (sr [mt 144 21,mt 145 22,ia 146 36 144 145,la 147 36 146,A1 24 (.alloc (.st (.cons zI (.cons .bool (.cons .bool (.cons zD (.cons zU .nil))))))),sb 36 24 147] (.seq (sr [fa 148 0 23,lb 149 1 148,fa 150 0 24,lb 151 1 150,ak 152 .neq 149 151,mt 153 152,A2 154 153 false (.fadr 1 (.t 23)),A2 155 153 false (.load false 1 (.t 154)),A2 156 153 false (.fadr 1 (.t 24)),A2 157 153 false (.load false 1 (.t 156)),A2 158 153 false (.eq true false .bool (.t 155) (.t 157)),
  CQ 159 153 158,mt 160 159,A2 161 160 false (.fadr 2 (.t 23)),A2 162 160 false (.load false 1 (.t 161)),A2 163 160 false (.fadr 2 (.t 24)),A2 164 160 false (.load false 1 (.t 163)),A2 165 160 false (.eq true false .bool (.t 162) (.t 164)),
  CQ 166 160 165,mt 167 166,A2 168 167 false (.fadr 3 (.t 23)),A2 169 167 false (.load true 32 (.t 168)),A2 170 167 false (.fadr 3 (.t 24)),A2 171 167 false (.load true 32 (.t 170)),A2 172 167 false (.eq true false (.ar 32 1 false .int) (.t 169) (.t 171)),
  CQ 173 167 172] (.cond (.t 173) (sr [A1 10 (.mv (.c (.bool false)))] .ret) .skip)) (sr [fa 174 1 23,lb 175 1 174] (.cond (.t 175) (.seq (.regd [⟨0,0,mt 177 11⟩,⟨1,1,nc 178 177⟩,⟨2,3,fa 179 0 178⟩,⟨3,7,lb 180 1 179⟩,⟨4,0,fa 181 35 24⟩,⟨5,16,lb 182 1 181⟩,⟨6,63,kl 183 155 [(.t 180),(.t 182)]⟩,⟨7,127,mt 176 183⟩,⟨8,255,ee 184 176 0⟩,⟨10,0,A1 25 (.alloc zS)⟩,⟨11,1023,sb 116 25 184⟩,⟨9,255,ee 185 176 1⟩,⟨12,4095,mt 26 185⟩]) (sr [mt 186 26,A1 187 (.eq true true (.iface [74]) (.t 186) (.c .nili)),mt 188 187,A2 189 188 false (.fadr 0 (.t 25)),A2 190 188 false (.load true 32 (.t 189)),A2 191 188 false (.fadr 35 (.t 23)),A2 192 188 false (.fadr 0 (.t 191)),A2 193 188 false (.load true 32 (.t 192)),A2 194 188 false (.eq true false (.ar 32 1 false .int) (.t 190) (.t 193)),
  CQ 195 188 194,mt 196 195,A2 197 196 false (.fadr 32 (.t 25)),A2 198 196 false (.load true 19 (.t 197)),A2 199 196 false (.fadr 35 (.t 23)),A2 200 196 false (.fadr 32 (.t 199)),A2 201 196 false (.load true 19 (.t 200)),A2 202 196 false (.eq true false (.st (.cons 0 16 true (.ar 16 1 false .int) (.cons 16 1 false .int (.cons 17 1 false .bool (.cons 18 1 false .int .nil))))) (.t 198) (.t 201)),
  CQ 203 196 202,mt 204 203,A2 205 204 false (.fadr 51 (.t 25)),A2 206 204 false (.load false 1 (.t 205)),A2 207 204 false (.len 0 (.t 206)),A2 208 204 false (.fadr 35 (.t 23)),A2 209 204 false (.fadr 51 (.t 208)),A2 210 204 false (.load false 1 (.t 209)),A2 211 204 false (.len 0 (.t 210)),A2 212 204 false (.ari .neq (.t 207) (.t 211)),
  CQ 213 204 212] (.cond (.t 213) (sr [A1 10 (.mv (.c (.bool false)))] .ret) .skip))) .skip)))))) (.reg [aI 214 .add 139 1,mt 139 214]))))
def Vy:LC:=(.seq (sr [mt 137 19,
 lN 138 0 137,
 mI 139 0] (.block 6 (.loop (PF))))
 (ZI))
def Ys:LC:=(.seq (.regd [⟨0,0,mt 114 11⟩,⟨1,1,nc 115 114⟩,⟨2,3,fa 116 1 115⟩,⟨3,7,lb 117 1 116⟩,⟨4,0,mt 118 11⟩,⟨5,16,nc 119 118⟩,⟨6,48,fa 120 0 119⟩,⟨7,112,lb 121 1 120⟩,⟨8,255,kl 122 124 [(.t 117),(.t 121)]⟩,⟨9,511,mt 113 122⟩,⟨10,1023,ee 123 113 0⟩,⟨11,1023,ee 124 113 1⟩,⟨12,2047,mt 19 123⟩,⟨13,8191,mt 20 124⟩]) (sr [mt 125 15,mt 126 16,kl 127 169 [(.t 125),(.t 126)],mt 21 127] (.seq (sr [mt 128 20,A1 129 (.eq true true (.iface [74]) (.t 128) (.c .nili)),mt 130 129,mg 131 130 false 19,A2 132 130 false (.len 0 (.t 131)),mg 133 130 false 21,A2 134 130 false (.len 0 (.t 133)),A2 135 130 false (.ari .neq (.t 132) (.t 134)),
  CQ 136 130 135] (.cond (.t 136) (sr [A1 10 (.mv (.c (.bool false)))] .ret) .skip))
 (Vy))))
def UB:LC:=(sr [ak 105 .lss 104 103] (.seq (DJ 105 4) (.seq (.block 5 (sr [ia 106 32 102 104,la 107 32 106,
  aB 18 32,sb 32 18 107] (.reg [mt 108 16,la 109 32 18,A1 110 (.bsl 32 1 zD [(.i 32 0,32,(.t 109))]),
  aP 111 32 32 108 110,mt 16 111]))) (.reg [aI 112 .add 104 1,mt 104 112]))))
def Aci:LC:=(sr [mt 97 11,kl 98 162 [(.t 97)],mt 15 98] (sr [A1 16 (.mv (.c .nils))] (.seq (sr [mt 99 11,nc 100 99,fa 101 3 100,lb 102 1 101,
  lN 103 0 102,
  mI 104 0] (.block 4 (.loop (UB))))
 (Ys))))
def PP:LC:=(.seq (sr [mt 78 14,aI 79 .geq 78 0,mt 80 79,mg 81 80 true 14,mg 82 80 true 4,A2 83 80 true (.ari .gtr (.t 81) (.t 82)),
 HR 84 80 83]
 (DJ 84 2)) (.seq (.block 3 (.regd [⟨0,0,mt 87 11⟩,⟨1,1,nc 88 87⟩,⟨2,3,fa 89 1 88⟩,⟨3,7,lb 90 1 89⟩,⟨4,0,mt 91 14⟩,⟨5,0,mt 92 11⟩,⟨6,32,nc 93 92⟩,⟨7,96,fa 94 4 93⟩,⟨8,224,lb 95 1 94⟩,⟨9,511,kl 96 115 [(.t 90),(.t 91),(.t 95)]⟩])) (.reg [mt 85 14,aI 86 .sub 85 1,mt 14 86])))
def QV:LC:=(.seq (sr [mt 63 4,aI 64 .geq 63 0] (.cond (.t 64) (sr [mt 65 11,nc 66 65,fa 67 4 66,lb 68 1 67,
  aU 69 .add 68 10000,nc 70 65,fa 71 4 70,sb 1 71 69] (sr [mt 72 11,nc 73 72,fa 74 1 73,lb 75 1 74,kl 76 117 [(.t 75)],aI 77 .sub 76 1,mt 14 77] (.block 2 (.loop (PP))))) .skip))
 (Aci))
def QB:LC:=(sr [ak 53 .lss 52 51] (.seq (DJ 53 0) (.seq (.block 1 (sr [mt 54 52,ia 55 6 50 52,la 56 6 55,A1 13 (.alloc (.st (.cons zI (.cons zI (.cons zI (.cons .bool (.cons .bool (.cons zU .nil)))))))),mt 12 54,sb 6 13 56] (.seq (sr [mt 57 12,aI 58 .geq 57 20] (.cond (.t 58) (.exit 0) .skip)) (.reg [mt 59 11,la 60 6 13,kl 61 161 [(.t 59),(.t 60)]])))) (.reg [aI 62 .add 52 1,mt 52 62]))))
def c41:LC:=(sr [A1 10 (.mv (.c (.bool false)))] (sr [mt 31 1,
  DL 32 .u64 31,
  aU 33 .rem 32 4,
  DL 34 .i64 33,
  aJ 35 .add 1 34,mt 1 35] (sr [mt 36 0,mt 37 1,mt 38 2,kl 39 121 [(.t 36),(.t 37),(.t 38)],mt 11 39] (.seq (sr [mt 40 11,A1 41 (.eq false true .ptr (.t 40) (.c .nilp)),mt 42 41,⟨(some 43),.call 122 [],(some (42,false))⟩,A2 44 42 false (.un .not (.t 43)),
  CQ 45 42 44] (.cond (.t 45) (sr [A1 10 (.mv (.c (.bool false)))] .ret) .skip)) (.seq (sr [mt 46 0,mt 47 1,kl 48 159 [(.t 46),(.t 47)],A1 49 (.un .not (.t 48))] (.cond (.t 49) (sr [A1 10 (.mv (.c (.bool true)))] .ret) .skip)) (.seq (sr [mt 50 3,
  lN 51 0 50,
  mI 52 0] (.block 0 (.loop (QB))))
 (QV)))))))
def f41:LF:=⟨c41,5,0,264,[.tmp 10]⟩
theorem ofS (j:Nat):BitVec.ofNat 64 j + 1#64=BitVec.ofNat 64 (j + 1):=by rw [BitVec.ofNat_add]
theorem Apy (cm:BitVec 64→Dg) (d:Nat) (c:Cl):rtD (fun i=>cm (BitVec.ofNat 64 (i + 1))) d c=Fv cm d c:=by
 have:=Aim cm d c;simp only [ofS] at this;exact this
theorem Akn (cm:BitVec 64→Dg) (d:Nat) (c:Cl):Fv cm d c.pz=Fv cm d c:=rfl
theorem Yg (rt:Nat→Bool) (c:Nat→Cl):∀ (f:Nat) (i:Int),Nj rt (fun j=>(c j).pz) f i=Nj rt c f i
 | 0,_=>rfl
 | f + 1, i => by
   have ih:=Yg rt c f
   show (if i < 0 then true else if rt i.toNat=false then false else if (c i.toNat).par < 0 then true
    else if (c i.toNat).pos=Db (rt (c i.toNat).par.toNat) (c (c i.toNat).par.toNat).pos then Nj rt (fun j=>(c j).pz) f (c (c i.toNat).par.toNat).par else false)=_
   rw [ih];rfl
theorem Vl (c:Nat→Cl) (j:Nat) (p:BitVec 64) (C:Dg):∀ n,Dv (fun j=>(c j).pz) j p C n=Dv c j p C n
 | 0=>rfl
 | n + 1=>by rw [Dv,Dv,Vl c j p C n];rfl
theorem Ac2 (cm:BitVec 64→Dg) (d:Nat) (c:Nat→Cl) (n own j:Nat):CZ cm d (fun j=>(c j).pz) n own j=CZ cm d c n own j:=by
 unfold CZ;rw [Yg,Vl];rfl
structure OkHk (M:Seat):Prop where
 g:OkAg M
 r:OkOt M
 d:OkDp M
 k123:Ar M 123 Xd=true
 k162:Ar M 162 Aoj=true
 k163:Ar M 163 Ad2=true
 k164:Ar M 164 Afg=true
 k165:Ar M 165 Ki=true
 k169:Ar M 169 Aj4=true
 is:∀ a b:Int,Ae M 63 [.ifc 74 (.int .i64 a),.ifc 74 (.int .i64 b)] [] 0 (Q3 (.bool (decide (a=b))) [] 0)
noncomputable def SB (m0:Mc) (p0:List (Dg × Pr)) (d:Nat) (now:BitVec 64) (t:Tr) (G:Gs):Hp:=DF m0 p0 d now t G ++ [(12,CB d 0#64 0#64 Dg.zero (.sl 13 [] 0 G.n 43) (.ptr 15 [])),(13,C3 G.n fun j=>(G.c j).pz),(14,.ar 32 (2 ^ d) fun j=>dg (Ct m0 p0 (BitVec.ofNat 64 (j + 1))))]
theorem Avg {M:Seat} (ok:OkHk M) {x:Ctx} (hx:x.k=0) {m0:Mc} {p0:List (Dg × Pr)} (t:Tr) (d:Nat) (hd:1≤d∧d≤4) (hF:Full m0 p0 d t) (G:Gs) (hG:G.ok) (hD:G.D=d) (now:BitVec 64) (rb:Nat→Bool) :
 AV M x (Ap M x [RVr.tmp 10] fun r H' k'=>r = .bool true∧H'=[]∧k'=0) [.code Alb] 13 (fr 264 [(11,.ptr 0 []),(27,.sl 12 [] 0 G.n 1)]) (DF m0 p0 d now t G ++ [(12,.ar 1 G.n fun j=>.bool (rb j))]):=by
 have hR:=RL ok.g.e.e.v ok.k123 ok.g.e.e.k359 ok.g.a t d hd hF G hG hD G.n Aa;have hI:=ok.is 4 4;simp only [Tr.H,Gs.T,hD,As,Av,Ad,Au,Cl.v,A6,AQ,AM,Aw,Aq,er,B3] at hR;refine eX ?_;simp only [Alb,DF,Do,hD,As,Av,Ad,Au,Cl.v,A6,AQ,AM,Aw,Aq,B3,LZ,seval];have zz:=Em @Ah @Ao @Cp @Cg @b7;refine G6 [1,2,3,4,5,6,7,8,9,10] [1,2,3,4,5,6,7,8,9,10] (hR) ?_;simp only [Cz,seval];refine Aj (hI) ?_;simp only [LZ,seval];exact Ap.mkZ hx [] ⟨rfl,rfl,rfl⟩
theorem Asb {M:Seat} (ok:OkHk M) {x:Ctx} (hx:x.k=0) {m0:Mc} {p0:List (Dg × Pr)} (t:Tr) (d:Nat) (hd:1≤d∧d≤4) (hF:Full m0 p0 d t) (G:Gs) (hG:G.ok) (hD:G.D=d) (now:BitVec 64) :
 AV M x (Ap M x [RVr.tmp 10] fun r H' k'=>r = .bool true∧H'=[]∧k'=0) [.code ZI] 16 (fr 264 [(11,.ptr 0 []),(15,.ptr 12 []),(16,.sl 14 [] 0 (2 ^ d) 32)]) (SB m0 p0 d now t G):=by
 have hn0:=hG.n0;have hn64:=hG.w.hn;have hP:=hG.w.pls;rw [hD] at hP;have hE:=Avg ok hx t d hd hF G hG hD now (fun j=>Fv (Ct m0 p0) d (G.c j));have hRi:=I5 ok.d ok.k163 d hd.2 G.n hn64 (fun j=>(G.c j).pz) hP (fun i=>Ct m0 p0 (BitVec.ofNat 64 i + 1#64)) hn0;simp only [ofS,Apy,Akn,D8] at hRi;refine eX ?_;simp only [ZI,SB,DF,Do,hD,As,Av,Ad,Au,Cl.v,A6,AQ,AM,Aw,Aq,B3,LZ,seval];have zz:=Em @CB.eq_1 @C3.eq_1 @Cl.d.eq_1 @Cl.pz.eq_1 @b7;refine By [12,13,15,14] [12,13,14] (hRi) ?_;simp only [Bn,CB,C3,Cl.d,Cl.pz,Bt,seval];refine Am (σ:=Nat) (fun i=>i≤G.n) (fun i=>fr 264 [(11,.ptr 0 []),(27,.sl 12 [] 0 G.n 1),(219,.int .i64 G.n),(220,.int .i64 i)]) (fun i=>DF m0 p0 d now t G ++ [(12,.ar 1 G.n fun j=>.bool (Fv (Ct m0 p0) d (G.c j)))]) (fun _=>13) (fun i=>G.n - i) 0 Aa ?_ ?_
 ·unfold DF;refine Ak.fr [0,1,2,3,4,5,6,7,8,9,10,11,48] [] hx AG Al ?_ ?_
  ·simp only [Int.natCast_zero,LY,seval]
  ·simp only [Do,hD,As,Av,Ad,Au,Cl.v,A6,AQ,AM,Aw,Aq,B3,Ah,Ao,AH,BI,dg,seval]
 ·intro i hi;by_cases hin:i=G.n
  ·subst hin;have d0:((G.n:Int) < (G.n:Int))=False:=eq_false Aa;refine es 5 ?_;simp only [XM,d0,LZ,seval];refine AV.weak _ _ _ ?_ hE;unfold DF;refine Ak.fr [0,1,2,3,4,5,6,7,8,9,10,11,12] [] hx AG Al ?_ ?_
   ·simp only [LY,seval]
   ·simp only [Do,hD,As,Av,Ad,Au,Cl.v,A6,AQ,AM,Aw,Aq,B3,Ah,Ao,AH,BI,dg,seval]
  have d0:((i:Int) < (G.n:Int))=True:=eq_true Aa;have d1:(0≤(i:Int))=True:=eq_true Aa;have wI:IntKind.i64.wrap ((i:Int) + 1)=((i + 1:Nat):Int):=AW;have hR:=R4 ok.g.e.e.v ok.k123 ok.g.e.e.k359 ok.g.a t d hd hF G hG hD i Aa;simp only [Tr.H,Gs.T,hD,As,Av,Ad,Au,Cl.v,A6,AQ,AM,Aw,Aq,er,B3] at hR;refine eX ?_;simp only [XM,d0,d1,DF,Do,hD,As,Av,Ad,Au,Cl.v,A6,AQ,AM,Aw,Aq,B3,LZ,seval];have zz:=Em @Ah @Ao @Cp @Cg @b7;refine G6 [1,2,3,4,5,6,7,8,9,10] [1,2,3,4,5,6,7,8,9,10] (hR) ?_;simp only [Cz,d0,d1,wI,AE,B7,C4,seval];repeat refine sd ?_
  refine ⟨i + 1,by omega,by omega,?_⟩;refine Ak.fr [0,1,2,3,4,5,6,7,8,9,10,11,12] [] hx AG Al ?_ ?_
  ·simp only [LY,seval]
  ·simp only [Do,hD,As,Av,Ad,Au,Cl.v,A6,AQ,AM,Aw,Aq,B3,Ah,Ao,AH,BI,dg,seval]
noncomputable def hqL (m0:Mc) (p0:List (Dg × Pr)) (A:List Ask):Hp:=if A.length=0 then [] else [(16,.ar 151 A.length fun j=>(A.getD j default).v m0 p0),(17,.ar 36 A.length fun j=>(A.getD j default).d)]
theorem Aqi {M:Seat} (ok:OkHk M) {x:Ctx} (hx:x.k=0) {m0:Mc} {p0:List (Dg × Pr)} (t:Tr) (d:Nat) (hd:1≤d∧d≤4) (hF:Full m0 p0 d t) (G:Gs) (hG:G.ok) (hD:G.D=d) (now:BitVec 64) (hpl:∀ i,i < 2 ^ d→(CJ (xs m0 p0 i).2 (xs m0 p0 i).1).1=none) (A:List Ask) (hA:A.length≤64) (hpr:∀ i,i < A.length→(A.getD i default).st=true→(A.getD i default).pr < 2 ^ d) :
 AV M x (Ap M x [RVr.tmp 10] fun r H' k'=>r = .bool true∧H'=[]∧k'=0) [.code Vy] 18 (fr 264 [(11,.ptr 0 []),(15,.ptr 12 []),(16,.sl 14 [] 0 (2 ^ d) 32),(19,Ry A.length 16),(21,Gm A.length 17)]) (SB m0 p0 d now t G ++ hqL m0 p0 A):=by
 have hP5:=Asb ok hx t d hd hF G hG hD now;by_cases hl:A.length=0
 ·have hl':=eq_true hl;have d0:((0:Int) < 0)=False:=eq_false Aa;refine eX ?_;simp only [Vy,Ry,Gm,hqL,hl',if_true,List.append_nil,LZ,seval];refine A5 ?_;refine es 5 ?_;simp only [PF,LZ,seval];refine AV.weak _ _ _ ?_ hP5;unfold SB DF;refine Ak.fr [0,1,2,3,4,5,6,7,8,9,10,11,12,13,14,15] [] hx AG Al ?_ ?_
  ·simp only [LY,seval]
  ·simp only [Do,hD,As,Av,Ad,Au,Cl.v,A6,AQ,AM,Aw,Aq,CB,C3,Cl.d,Cl.pz,B3,Ah,Ao,AH,BI,dg,seval]
 ·have hl':=eq_false hl;refine eX ?_;simp only [Vy,Ry,Gm,hqL,hl',if_false,LZ,seval];refine Am (σ:=Nat) (fun i=>i≤A.length) (fun i=>fr 264 [(11,.ptr 0 []),(15,.ptr 12 []),(16,.sl 14 [] 0 (2 ^ d) 32),(21,.sl 17 [] 0 A.length 36),(137,.sl 16 [] 0 A.length 151),(138,.int .i64 A.length),(139,.int .i64 i)]) (fun i=>SB m0 p0 d now t G ++ [(16,.ar 151 A.length fun j=>(A.getD j default).v m0 p0),(17,.ar 36 A.length fun j=>(A.getD j default).d)]) (fun _=>18) (fun i=>A.length - i) 0 Aa ?_ ?_
  ·unfold SB DF;refine Ak.fr [0,1,2,3,4,5,6,7,8,9,10,11,12,13,14,15,16,17] [] hx AG Al ?_ ?_
   ·simp only [Int.natCast_zero,LY,seval]
   ·simp only [Do,hD,As,Av,Ad,Au,Cl.v,A6,AQ,AM,Aw,Aq,CB,C3,Cl.d,Cl.pz,B3,Ah,Ao,AH,Dp,I0,BI,dg,seval]
  ·intro i hi;by_cases hin:i=A.length
   ·subst hin;have d0:((A.length:Int) < (A.length:Int))=False:=eq_false Aa;refine es 5 ?_;simp only [PF,d0,LZ,seval];refine AV.weak _ _ _ ?_ hP5;unfold SB DF;refine Ak.fr [0,1,2,3,4,5,6,7,8,9,10,11,12,13,14,15] [] hx AG Al ?_ ?_
    ·simp only [LY,seval]
    ·simp only [Do,hD,As,Av,Ad,Au,Cl.v,A6,AQ,AM,Aw,Aq,CB,C3,Cl.d,Cl.pz,B3,Ah,Ao,AH,BI,dg,seval]
   have d0:((i:Int) < (A.length:Int))=True:=eq_true Aa;have d1:(0≤(i:Int))=True:=eq_true Aa;have wI:IntKind.i64.wrap ((i:Int) + 1)=((i + 1:Nat):Int):=AW;have hp:=hpr i Aa;have hdv:(A.getD i default).d = .st 36 (.fcons 0 (.int .i64 (A.getD i default).cl) (.fcons 1 (.bool (A.getD i default).st) (.fcons 2 (.bool (A.getD i default).df) (.fcons 3 (dg (A.getD i default).val) (.fcons 35 (W (BitVec.ofNat 64 (A.getD i default).pr)) .fnil))))):=rfl;have hav:(A.getD i default).v m0 p0=He (A.getD i default).cl (A.getD i default).st (A.getD i default).df (A.getD i default).val (if (A.getD i default).st=true then X6 m0 p0 (A.getD i default).pr else F5):=rfl;obtain ⟨y,ey⟩:∃ y,A.getD i default=y:=⟨_,rfl⟩
   cases hst:(A.getD i default).st with
   | true =>
     rw [hst] at hp hdv hav;rw [if_pos rfl] at hav;have hp:=hp rfl;have hPr:=GQ ok.r.p t d hF Aa (BitVec.ofNat 64 (A.getD i default).pr) (by have h16:2 ^ d≤2 ^ 4:=Nat.pow_le_pow_right Al hd.2;rw [BitVec.toNat_ofNat];omega);rw [show (BitVec.ofNat 64 (A.getD i default).pr).toNat=(A.getD i default).pr by have h16:2 ^ d≤2 ^ 4:=Nat.pow_le_pow_right Al hd.2;rw [BitVec.toNat_ofNat];omega,TC (hpl _ hp)] at hPr;obtain ⟨R,h,Lp,P,hSp⟩:∃ R h Lp P,X6 m0 p0 (A.getD i default).pr=DG R h Lp P:=⟨_,_,_,_,rfl⟩
     rw [hSp] at hPr hav;rw [ey] at hdv hav hPr;simp only [tH,Aw,Aq,DG,Hd.v,Ba] at hPr;refine eX ?_;simp only [PF,d0,d1,wI,hdv,hav,ey,He,F5,DG,Hd.v,Fm,SB,DF,Do,hD,As,Av,Ad,Au,Cl.v,A6,AQ,AM,Aw,Aq,CB,C3,Cl.d,Cl.pz,B3,seval];repeat refine sd ?_
     have zz:=Em @g8 @j5 @Cg @Cp @b7;refine G6 [1,2,3,4,5,6] [1,3,5,6] (hPr) ?_;simp only [Je,wI,Aju,Akx,C4,seval];refine ⟨i + 1,by omega,by omega,?_⟩;refine Ak.fr [0,1,2,3,4,5,6,7,8,9,10,11,12,13,14,15,16,17] [] hx AG Al ?_ ?_
     ·simp only [LY,seval]
     ·simp only [SB,DF,Do,hD,As,Av,Ad,Au,Cl.v,A6,AQ,AM,Aw,Aq,CB,C3,Cl.d,Cl.pz,B3,Ah,Ao,AH,Dp,I0,BI,dg,seval]
   | false =>
     rw [hst] at hdv hav;rw [if_neg B9] at hav;rw [ey] at hdv hav;refine eX ?_;simp only [PF,d0,d1,wI,hdv,hav,ey,He,F5,DG,Hd.v,Fm,SB,DF,Do,hD,As,Av,Ad,Au,Cl.v,A6,AQ,AM,Aw,Aq,CB,C3,Cl.d,Cl.pz,B3,seval];repeat refine sd ?_
     refine ⟨i + 1,by omega,by omega,?_⟩;refine Ak.fr [0,1,2,3,4,5,6,7,8,9,10,11,12,13,14,15,16,17] [] hx AG Al ?_ ?_
     ·simp only [LY,seval]
     ·simp only [SB,DF,Do,hD,As,Av,Ad,Au,Cl.v,A6,AQ,AM,Aw,Aq,CB,C3,Cl.d,Cl.pz,B3,Ah,Ao,AH,Dp,I0,BI,dg,seval]
theorem Ahq {G:Gs} (hG:G.ok) (T:Tre G) {cm:BitVec 64→Dg} {d own:Nat} (ho:own=if Fv cm d (G.c 0) then 0 else 1) (j:Nat) (hj:j < G.n) (hr:Fv cm d (G.c j)=true) (hno:¬ Gg (G.c j).pos % 2=own):N4 (G.c j).pos + 1 < 2 ^ Gg (G.c j).pos:=by
 by_cases h0:j=0
 ·subst h0;rw [hr] at ho;have:Gg (pw 0 0)=0:=BR Al Al;rw [T.q0,show (1#64:BitVec 64)=pw 0 0 by decide,this] at hno;exact absurd ho.symm hno
 ·obtain ⟨k',q',g1,g2,g3⟩:=ZB T (Nat.pos_of_ne_zero h0) hj;have hD2:=hG.w.hD;have g4:k'≤24:=Aa;have g5:q' < 2 ^ k':=Aa;rw [g1,BR g4 g5,CI g4 g5];exact g2
theorem NO {F:Nat→Option Ask} {P:Ask→Prop}:∀ n,(∀ j,j < n→∀ x,F j=some x→P x)→∀ i,i < (Cc F n).length→P ((Cc F n).getD i default)
 | 0,_,i,hi=>absurd hi (Nat.not_lt_zero _)
 | n + 1, h, i, hi => by
   have ih:=NO n (fun j hj=>h j Aa);rw [Cc] at hi ⊢;cases hF:F n with
   | none =>
     rw [hF,Option.toList_none,List.append_nil] at hi;rw [Option.toList_none,List.append_nil];exact ih i hi
   | some x =>
     rw [hF] at hi;rw [show (some x).toList=[x] from rfl] at hi ⊢;rw [List.length_append,List.length_singleton] at hi;rw [CU];by_cases h1:i < (Cc F n).length
     ·rw [if_pos h1];exact ih i h1
     ·rw [if_neg h1,if_pos Aa];exact h n Aa x hF
theorem Aft (m:List Nat) (m0:Mc) (p0:List (Dg × Pr)) (x:Ask):(x.v m0 p0).ren m=x.v m0 p0:=by
 unfold Ask.v He;cases x.st <;> rfl
theorem Ab1 (m:List Nat) (x:Ask):x.d.ren m=x.d:=rfl
theorem Ati {M:Seat} (ok:OkHk M) {x:Ctx} (hx:x.k=0) {m0:Mc} {p0:List (Dg × Pr)} (t:Tr) (d:Nat) (hd:1≤d∧d≤4) (hF:Full m0 p0 d t) (G:Gs) (hG:G.ok) (hD:G.D=d) (T:Tre G) (now:BitVec 64) (hpl:∀ i,i < 2 ^ d→(CJ (xs m0 p0 i).2 (xs m0 p0 i).1).1=none) :
 AV M x (Ap M x [RVr.tmp 10] fun r H' k'=>r = .bool true∧H'=[]∧k'=0) [.code Ys] 16 (fr 264 [(11,.ptr 0 []),(15,.ptr 12 []),(16,.sl 14 [] 0 (2 ^ d) 32)]) (SB m0 p0 d now t G):=by
 have hn0:=hG.n0;have hn64:=hG.w.hn;have hP:=hG.w.pls;rw [hD] at hP;obtain ⟨own,ho⟩:∃ own:Nat,own=if Fv (Ct m0 p0) d (G.c 0) then 0 else 1:=⟨_,rfl⟩
 have hq:=Ahq (cm:=Ct m0 p0) (d:=d) hG T ho;have hAct:=Xv ok.g t d hd hF G hG hD T hpl own ho _ rfl;have hAs:=Tk ok.d ok.k163 ok.k165 ok.k169 d hd G.n hn0 hn64 (fun j=>(G.c j).pz) hP hG.w.prs (Ct m0 p0) own ho hq _ rfl;rw [show CZ (Ct m0 p0) d (fun j=>(G.c j).pz) G.n own=CZ (Ct m0 p0) d G.c G.n own from funext fun j=>Ac2 _ _ _ _ _ _] at hAs;have hlen:=GG (CZ (Ct m0 p0) d G.c G.n own) G.n;have hpr:∀ i,i < (Cc (CZ (Ct m0 p0) d G.c G.n own) G.n).length→((Cc (CZ (Ct m0 p0) d G.c G.n own) G.n).getD i default).st=true→((Cc (CZ (Ct m0 p0) d G.c G.n own) G.n).getD i default).pr < 2 ^ d:=by
  refine NO (P:=fun y=>y.st=true→y.pr < 2 ^ d) _ (fun j hj y hy hst=>?_);unfold CZ at hy;by_cases h1:Gg (G.c j).pos % 2=own ∨ (G.c j).rs=true ∨ Nj (fun i=>Fv (Ct m0 p0) d (G.c i)) G.c 100 (G.c j).par=false
  ·rw [if_pos h1] at hy;cases hy
  rw [if_neg h1] at hy;by_cases h2:Gg (G.c j).pos=d
  ·rw [if_pos h2] at hy;by_cases h3:(G.c j).st=true
   ·rw [if_pos h3] at hy;cases hy
   rw [if_neg h3] at hy;cases hy;dsimp only;obtain ⟨k,q,hk,hq2,hpos⟩:=hP j hj;have e1:N4 (G.c j).pos < 2 ^ d:=by
    have:Gg (G.c j).pos=k:=by rw [hpos];exact BR Aa hq2
    rw [hpos,CI Aa hq2,← h2,this];exact hq2
   split
   ·rename_i hr;have:=hq j hj hr (fun h=>h1 (.inl h));rw [h2] at this;exact this
   ·exact e1
  ·rw [if_neg h2] at hy;split at hy
   ·cases hy
   ·cases hy;cases hst
 generalize Cc (CZ (Ct m0 p0) d G.c G.n own) G.n=A at *
 have hP4:=Aqi ok hx t d hd hF G hG hD now hpl A Aa hpr;have hl2:(A.length=0)=True ∨ (A.length=0)=False:=by
  by_cases h:A.length=0
  ·exact .inl (eq_true h)
  ·exact .inr (eq_false h)
 rcases hl2 with hl' | hl';all_goals
  simp only [hl',Tr.H,Gs.T,Ry,hD,As,Av,Ad,Au,Cl.v,A6,AQ,AM,Aw,Aq,B4,List.append_nil,B3] at hAct;simp only [hl',Gm,ofS,D8,CB,C3,Cl.d,Cl.pz,B4,List.append_nil,B3] at hAs;refine es 9 ?_;simp only [Ys,SB,DF,Do,hD,As,Av,Ad,Au,Cl.v,A6,AQ,AM,Aw,Aq,CB,C3,Cl.d,Cl.pz,B3,LZ,seval];have zz:=Em @Ah @Ao @Cp @Cg @b7;refine G6 [1,2,3,4,5,6,7,8,9,10] [1,2,3,4,5,6,7,8,9,10] (hAct) ?_;simp only [Cz,Aft,AE,B7,C4,seval];have zz:=@b7;refine By [12,13,15,14] [12,13,14] (hAs) ?_;simp only [Bn,Ab1,seval];refine AV.weak _ _ _ ?_ hP4;unfold SB DF hqL Ry Gm;refine Ak.fr [0,1,2,3,4,5,6,7,8,9,10,11,12,13,14,15,368,496] [] hx AG Al ?_ ?_
  ·simp only [hl',B4,LY,seval]
  ·simp only [hl',Do,hD,As,Av,Ad,Au,Cl.v,A6,AQ,AM,Aw,Aq,CB,C3,Cl.d,Cl.pz,B4,List.append_nil,B3,Ah,Ao,AH,Dp,I0,BI,dg,seval]
theorem Ai0 {M:Seat} (ok:OkHk M) {x:Ctx} (hx:x.k=0) {m0:Mc} {p0:List (Dg × Pr)} (t:Tr) (d:Nat) (hd:1≤d∧d≤4) (hF:Full m0 p0 d t) (G:Gs) (hG:G.ok) (hD:G.D=d) (T:Tre G) (now:BitVec 64) (hpl:∀ i,i < 2 ^ d→(CJ (xs m0 p0 i).2 (xs m0 p0 i).1).1=none) :
 AV M x (Ap M x [RVr.tmp 10] fun r H' k'=>r = .bool true∧H'=[]∧k'=0) [.code Aci] 12 (fr 264 [(11,.ptr 0 [])]) (DF m0 p0 d now t G):=by
 have h16:2 ^ d≤2 ^ 4:=Nat.pow_le_pow_right Al hd.2;have hpos:=Nat.two_pow_pos d;have hP3:=Ati ok hx t d hd hF G hG hD T now hpl;have hPl:=Rh ok.r.g ok.k164 ok.k162 G hG now (2 ^ d);simp only [pgH,hD,Do,As,Av,Ad,Au,Cl.v,CB,C3,Cl.d,Cl.pz,B3] at hPl;refine eX ?_;simp only [Aci,DF,Do,hD,As,Av,Ad,Au,Cl.v,A6,AQ,AM,Aw,Aq,LZ,seval];have zz:=@b7;refine By [0,7,8,9,10,1,11] [0,7,8] (hPl) ?_;simp only [Bn,Bt,seval];refine Am (σ:=Nat) (fun i=>i≤2 ^ d) (fun i=>fr 264 [(11,.ptr 0 []),(15,.ptr 12 []),(16,if i=0 then .nils else .sl 14 [] 0 i 32),(102,.sl 11 [] 0 (2 ^ d) 32),(103,.int .i64 (2 ^ d:Nat)),(104,.int .i64 i)]) (fun i=>DF m0 p0 d now t G ++ [(12,CB d 0#64 0#64 Dg.zero (.sl 13 [] 0 G.n 43) (.ptr 15 [])),(13,C3 G.n fun j=>(G.c j).pz)] ++ (if i=0 then [] else [(14,.ar 32 i fun j=>dg (Ct m0 p0 (BitVec.ofNat 64 (j + 1))))])) (fun _=>16) (fun i=>2 ^ d - i) 0 Aa ?_ ?_
 ·unfold DF;refine Ak.fr [0,1,2,3,4,5,6,7,8,9,10,11,28,29,27,30] [] hx AG Al ?_ ?_
  ·simp only [Int.natCast_zero,if_true,LY,seval]
  ·simp only [Do,hD,As,Av,Ad,Au,Cl.v,A6,AQ,AM,Aw,Aq,CB,C3,Cl.d,Cl.pz,if_true,List.append_nil,B3,Ah,Ao,AH,BI,dg,seval]
 ·intro i hi;by_cases hin:i=2 ^ d
  ·have d0:((i:Int) < ((2 ^ d:Nat):Int))=False:=eq_false Aa;have hz:(i=0)=False:=eq_false Aa;refine es 5 ?_;simp only [UB,d0,hz,if_false,LZ,seval];refine AV.weak _ _ _ ?_ hP3;unfold SB DF;refine Ak.fr [0,1,2,3,4,5,6,7,8,9,10,11,12,13,14,15] [] hx AG Al ?_ ?_
   ·simp only [hin,LY,seval]
   ·simp only [hin,Do,hD,As,Av,Ad,Au,Cl.v,A6,AQ,AM,Aw,Aq,CB,C3,Cl.d,Cl.pz,if_false,B3,Ah,Ao,AH,BI,dg,seval]
  have d0:((i:Int) < ((2 ^ d:Nat):Int))=True:=eq_true Aa;have d1:(0≤(i:Int))=True:=eq_true Aa;have wI:IntKind.i64.wrap ((i:Int) + 1)=((i + 1:Nat):Int):=AW;have hs1:(i + 1=0)=False:=eq_false Aa;refine eX ?_;by_cases h0:i=0
  ·have h0':=eq_true h0;simp only [UB,d0,d1,wI,h0',DF,Do,hD,As,Av,Ad,Au,Cl.v,A6,AQ,AM,Aw,Aq,CB,C3,Cl.d,Cl.pz,if_true,List.append_nil,B3,LZ,seval];repeat refine sd ?_
   refine ⟨i + 1,by omega,by omega,?_⟩;refine Ak.fr [0,1,2,3,4,5,6,7,8,9,10,11,12,13,144,15] [] hx AG Al ?_ ?_
   ·simp only [hs1,if_false,LY,seval];exact h0
   ·simp only [hs1,if_false,Do,hD,As,Av,Ad,Au,Cl.v,A6,AQ,AM,Aw,Aq,CB,C3,Cl.d,Cl.pz,B3,Ah,Ao,AH,BI,dg,seval];refine ⟨h0,fun j hj=>?_⟩;obtain rfl:j=i:=Aa;simp only [h0',if_true,dg,LY,seval]
  ·have h0':=eq_false h0;simp only [UB,d0,d1,wI,h0',DF,Do,hD,As,Av,Ad,Au,Cl.v,A6,AQ,AM,Aw,Aq,CB,C3,Cl.d,Cl.pz,if_false,B3,LZ,seval];repeat refine sd ?_
   refine ⟨i + 1,by omega,by omega,?_⟩;refine Ak.fr [0,1,2,3,4,5,6,7,8,9,10,11,12,13,144,15] [] hx AG Al ?_ ?_
   ·simp only [hs1,if_false,LY,seval]
   ·simp only [hs1,if_false,Do,hD,As,Av,Ad,Au,Cl.v,A6,AQ,AM,Aw,Aq,CB,C3,Cl.d,Cl.pz,B3,Ah,Ao,AH,BI,dg,seval];intro j hj;by_cases hji:j < i
    ·simp only [hji,if_true,dg,LY,seval]
    ·obtain rfl:j=i:=Aa;simp only [Nat.sub_self,hji,B4,dg,LY,seval]
theorem Auj {M:Seat} (ok:OkHk M) {x:Ctx} (hx:x.k=0) {m0:Mc} {p0:List (Dg × Pr)} (t:Tr) (d:Nat) (hd:1≤d∧d≤4) (hF:Full m0 p0 d t) (G:Gs) (hG:G.ok) (hD:G.D=d) (T:Tre G) (now:BitVec 64) (rs:Int) (hpl:∀ i,i < 2 ^ d→(CJ (xs m0 p0 i).2 (xs m0 p0 i).1).1=none) :
 AV M x (Ap M x [RVr.tmp 10] fun r H' k'=>r = .bool true∧H'=[]∧k'=0) [.code QV] 12 (fr 264 [(4,.int .i64 rs),(11,.ptr 0 [])]) (DF m0 p0 d now t G):=by
 have hn0:=hG.n0;have hn64:=hG.w.hn;by_cases hrs:0≤rs
 ·have hrs':=eq_true hrs;have hLn:=E4 ok.r.g G.D G.l G.g G.s G.n;have wn:IntKind.i64.wrap ((G.n:Int) - 1)=(G.n:Int) - 1:=Bu Aa;simp only [hD,As,Av,Ad] at hLn;refine eX ?_;simp only [QV,hrs',DF,Do,hD,As,Av,Ad,Au,Cl.v,A6,AQ,AM,Aw,Aq,LZ,seval];have zz:=@b7;refine By [7,8,9] [7] (hLn) ?_;simp only [wn,Bn,seval];generalize now + 10000#64=now';refine Am (σ:=Int × Gs) (fun s=>(-1≤s.1∧s.1 < s.2.n)∧s.2.ok∧s.2.D=d∧Tre s.2) (fun s=>fr 264 [(4,.int .i64 rs),(11,.ptr 0 []),(14,.int .i64 s.1)]) (fun s=>DF m0 p0 d now' t s.2) (fun _=>12) (fun s=>(s.1 + 1).toNat) ((G.n:Int) - 1,G) ⟨⟨by dsimp only;omega,by dsimp only;omega⟩,hG,hD,T⟩ ?_ ?_
  ·unfold DF;refine Ak.fr [0,1,2,3,4,5,6,7,8,9,10,11] [] hx AG Al ?_ ?_
   ·simp only [LY,seval]
   ·simp only [Do,hD,As,Av,Ad,Au,Cl.v,A6,AQ,AM,Aw,Aq,Ah,Ao,AH,BI,dg,seval]
  ·rintro ⟨i,K⟩ ⟨⟨h1,h2⟩,hK,hKD,hT⟩;dsimp only at h1 h2 hK hKD hT ⊢;have hP2:=Ai0 ok hx t d hd hF K hK hKD hT now' hpl;by_cases hc:0≤i∧rs < i
   ·have d0:=eq_true hc.1;have d1:=eq_true hc.2;obtain ⟨p,rfl⟩:∃ p:Nat,i=p:=⟨i.toNat,by omega⟩
    have wI:IntKind.i64.wrap ((p:Int) - 1)=(p:Int) - 1:=Bu (by have:=hK.w.hn;omega);have hRs:=ML ok.r.g K hK.w hK.b p now';simp only [Gs.H,hKD,As,Av,Ad,Au,Cl.v,A6,AQ,AM,Ex,B3] at hRs;cases he:K.rE p now' with
    | none =>
      have hR:=hRs.2 he;refine eX ?_;simp only [PP,d0,d1,DF,Do,hKD,As,Av,Ad,Au,Cl.v,A6,AQ,AM,Aw,Aq,LZ,seval];have zz:=@b7;refine G6 [7,8,9,10] [7,8,9,10] (hR) ?_;simp only [wI,Bn,seval];refine ⟨((p:Int) - 1,K.rsv p),by dsimp only;omega,by show (p:Int) - 1 < (K.n:Int);omega,Am0 hK Aa,hKD,Ahe hT p,by dsimp only;omega,?_⟩;have hKD2:(K.rsv p).D=d:=hKD;refine Ak.fr [0,1,2,3,4,5,6,7,8,9,10,11] [] hx AG Al ?_ ?_
      ·simp only [LY,seval]
      ·simp only [DF,Do,hKD2,hKD,As,Av,Ad,Au,Cl.v,A6,AQ,AM,Aw,Aq,Ah,Ao,AH,BI,dg,seval]
    | some e =>
      have hR:=hRs.1 e he;refine eX ?_;simp only [PP,d0,d1,DF,Do,hKD,As,Av,Ad,Au,Cl.v,A6,AQ,AM,Aw,Aq,LZ,seval];have zz:=@b7;refine G6 [7,8,9,10] [7,8,9,10] (hR) ?_;simp only [wI,Ex,Bn,seval];refine ⟨((p:Int) - 1,K),by dsimp only;omega,by dsimp only;omega,hK,hKD,hT,by dsimp only;omega,?_⟩;refine Ak.fr [0,1,2,3,4,5,6,7,8,9,10,11] [] hx AG Al ?_ ?_
      ·simp only [LY,seval]
      ·simp only [DF,Do,hKD,As,Av,Ad,Au,Cl.v,A6,AQ,AM,Aw,Aq,Ah,Ao,AH,BI,dg,seval]
   ·have hP2':=hP2;by_cases h0:0≤i
    ·have d0:=eq_true h0;have d1:(rs < i)=False:=eq_false (fun h=>hc ⟨h0,h⟩);refine es 5 ?_;simp only [PP,d0,d1,LZ,seval];refine AV.weak _ _ _ ?_ hP2;refine Ak.fr [0,1,2,3,4,5,6,7,8,9,10,11] [] hx AG Al ?_ ?_
     ·simp only [LY,seval]
     ·simp only [DF,Do,hKD,As,Av,Ad,Au,Cl.v,A6,AQ,AM,Aw,Aq,Ah,Ao,AH,BI,dg,seval]
    ·have d0:=eq_false h0;refine es 5 ?_;simp only [PP,d0,LZ,seval];refine AV.weak _ _ _ ?_ hP2;refine Ak.fr [0,1,2,3,4,5,6,7,8,9,10,11] [] hx AG Al ?_ ?_
     ·simp only [LY,seval]
     ·simp only [DF,Do,hKD,As,Av,Ad,Au,Cl.v,A6,AQ,AM,Aw,Aq,Ah,Ao,AH,BI,dg,seval]
 ·have hrs':=eq_false hrs;have hP2:=Ai0 ok hx t d hd hF G hG hD T now hpl;refine es 5 ?_;simp only [QV,hrs',LZ,seval];refine AV.weak _ _ _ ?_ hP2;refine Ak.fr [0,1,2,3,4,5,6,7,8,9,10,11] [] hx AG Al ?_ ?_
  ·simp only [LY,seval]
  ·simp only [DF,Do,hD,As,Av,Ad,Au,Cl.v,A6,AQ,AM,Aw,Aq,Ah,Ao,AH,BI,dg,seval]
theorem Aqp (d:Nat) (hd:1≤d∧d≤4) (st fi:Dg) (bv:Nat→BitVec 64) (sv:BitVec 64):(gB d st fi bv sv).ok:=XU 5000#64 0#64 ⟨by decide,by decide,by decide⟩ d Aa st fi 1 Al 0#64 bv sv 0#64 0#64
end Mv
