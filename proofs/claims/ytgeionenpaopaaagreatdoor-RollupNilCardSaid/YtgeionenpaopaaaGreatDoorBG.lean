/- A part. -/
import Derived.Test.YtgeionenpaopaaaGreatDoorBB
set_option linter.all false
set_option maxRecDepth 20000
set_option maxHeartbeats 4000000
namespace Mv
open Go
def Aoe:LC:=(sr [mn 2] (sr [mt 6 0,A1 7 (.build (.st (.cons zI (.cons .bool (.cons .bool (.cons .slice (.cons zI .nil)))))) [(.f 3,1,(.t 6))]),
  bX 8 7,mt 3 8] (.seq (sr [mt 9 0,
  lN 10 0 9,
  mI 11 0] (.block 0 (.loop (sr [ak 12 .lss 11 10] (.seq (Fy 12 0) (.seq (.block 1 (sr [mt 13 11,ia 14 3 9 11,la 15 3 14,A1 5 (.alloc (.st (.cons zI (.cons zI (.cons .slice .nil))))),mt 4 13,sb 3 5 15] (sr [mt 16 3,mt 17 4,nc 18 16,fa 19 4 18,sb 1 19 17] (sr [mt 20 3,mt 21 3,nc 22 21,fa 23 2 22,lb 24 1 23,mt 25 24,A2 26 25 false (.fadr 0 (.t 5)),A2 27 25 false (.load false 1 (.t 26)),A2 28 25 false (.ari .lss (.t 27) (cI 0)),
  FB 29 25 28,mt 30 29,A2 31 30 false (.fadr 0 (.t 5)),A2 32 30 false (.load false 1 (.t 31)),A2 33 30 false (.fadr 1 (.t 5)),A2 34 30 false (.load false 1 (.t 33)),A2 35 30 false (.ari .gtr (.t 32) (.t 34)),
  FB 36 30 35,mt 37 36,A2 38 37 false (.fadr 1 (.t 5)),A2 39 37 false (.load false 1 (.t 38)),A2 40 37 false (.ari .gtr (.t 39) (cI 24)),
  FB 41 37 40,mt 42 41,mg 43 42 false 4,A2 44 42 false (.ari .eql (.t 43) (cI 0)),mg 45 42 false 44,A2 46 45 true (.fadr 0 (.t 5)),A2 47 45 true (.load false 1 (.t 46)),A2 48 45 true (.ari .neq (.t 47) (cI 0)),A2 49 42 false (.pick (.t 45) (.t 48) (.c (.bool false))),
  FB 50 42 49,nc 51 20,fa 52 2 51,sb 1 52 50] (.reg [mt 53 3,fa 54 2 5,lb 55 1 54,kl 56 287 [(.t 53),(.t 55),(cI 16)]]))))) (.reg [aI 57 .add 11 1,mt 11 57]))))))) (.seq (.block 2 (sr [mt 59 3,nc 60 59,fa 61 1 60,lb 62 1 61,mt 58 62] (.cond (.t 58) (sr [A1 63 (.mkif 74 (cI 13)),mt 2 63] .ret) (sr [mt 65 3,nc 66 65,fa 67 0 66,lb 68 1 67,aI 69 .gtr 68 6000,mt 70 69,mg 71 70 false 0,A2 72 70 false (.len 0 (.t 71)),A2 73 70 false (.ari .gtr (.t 72) (cI 64)),
  FB 74 70 73,mt 64 74] (.cond (.t 64) (sr [A1 75 (.mkif 74 (cI 5)),mt 2 75] .ret) (sr [mt 77 3,nc 78 77,fa 79 2 78,lb 80 1 79,mt 81 80,mg 82 81 false 0,A2 83 81 false (.len 0 (.t 82)),A2 84 81 false (.ari .eql (.t 83) (cI 0)),
  FB 85 81 84,mt 76 85] (.cond (.t 76) (sr [A1 86 (.mkif 74 (cI 3)),mt 2 86] .ret) .skip))))))) (sr [mn 2] .ret)))))
def Ahb:LF:=⟨Aoe,1,0,87,[.tmp 2]⟩
def Aix:LC:=(.seq (sr [mt 12 2,aI 13 .eql 12 0,mt 14 13,mg 15 14 true 1,A2 16 14 true (.len 0 (.t 15)),A2 17 14 true (.ari .gtr (.t 16) (cI 0)),
 N6 18 14 17] (.cond (.t 18) (sr [mt 19 0,nc 20 19,fa 21 1 20,A0 (.store 1 (.t 21) (.c (.bool true)))] .ret) .skip)) (sr [mt 22 1,
  lN 23 0 22,
  mI 24 0] (.block 0 (.loop (sr [ak 25 .lss 24 23] (.seq (Fy 25 0) (.seq (.block 1 (sr [ia 26 10 22 24,la 27 10 26,A1 7 (.alloc (.st (.cons zI (.cons zI (.cons (.st (.cons zI (.cons zU (.cons .slice .nil)))) (.cons (.st (.cons zI (.cons zU (.cons .slice .nil)))) (.cons .slice (.cons .slice .nil)))))))),sb 10 7 27] (sr [mt 28 0,nc 29 28,fa 30 0 29,lb 31 1 30,aI 32 .add 31 1,nc 33 28,fa 34 0 33,sb 1 34 32] (sr [fa 36 0 7,lb 37 1 36,kl 38 367 [(.t 37)],mt 35 38,ee 39 35 0,ee 40 35 1,ee 41 35 2,ee 42 35 3,mt 8 39,mt 9 40,mt 10 41,mt 11 42] (.seq (.regd [⟨0,0,mt 43 0⟩,⟨1,0,mt 44 0⟩,⟨2,2,nc 45 44⟩,⟨3,6,fa 46 2 45⟩,⟨4,14,lb 47 1 46⟩,⟨5,30,mt 48 47⟩,⟨6,62,mg 49 48 false 8⟩,⟨7,126,A2 50 48 false (.un .not (.t 49))⟩,⟨8,254,FB 51 48 50⟩,⟨9,510,mt 52 51⟩,⟨10,1022,A2 53 52 false (.fadr 0 (.t 7))⟩,⟨11,2046,A2 54 52 false (.load false 1 (.t 53))⟩,⟨12,4094,A2 55 52 false (.ari .eql (.t 54) (cI 1))⟩,⟨13,8190,mg 56 52 false 55⟩,⟨14,16382,A2 57 56 true (.fadr 1 (.t 7))⟩,⟨15,32766,A2 58 56 true (.load false 1 (.t 57))⟩,⟨16,65534,A2 59 56 true (.ari .lss (.t 58) (cI 0))⟩,⟨17,131070,mg 60 56 true 59⟩,⟨18,262142,A2 61 60 false (.fadr 1 (.t 7))⟩,⟨19,524286,A2 62 60 false (.load false 1 (.t 61))⟩,⟨20,262142,mg 63 60 false 0⟩,⟨21,1310718,A2 64 60 false (.nilc (.t 63))⟩,⟨22,3407870,A2 65 60 false (.fadr 3 (.t 64))⟩,⟨23,7602174,A2 66 60 false (.load false 1 (.t 65))⟩,⟨24,262142,mg 67 60 false 0⟩,⟨25,17039358,A2 68 60 false (.nilc (.t 67))⟩,⟨26,50593790,A2 69 60 false (.fadr 4 (.t 68))⟩,⟨27,117702654,A2 70 60 false (.load false 1 (.t 69))⟩,⟨28,267649022,A2 71 60 false (.isl 3 (.t 66) (.t 70))⟩,⟨29,536084478,A2 72 60 false (.fadr 1 (.t 71))⟩,⟨30,1072955390,A2 73 60 false (.load false 1 (.t 72))⟩,⟨31,2147483646,A2 74 60 false (.ari .geq (.t 62) (.t 73))⟩,⟨32,4294967294,A2 75 56 true (.pick (.t 60) (.c (.bool true)) (.t 74))⟩,⟨33,8589934590,A2 76 52 false (.pick (.t 56) (.t 75) (.c (.bool false)))⟩,⟨34,17179869182,FB 77 52 76⟩,⟨35,34359738367,nc 78 43⟩,⟨36,68719476735,fa 79 2 78⟩,⟨37,137438953471,sb 1 79 77⟩]) (.seq (sr [mt 80 8] (.cond (.t 80) (.reg [mt 81 0,fa 82 2 7,la 83 3 82,kl 84 368 [(.t 81),(.t 83),(cI 8)]]) .skip)) (.seq (sr [mt 85 9] (.cond (.t 85) (.reg [mt 86 0,fa 87 5 7,la 88 3 87,kl 89 368 [(.t 86),(.t 88),(cI 8)]]) .skip)) (.seq (sr [mt 90 10] (.cond (.t 90) (.reg [mt 91 0,fa 92 8 7,lb 93 1 92,mt 94 2,aI 95 .sub 94 1,kl 96 287 [(.t 91),(.t 93),(.t 95)]]) .skip)) (sr [mt 97 11] (.cond (.t 97) (.reg [mt 98 0,fa 99 9 7,lb 100 1 99,mt 101 2,aI 102 .sub 101 1,kl 103 287 [(.t 98),(.t 100),(.t 102)]]) .skip)))))))))) (.reg [aI 104 .add 24 1,mt 24 104]))))))))
def Ae8:LF:=⟨Aix,3,0,105,[]⟩
def Ans:LC:=(sr [A1 2 (.mv (.c (.bool false))),A1 3 (.mv (.c (.bool false))),A1 4 (.mv (.c (.bool false))),A1 5 (.mv (.c (.bool false)))] (.seq (sr [mt 6 0] (.block 0 (.seq (sr [aI 8 .eql 6 1,mt 7 8] (.cond (.t 7) .skip (sr [aI 9 .eql 6 5,mt 7 9] (.cond (.t 7) .skip (sr [aI 10 .eql 6 6,mt 7 10] (.cond (.t 7) .skip (.reg [aI 11 .eql 6 7,mt 7 11]))))))) (.cond (.t 7) (sr [A1 2 (.mv (.c (.bool true))),A1 3 (.mv (.c (.bool false))),A1 4 (.mv (.c (.bool false))),A1 5 (.mv (.c (.bool false)))] .ret) (sr [aI 13 .eql 6 2,mt 12 13] (.cond (.t 12) (sr [A1 2 (.mv (.c (.bool true))),A1 3 (.mv (.c (.bool true))),A1 4 (.mv (.c (.bool false))),A1 5 (.mv (.c (.bool false)))] .ret) (sr [aI 15 .eql 6 3,mt 14 15] (.cond (.t 14) (sr [A1 2 (.mv (.c (.bool true))),A1 3 (.mv (.c (.bool false))),A1 4 (.mv (.c (.bool true))),A1 5 (.mv (.c (.bool true)))] .ret) (sr [aI 17 .eql 6 4,mt 16 17] (.cond (.t 16) (sr [A1 2 (.mv (.c (.bool true))),A1 3 (.mv (.c (.bool false))),A1 4 (.mv (.c (.bool true))),A1 5 (.mv (.c (.bool false)))] .ret) .skip)))))))))) (sr [A1 2 (.mv (.c (.bool false))),A1 3 (.mv (.c (.bool false))),A1 4 (.mv (.c (.bool false))),A1 5 (.mv (.c (.bool false)))] .ret)))
def Aig:LF:=⟨Ans,1,0,18,[.tmp 2,.tmp 3,.tmp 4,.tmp 5]⟩
def Anx:LC:=(sr [bX 4 1] (sr [mt 8 0,nc 9 8,fa 10 0 9,lb 11 1 10,aI 12 .add 11 1,nc 13 8,fa 14 0 13,sb 1 14 12] (.seq (sr [mt 15 2,aI 16 .eql 15 0] (.cond (.t 16) (sr [mt 17 0,nc 18 17,fa 19 1 18,A0 (.store 1 (.t 19) (.c (.bool true)))] .ret) .skip)) (sr [mt 20 0,la 21 3 4,kl 22 458 [(.t 20),(.t 21)]] (sr [fa 23 2 4,lb 24 1 23,
  lN 25 0 24,
  mI 26 0] (.block 0 (.loop (sr [ak 27 .lss 26 25] (.seq (Fy 27 0) (.seq (.block 1 (sr [ia 28 3 24 26,la 29 3 28,A1 7 (.alloc (.st (.cons zI (.cons zU (.cons .slice .nil))))),sb 3 7 29] (.reg [mt 30 0,la 31 3 7,mt 32 2,aI 33 .sub 32 1,kl 34 368 [(.t 30),(.t 31),(.t 33)]]))) (.reg [aI 35 .add 26 1,mt 26 35])))))))))))
def Als:LF:=⟨Anx,3,0,36,[]⟩
def NX:LC:=(sr [bX 3 1] (sr [fa 7 0 3,lb 8 1 7,kl 9 492 [(.t 8)],mt 6 9,ee 10 6 0,ee 11 6 1,mt 4 10,mt 5 11] (.seq (sr [fa 12 0 3,lb 13 1 12] (.block 0 (sr [aI 15 .eql 13 26,mt 14 15] (.cond (.t 14) (.reg [mI 4 0,mn 5]) (sr [aI 17 .eql 13 27,mt 16 17] (.cond (.t 16) (sr [mI 4 0,mn 5]
 (.regd [⟨0,0,mt 18 0⟩,⟨1,0,mt 19 0⟩,⟨2,2,nc 20 19⟩,⟨3,6,fa 21 2 20⟩,⟨4,14,lb 22 1 21⟩,⟨5,30,mt 23 22⟩,⟨6,62,A2 24 23 false (.fadr 1 (.t 3))⟩,⟨7,126,A2 25 23 false (.load false 1 (.t 24))⟩,⟨8,62,mg 26 23 false 0⟩,⟨9,318,A2 27 23 false (.nilc (.t 26))⟩,⟨10,830,A2 28 23 false (.fadr 3 (.t 27))⟩,⟨11,1854,A2 29 23 false (.load false 1 (.t 28))⟩,⟨12,62,mg 30 23 false 0⟩,⟨13,4158,A2 31 23 false (.nilc (.t 30))⟩,⟨14,12350,A2 32 23 false (.fadr 4 (.t 31))⟩,⟨15,28734,A2 33 23 false (.load false 1 (.t 32))⟩,⟨16,65342,A2 34 23 false (.isl 3 (.t 29) (.t 33))⟩,⟨17,130878,A2 35 23 false (.fadr 1 (.t 34))⟩,⟨18,261950,A2 36 23 false (.load false 1 (.t 35))⟩,⟨19,524094,A2 37 23 false (.mm true (cI 0) (.t 36))⟩,⟨20,1048382,A2 38 23 false (.conv .u64 (.t 37))⟩,⟨21,2097150,A2 39 23 false (.ari .geq (.t 25) (.t 38))⟩,⟨22,4194302,FB 40 23 39⟩,⟨23,8388607,nc 41 18⟩,⟨24,16777215,fa 42 2 41⟩,⟨25,33554431,sb 1 42 40⟩])) (sr [aI 44 .eql 13 28,mt 43 44] (.cond (.t 43) (.reg [mI 4 1,mn 5]) (.seq (sr [aI 46 .eql 13 30,mt 45 46] (.cond (.t 45) .skip (.reg [aI 47 .eql 13 31,mt 45 47]))) (.cond (.t 45) (.reg [mI 4 2,mn 5]) (sr [aI 49 .eql 13 29,mt 48 49] (.cond (.t 48) (.seq (.seq (.regd [⟨0,0,fa 50 1 3⟩,⟨1,1,lb 51 1 50⟩,⟨2,0,mt 52 0⟩,⟨3,4,nc 53 52⟩,⟨4,12,fa 54 4 53⟩,⟨5,28,lb 55 1 54⟩,⟨6,60,Ea 56 .u64 55⟩,⟨7,127,ak 57 .leq 51 56⟩,⟨8,255,mt 58 57⟩,⟨9,511,A2 59 58 false (.fadr 1 (.t 3))⟩,⟨10,1023,A2 60 58 false (.load false 1 (.t 59))⟩,⟨11,511,mg 61 58 false 0⟩,⟨12,2559,A2 62 58 false (.nilc (.t 61))⟩,⟨13,6655,A2 63 58 false (.fadr 3 (.t 62))⟩,⟨14,14847,A2 64 58 false (.load false 1 (.t 63))⟩,⟨15,31231,A2 65 58 false (.len 0 (.t 64))⟩,⟨16,63999,A2 66 58 false (.conv .u64 (.t 65))⟩,⟨17,131071,A2 67 58 false (.ari .geq (.t 60) (.t 66))⟩,⟨18,262143,FB 68 58 67⟩]) (.cond (.t 68) (sr [mt 69 0,nc 70 69,fa 71 2 70,A0 (.store 1 (.t 71) (.c (.bool true)))] .ret) .skip))
 (.regd [⟨0,0,mt 72 0⟩,⟨1,1,nc 73 72⟩,⟨2,3,fa 74 3 73⟩,⟨3,7,lb 75 1 74⟩,⟨4,0,fa 76 1 3⟩,⟨5,16,lb 77 1 76⟩,⟨6,63,ia 78 3 75 77⟩,⟨7,127,fa 79 0 78⟩,⟨8,255,lb 80 1 79⟩,⟨9,511,mt 4 80⟩,⟨10,1023,mn 5⟩])) .skip)))))))))))) (.reg [mt 81 0,mt 82 0,nc 83 82,fa 84 2 83,lb 85 1 84,mt 86 85,mg 87 86 false 5,A2 88 86 false (.eq true true (.iface [74]) (.t 87) (.c .nili)),
  FB 89 86 88,mt 90 89,mg 91 90 false 4,A2 92 90 false (.fadr 2 (.t 3)),A2 93 90 false (.load false 1 (.t 92)),A2 94 90 false (.len 0 (.t 93)),A2 95 90 false (.ari .neq (.t 91) (.t 94)),
  FB 96 90 95,nc 97 81,fa 98 2 97,sb 1 98 96]))))
def N3:LF:=⟨NX,2,0,99,[]⟩
def Pj:LC:=(sr [mI 2 0,mn 3] (.seq (.block 0 (sr [mt 5 0,aI 6 .lss 5 1,mt 7 6,mg 8 7 false 0,A2 9 7 false (.ari .gtr (.t 8) (cI 25)),
  FB 10 7 9,mt 4 10] (.cond (.t 4) (sr [A1 11 (.mkif 74 (cI 10)),
  mI 2 0,mt 3 11] .ret) (sr [mt 13 0,aI 14 .eql 13 8,mt 15 14,mg 16 15 false 0,A2 17 15 false (.ari .eql (.t 16) (cI 9)),
  FB 18 15 17,mt 12 18] (.cond (.t 12) (sr [mI 2 3,mn 3] .ret) (sr [mt 20 0,aI 21 .eql 20 21,mt 22 21,mg 23 22 false 0,A2 24 22 false (.ari .eql (.t 23) (cI 25)),
  FB 25 22 24,mt 19 25] (.cond (.t 19) (sr [mI 2 1,mn 3] .ret) .skip))))))) (sr [mI 2 2,mn 3] .ret)))
def NF:LF:=⟨Pj,1,0,26,[.tmp 2,.tmp 3]⟩
variable {M:Seat}
structure OkCk (M:Seat):Prop where
 k179:Ar M 179 Ahb=true
 k287:Ar M 287 Ae8=true
 k367:Ar M 367 Aig=true
 k368:Ar M 368 Als=true
 k458:Ar M 458 N3=true
 k492:Ar M 492 NF=true
def Ht (op:Int):Nat:=if op=8 ∨ op=9 then 3 else if op=21 ∨ op=25 then 1 else 2
theorem T7 (ok:OkCk M) (op:Int) (h:1≤op∧op≤25):As M 492 [.int .i64 op] [] 0 (Q3 (AP (.int .i64 (Ht op)) .nili) [] 0):=by
 refine Ac ok.k492 rfl fun x hx=>?_;have e1:(op < 1)=False:=eq_false Aa;have e2:(25 < op)=False:=eq_false Aa;by_cases h8:op=8
 ·subst h8;refine eX ?_;simp only [NF,Pj,LZ,seval];exact Ay.mkZ hx [] ⟨rfl,rfl,rfl⟩
 by_cases h9:op=9
 ·subst h9;refine eX ?_;simp only [NF,Pj,LZ,seval];exact Ay.mkZ hx [] ⟨rfl,rfl,rfl⟩
 by_cases h21:op=21
 ·subst h21;refine eX ?_;simp only [NF,Pj,LZ,seval];exact Ay.mkZ hx [] ⟨rfl,rfl,rfl⟩
 by_cases h25:op=25
 ·subst h25;refine eX ?_;simp only [NF,Pj,LZ,seval];exact Ay.mkZ hx [] ⟨rfl,rfl,rfl⟩
 have ea:Ht op=2:=by rw [Ht,if_neg Aa,if_neg Aa]
 rw [ea];refine eX ?_;simp only [NF,Pj,e1,e2,eq_false h8,eq_false h9,eq_false h21,eq_false h25,LZ,seval];exact Ay.mkZ hx [] ⟨rfl,rfl,rfl⟩
theorem CE (ok:OkCk M) (op:Int) (h:¬ (1≤op∧op≤25)):As M 492 [.int .i64 op] [] 0 (Q3 (AP (.int .i64 0) (.ifc 74 (.int .i64 10))) [] 0):=by
 refine Ac ok.k492 rfl fun x hx=>?_;by_cases h1:op < 1
 ·refine eX ?_;simp only [NF,Pj,eq_true h1,LZ,seval];exact Ay.mkZ hx [] ⟨rfl,rfl,rfl⟩
 ·refine eX ?_;(simp only [NF,Pj,eq_false h1,eq_true (show (25:Int) < op by omega),LZ,seval]);exact Ay.mkZ hx [] ⟨rfl,rfl,rfl⟩
def Lg (P:List Fu) (sz i:Nat):V:=.st 5 (.fcons 0 (.int .i64 sz) (.fcons 1 (.bool false) (.fcons 2 (.bool false) (.fcons 3 (FC P) (.fcons 4 (.int .i64 i) .fnil)))))
def Bi (P:List Fu) (i:Nat):Int:=match P[i]? with | some f=>f.locals | none=>0
def Db (P:List Fu) (i:Nat):Int:=match P[i]? with | some f=>f.params | none=>0
inductive Nd (P:List Fu) (i:Nat):Ex→Prop
 | ar (op n as) (h1:1≤op) (h2:op≤25) (h:as.length=Ht op):Nd P i (.mk op n as)
 | con (n):Nd P i (.mk 26 n [])
 | loc (n) (h:(n.toNat:Int) < Bi P i) (h2:Bi P i < 1000):Nd P i (.mk 27 n [])
 | load (n a):Nd P i (.mk 28 n [a])
 | call (n as) (h1:i < n.toNat) (h2:n.toNat < P.length) (h:(as.length:Int)=Db P n.toNat):Nd P i (.mk 29 n as)
 | hash (n a b):Nd P i (.mk 30 n [a,b])
 | pre (n a b):Nd P i (.mk 31 n [a,b])
theorem Ft {P:List Fu} {i:Nat} (h:i < P.length):BW P i = .st 3 (.fcons 0 (.int .i64 (Db P i)) (.fcons 1 (.int .i64 (Bi P i)) (.fcons 2 (DZ (P[i]).body) .fnil))):=by
 rw [MW P i h,fuV,Db,Bi,List.getElem?_eq_getElem h]
theorem Rm (ok:OkCk M) (P:List Fu) (sz i:Nat) (hi:i < P.length) (hP:P.length < 1000) (y:Ex) (h:Nd P i y) :
 As M 458 [.ptr 0 [],AE y] [(0,Lg P sz i)] 1 (Q3 (.tup .fnil) [(0,Lg P sz i)] 1):=by
 refine Ac ok.k458 rfl fun x hx=>?_;have hne:P ≠ []:=by rintro rfl;exact absurd hi BF
 have hf:=Ft hi;have hsl:∀ H m z,Aw H m z (.lst 3 P.length (BW P)) (.lst 3 P.length (BW P)):=fun H m z=>by rw [← BD P hne];exact En H m z P
 have hrl:∀ a,(V.lst 3 P.length (BW P)).ren a = .lst 3 P.length (BW P):=fun a=>by rw [← BD P hne];exact Ad a P
 simp only [Lg];rw [BD P hne];cases h with
 | ar op n as h1 h2 h =>
   have hA:=T7 ok op ⟨h1,h2⟩;have eez:((Ht op:Int)=(as.length:Int))=True:=eq_true (by rw [h]);refine eX ?_;simp only [N3,NX,AE,AU,AY,AZ,LZ,seval];refine Ap (hA) ?_;(simp only [EM,eq_false (show ¬ op=26 by omega),eq_false (show ¬ op=27 by omega),eq_false (show ¬ op=28 by omega),eq_false (show ¬ op=29 by omega),eq_false (show ¬ op=30 by omega),eq_false (show ¬ op=31 by omega),CP,AU,AY,AZ,eez,seval]);have zz:=hsl;exact DD hx [0] ⟨rfl,rfl,rfl⟩
 | con n =>
   have hA:=CE ok 26 Aa;refine eX ?_;simp only [N3,NX,AE,AF,LZ,seval];refine Ap (hA) ?_;simp only [EM,seval];have zz:=hsl;exact DD hx [0] ⟨rfl,rfl,rfl⟩
 | loc n h h2 =>
   have hA:=CE ok 27 Aa;have e1:max (0:Int) (Bi P i)=Bi P i:=Aa
   have e2:(BitVec.ofInt 64 (Bi P i)≤n)=False:=eq_false (by
    rw [BitVec.le_def,BitVec.toNat_ofInt];omega)
   refine eX ?_;simp only [N3,NX,AE,AF,LZ,seval];refine Ap (hA) ?_;simp only [EM,hf,e1,e2,seval];repeat refine sd ?_
   have zz:=hsl;exact DD hx [0] ⟨rfl,rfl,rfl⟩
 | load n a =>
   have hA:=CE ok 28 Aa;refine eX ?_;simp only [N3,NX,AE,AF,AU,LZ,seval];refine Ap (hA) ?_;simp only [EM,seval];have zz:=hsl;exact DD hx [0] ⟨rfl,rfl,rfl⟩
 | call n as h1 h2 h =>
   have hA:=CE ok 29 Aa;have hf2:=Ft h2
   have e1:(n≤BitVec.ofInt 64 (i:Nat))=False:=eq_false (by
    rw [BitVec.le_def,BitVec.toNat_ofInt];omega)
   have e2:(BitVec.ofInt 64 (P.length:Nat)≤n)=False:=eq_false (by
    rw [BitVec.le_def,BitVec.toNat_ofInt];omega)
   have eez:(Db P n.toNat=(as.length:Int))=True:=eq_true (by rw [h]);refine eX ?_;simp only [N3,NX,AE,AU,AY,AZ,LZ,seval];refine Ap (hA) ?_;simp only [EM,hf2,e1,e2,CP,AU,AY,AZ,eez,seval];repeat refine sd ?_
   have zz:=hsl;exact DD hx [0] ⟨rfl,rfl,rfl⟩
 | hash n a b =>
   have hA:=CE ok 30 Aa;refine eX ?_;simp only [N3,NX,AE,AF,LZ,seval];refine Ap (hA) ?_;simp only [EM,seval];have zz:=hsl;exact DD hx [0] ⟨rfl,rfl,rfl⟩
 | pre n a b =>
   have hA:=CE ok 31 Aa;refine eX ?_;simp only [N3,NX,AE,AF,LZ,seval];refine Ap (hA) ?_;simp only [EM,seval];have zz:=hsl;exact DD hx [0] ⟨rfl,rfl,rfl⟩
end Mv
namespace Mv
open Go
inductive RE (P:List Fu) (i:Nat):Nat→Ex→Nat→Prop
 | mk (l:Nat) (op:Int) (n:BitVec 64) (as:List Ex) (c:Nat→Nat) (h:Nd P i (.mk op n as)) (hl:as.length < 1000) (ha:∀ j (hj:j < as.length),RE P i l as[j] (c j)):RE P i (l + 1) (.mk op n as) (1 + ((List.range as.length).map c).sum)
theorem CO (c:Nat→Nat) (n:Nat):((List.range (n + 1)).map c).sum=((List.range n).map c).sum + c n:=by
 rw [List.range_succ];simp
theorem FZ (c:Nat→Nat) (a:Nat):∀ d:Nat,((List.range a).map c).sum≤((List.range (a + d)).map c).sum
 | 0=>Nat.le_refl _
 | d + 1 => by
   have h:=FZ c a d;have e:=CO c (a + d);rw [← Nat.add_assoc,e];omega
theorem Zw {M:Seat} (ok:OkCk M) (P:List Fu) (i:Nat) (hi:i < P.length) (hP:P.length < 1000):∀ (l:Nat) (y:Ex) (c:Nat),RE P i l y c→l < 1000→∀ sz,sz + c < 4611686018427387904 →
 As M 368 [.ptr 0 [],AE y,.int .i64 l] [(0,Lg P sz i)] 1 (Q3 (.tup .fnil) [(0,Lg P (sz + c) i)] 1):=by
 intro l;induction l with
 | zero=>intro y c h;cases h
 | succ l ih =>
 intro y c h hl1 sz hsz;cases h with
 | mk _ op n as c h hl ha =>
 have hN:=Rm ok P (sz + 1) i hi hP _ h;refine Ac ok.k368 rfl fun x hx=>?_;have w0:IntKind.i64.wrap ((sz:Int) + 1)=((sz + 1:Nat):Int):=B7;have w1:IntKind.i64.wrap (((l + 1:Nat):Int) - 1)=(l:Int):=B7;have e0:(((l + 1:Nat):Int)=0)=False:=eq_false Aa;have hx0:AE (.mk op n as) = .st 3 (.fcons 0 (.int .i64 op) (.fcons 1 (W n) (.fcons 2 (AF as) .fnil))):=by simp only [AE]
 rw [hx0] at hN ⊢;simp only [Lg] at hN ⊢;refine eX ?_;simp only [Als,Anx,w0,e0,AU,AY,AZ,LZ,seval];have zz:=BK @Ak @GL;refine Hx [0] [0] (hN) ?_;simp only [Ad,CP,AU,AY,AZ,LZ,seval];refine Au (σ:=Nat) (fun j=>j≤as.length) (fun j=>fr 36 [(0,.ptr 0 []),(2,.int .i64 (l + 1:Nat)),(24,AF as),(25,.int .i64 as.length),(26,.int .i64 j)]) (fun j=>[(0,Lg P (sz + 1 + ((List.range j).map c).sum) i)]) (fun _=>1) (fun j=>as.length - j) 0 (Nat.zero_le _) ?_ ?_
 ·refine Av.fr [0] [] hx Bg Ab ?_ ?_
  ·simp only [LY,seval,Cy]
  ·simp only [Lg,LY,seval,Ak,List.range_zero,List.map_nil,List.sum_nil,Nat.add_zero]
 intro j hj;refine eX ?_;simp only [Lg];by_cases hin:j=as.length
 ·have d0:((j:Int) < (as.length:Int))=False:=eq_false Aa;rw [show sz + (1 + ((List.range as.length).map c).sum)=sz + 1 + ((List.range j).map c).sum by rw [hin];omega];simp only [d0,LZ,seval];have zz:=@Ak;exact DD hx [0] ⟨rfl,rfl,rfl⟩
 ·have d0:((j:Int) < (as.length:Int))=True:=eq_true Aa;have hlt:j < as.length:=Aa;have hne:as ≠ []:=NK;have hy:=M7 as j hlt;have hb:sz + 1 + ((List.range j).map c).sum + c j < 4611686018427387904:=by
   have:((List.range (j + 1)).map c).sum≤((List.range as.length).map c).sum:=by
    have:as.length=j + 1 + (as.length - (j + 1)):=Aa;rw [this];exact FZ c _ _
   rw [CO] at this;omega
  have hE:=ih as[j] (c j) (ha j hlt) Aa _ hb;have w2:IntKind.i64.wrap ((j:Int) + 1)=((j + 1:Nat):Int):=B7;simp only [Lg] at hE;generalize as[j]=y at *
  simp only [d0,Bs as hne,hy,Al,An,Am,w1,LZ,seval];repeat refine sd ?_
  have zz:=BK @Ak @B6;refine Hx [0] [0] (hE) ?_;simp only [Ad,w2,LZ,seval];refine ⟨j + 1,by omega,by omega,?_⟩;rw [← Bs as hne,CO];refine Av.fr [0] [] hx Bg Ab ?_ ?_
  ·simp only [LY,seval,Cy]
  ·simp only [Lg,LY,seval,Ak,Nat.add_assoc]
theorem OB {M:Seat} (ok:OkCk M) (kd:Int) (h1:1≤kd) (h2:kd≤7) :
 As M 367 [.int .i64 kd] [] 0 (Q3 (.tup (.fcons 0 (.bool true) (.fcons 1 (.bool (decide (kd=2))) (.fcons 2 (.bool (decide (kd=3 ∨ kd=4))) (.fcons 3 (.bool (decide (kd=3))) .fnil))))) [] 0):=by
 refine Ac ok.k367 rfl fun x hx=>?_;have:kd=1 ∨ kd=2 ∨ kd=3 ∨ kd=4 ∨ kd=5 ∨ kd=6 ∨ kd=7:=Aa;rcases this with rfl | rfl | rfl | rfl | rfl | rfl | rfl;all_goals
  refine eX ?_;simp only [Aig,Ans,LZ,seval];exact Ay.mkZ hx [] ⟨rfl,rfl,rfl⟩
mutual
inductive RB (P:List Fu) (i:Nat):Nat→List IrSt→Nat→Prop
 | nil:RB P i 0 [] 0
 | mk (l:Nat) (ss:List IrSt) (c:Nat→Nat) (hl:ss.length < 1000) (h:∀ j (hj:j < ss.length),RgS P i l ss[j] (c j)):RB P i (l + 1) ss ((List.range ss.length).map c).sum
inductive RgS (P:List Fu) (i:Nat):Nat→IrSt→Nat→Prop
 | set (l n a b bo el ca) (h0:0≤n) (h1:n < Bi P i) (ha:RE P i 8 a ca):RgS P i l (.mk 1 n a b bo el) (1 + ca)
 | store (l n a b bo el ca cb) (ha:RE P i 8 a ca) (hb:RE P i 8 b cb):RgS P i l (.mk 2 n a b bo el) (1 + ca + cb)
 | branch (l n a b bo el ca cb ce) (ha:RE P i 8 a ca) (hb:RB P i l bo cb) (he:RB P i l el ce):RgS P i l (.mk 3 n a b bo el) (1 + ca + cb + ce)
 | loop (l n a b bo el ca cb) (ha:RE P i 8 a ca) (hb:RB P i l bo cb):RgS P i l (.mk 4 n a b bo el) (1 + ca + cb)
 | other (l k n a b bo el ca) (h5:5≤k) (h7:k≤7) (ha:RE P i 8 a ca):RgS P i l (.mk k n a b bo el) (1 + ca)
end
theorem H8 {M:Seat} (ok:OkCk M) (kd:Int) (b c d:Bool) (h1:1≤kd) (h2:kd≤7) (h:b=decide (kd=2)∧c=decide (kd=3 ∨ kd=4)∧d=decide (kd=3)) :
 As M 367 [.int .i64 kd] [] 0 (Q3 (.tup (.fcons 0 (.bool true) (.fcons 1 (.bool b) (.fcons 2 (.bool c) (.fcons 3 (.bool d) .fnil))))) [] 0):=by
 obtain ⟨rfl,rfl,rfl⟩:=h;exact OB ok kd h1 h2
theorem WO {M:Seat} (ok:OkCk M) (P:List Fu) (i:Nat) (hi:i < P.length) (hP:P.length < 1000):∀ (l:Nat) (ss:List IrSt) (c:Nat),RB P i l ss c→l < 1000→∀ sz,sz + c < 4611686018427387904 →
 As M 287 [.ptr 0 [],DZ ss,.int .i64 l] [(0,Lg P sz i)] 1 (Q3 (.tup .fnil) [(0,Lg P (sz + c) i)] 1):=by
 have hne:P ≠ []:=by rintro rfl;exact absurd hi BF
 have hf:=Ft hi;have hsl:∀ H m z,Aw H m z (.lst 3 P.length (BW P)) (.lst 3 P.length (BW P)):=fun H m z=>by rw [← BD P hne];exact En H m z P
 have hrl:∀ a,(V.lst 3 P.length (BW P)).ren a = .lst 3 P.length (BW P):=fun a=>by rw [← BD P hne];exact Ad a P
 have hpl:FC P = .lst 3 P.length (BW P):=BD P hne;have hck:∀ sz,Lg P sz i = .st 5 (.fcons 0 (.int .i64 sz) (.fcons 1 (.bool false) (.fcons 2 (.bool false) (.fcons 3 (.lst 3 P.length (BW P)) (.fcons 4 (.int .i64 i) .fnil))))):=fun sz=>by rw [Lg,hpl]
 intro l;induction l with
 | zero =>
   intro ss c h hl1 sz hsz;cases h;refine Ac ok.k287 rfl fun x hx=>?_;simp only [hck,DZ,Nat.add_zero];refine eX ?_;simp only [Ae8,Aix,LZ,seval];refine AJ ?_;refine eX ?_;simp only [LZ,seval];have zz:=hsl;exact DD hx [0] ⟨rfl,rfl,rfl⟩
 | succ l ih =>
 intro ss c h hl1 sz hsz;cases h with
 | mk _ _ c hl h =>
 refine Ac ok.k287 rfl fun x hx=>?_;have w1:IntKind.i64.wrap (((l + 1:Nat):Int) - 1)=(l:Int):=B7;have e0:(((l + 1:Nat):Int)=0)=False:=eq_false Aa;simp only [hck];refine eX ?_;simp only [Ae8,Aix,e0,NH,LZ,seval];refine Au (σ:=Nat) (fun j=>j≤ss.length) (fun j=>fr 105 [(0,.ptr 0 []),(2,.int .i64 (l + 1:Nat)),(22,DZ ss),(23,.int .i64 ss.length),(24,.int .i64 j)]) (fun j=>[(0,Lg P (sz + ((List.range j).map c).sum) i)]) (fun _=>1) (fun j=>ss.length - j) 0 (Nat.zero_le _) ?_ ?_
 ·refine Av.fr [0] [] hx Bg Ab ?_ ?_
  ·simp only [LY,seval,B9]
  ·simp only [hck,LY,seval,hsl,List.range_zero,List.map_nil,List.sum_nil,Nat.add_zero]
 intro j hj;refine eX ?_;simp only [hck];by_cases hin:j=ss.length
 ·have d0:((j:Int) < (ss.length:Int))=False:=eq_false Aa;subst hin;simp only [d0,LZ,seval];have zz:=hsl;exact DD hx [0] ⟨rfl,rfl,rfl⟩
 have d0:((j:Int) < (ss.length:Int))=True:=eq_true Aa;have hlt:j < ss.length:=Aa;have hsn:ss ≠ []:=NK;have hy:=Jn ss j hlt;have hb:sz + ((List.range j).map c).sum + c j < 4611686018427387904:=by
  have h1:=FZ c (j + 1) (ss.length - (j + 1));rw [show j + 1 + (ss.length - (j + 1))=ss.length by omega,CO] at h1;omega
 have hT:=h j hlt;have w2:IntKind.i64.wrap ((j:Int) + 1)=((j + 1:Nat):Int):=B7;have hend:∀ z,z=sz + ((List.range j).map c).sum + c j→sz + ((List.range (j + 1)).map c).sum=z:=fun z hz=>by rw [CO];omega
 generalize sz + ((List.range j).map c).sum=s0 at *
 generalize hcj:c j=cj at *
 generalize ss[j]=y at *
 have w0:IntKind.i64.wrap ((s0:Int) + 1)=((s0 + 1:Nat):Int):=B7;have hE:∀ a ca s,RE P i 8 a ca→s + ca < 4611686018427387904→As M 368 [.ptr 0 [],AE a,.int .i64 8] [(0,Lg P s i)] 1 (Q3 (.tup .fnil) [(0,Lg P (s + ca) i)] 1):=fun a ca s h h2=>Zw ok P i hi hP 8 a ca h Aa s h2;simp only [hck] at hE ih;cases hT with
 | set _ n a b bo el ca h0 h1 ha =>
   have hlk:=H8 ok 1 false false false Aa Aa Ab;have f1:(n < 0)=False:=eq_false Aa;have f2:(Bi P i≤n)=False:=eq_false Aa;simp only [d0,Bq ss hsn,hy,GN,A8,A7,A6,Al,An,Am,w0,LZ,seval];repeat refine sd ?_
   refine Ap (hlk) ?_;simp only [hf,f1,f2,A8,A7,A6,Al,An,Am,LZ,seval];repeat refine sd ?_
   have zz:=BK hsl @B6;refine Hx [0] [0] (hE a ca (s0 + 1) ha Aa) ?_;simp only [hrl,w2,LZ,seval];refine ⟨j + 1,by omega,by omega,?_⟩;rw [← Bq ss hsn,hend (s0 + 1 + ca) Aa];refine Av.fr [0] [] hx Bg Ab ?_ ?_
   ·simp only [LY,seval,B9]
   ·simp only [hck,LY,seval,hsl]
 | store _ n a b bo el ca cb ha hb2 =>
   have hlk:=H8 ok 2 true false false Aa Aa Ab;simp only [d0,Bq ss hsn,hy,GN,A8,A7,A6,Al,An,Am,w0,LZ,seval];repeat refine sd ?_
   refine Ap (hlk) ?_;simp only [A8,A7,A6,Al,An,Am,LZ,seval];repeat refine sd ?_
   have zz:=BK hsl @B6;refine Hx [0] [0] (hE a ca (s0 + 1) ha Aa) ?_;simp only [hrl,A8,A7,A6,Al,An,Am,LZ,seval];have zz:=BK hsl @B6;refine Hx [0] [0] (hE b cb (s0 + 1 + ca) hb2 Aa) ?_;simp only [hrl,w2,LZ,seval];refine ⟨j + 1,by omega,by omega,?_⟩;rw [← Bq ss hsn,hend (s0 + 1 + ca + cb) Aa];refine Av.fr [0] [] hx Bg Ab ?_ ?_
   ·simp only [LY,seval,B9]
   ·simp only [hck,LY,seval,hsl]
 | branch _ n a b bo el ca cb ce ha hb2 he =>
   have hlk:=H8 ok 3 false true true Aa Aa Ab;simp only [d0,Bq ss hsn,hy,GN,A8,A7,A6,Al,An,Am,w0,LZ,seval];repeat refine sd ?_
   refine Ap (hlk) ?_;simp only [A8,A7,A6,Al,An,Am,LZ,seval];repeat refine sd ?_
   have zz:=BK hsl @B6;refine Hx [0] [0] (hE a ca (s0 + 1) ha Aa) ?_;simp only [hrl,A8,A7,A6,Al,An,Am,w1,LZ,seval];have zz:=BK hsl @B9;refine Hx [0] [0] (ih bo cb hb2 Aa (s0 + 1 + ca) Aa) ?_;simp only [hrl,A8,A7,A6,Al,An,Am,w1,LZ,seval];have zz:=BK hsl @B9;refine Hx [0] [0] (ih el ce he Aa (s0 + 1 + ca + cb) Aa) ?_;simp only [hrl,w2,LZ,seval];refine ⟨j + 1,by omega,by omega,?_⟩;rw [← Bq ss hsn,hend (s0 + 1 + ca + cb + ce) Aa];refine Av.fr [0] [] hx Bg Ab ?_ ?_
   ·simp only [LY,seval,B9]
   ·simp only [hck,LY,seval,hsl]
 | loop _ n a b bo el ca cb ha hb2 =>
   have hlk:=H8 ok 4 false true false Aa Aa Ab;simp only [d0,Bq ss hsn,hy,GN,A8,A7,A6,Al,An,Am,w0,LZ,seval];repeat refine sd ?_
   refine Ap (hlk) ?_;simp only [A8,A7,A6,Al,An,Am,LZ,seval];repeat refine sd ?_
   have zz:=BK hsl @B6;refine Hx [0] [0] (hE a ca (s0 + 1) ha Aa) ?_;simp only [hrl,A8,A7,A6,Al,An,Am,w1,LZ,seval];have zz:=BK hsl @B9;refine Hx [0] [0] (ih bo cb hb2 Aa (s0 + 1 + ca) Aa) ?_;simp only [hrl,w2,LZ,seval];refine ⟨j + 1,by omega,by omega,?_⟩;rw [← Bq ss hsn,hend (s0 + 1 + ca + cb) Aa];refine Av.fr [0] [] hx Bg Ab ?_ ?_
   ·simp only [LY,seval,B9]
   ·simp only [hck,LY,seval,hsl]
 | other _ k n a b bo el ca h5 h7 ha =>
   have hlk:=H8 ok k false false false Aa Aa ⟨(decide_eq_false (by omega:¬ k=2)).symm,(decide_eq_false (by omega:¬ (k=3 ∨ k=4))).symm,(decide_eq_false (by omega:¬ k=3)).symm⟩;simp only [d0,Bq ss hsn,hy,GN,A8,A7,A6,Al,An,Am,w0,LZ,seval];repeat refine sd ?_
   refine Ap (hlk) ?_;(simp only [eq_false (by omega:¬ k=1),A8,A7,A6,Al,An,Am,LZ,seval]);repeat refine sd ?_
   have zz:=BK hsl @B6;refine Hx [0] [0] (hE a ca (s0 + 1) ha Aa) ?_;simp only [hrl,w2,LZ,seval];refine ⟨j + 1,by omega,by omega,?_⟩;rw [← Bq ss hsn,hend (s0 + 1 + ca) Aa];refine Av.fr [0] [] hx Bg Ab ?_ ?_
   ·simp only [LY,seval,B9]
   ·simp only [hck,LY,seval,hsl]
end Mv
