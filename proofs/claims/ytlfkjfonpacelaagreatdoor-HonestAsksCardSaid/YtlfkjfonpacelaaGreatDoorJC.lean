/- A part. -/
import Derived.Test.YtlfkjfonpacelaaGreatDoorJB
set_option linter.all false
set_option maxRecDepth 20000
set_option maxHeartbeats 4000000
namespace Mv
open Go
variable {M:Seat}
structure OkD (M:Seat):Prop where
 k55:Ar M 55 f55=true
 k59:Ar M 59 f59=true
 k62:Ar M 62 f62=true
 k208:Ar M 208 Ar0=true
theorem Xt (hc:Ar M 312 PH=true) (n o m:Nat) (ho:o + 8≤n) (hm:8≤m) (hom:o + m≤n) (p:Nat→BitVec 8) (w:BitVec 64) :
 Ae M 312 [.sl 0 [] o m 1,W w] [(0,.ar 1 n fun j=>B (p j))] 1 (Q3 (.tup .fnil) [(0,.ar 1 n fun j=>B (if o≤j∧j < o + 8 then X5 w (j - o) else p j))] 1):=by
 have h:=Md hc n o m (fun j=>((p j).toNat:Int)) (w.toNat:Int) Aa Aa Aa;have e:(fun j=>V.int .u8 (if o≤j∧j < o + 8 then byt (w.toNat:Int) (j - o) else ((p j).toNat:Int)))=(fun j=>B (if o≤j∧j < o + 8 then X5 w (j - o) else p j)):=by
  funext j;by_cases hj:o≤j∧j < o + 8
  ·rw [if_pos hj,if_pos hj];exact Aa5 w (j - o)
  ·rw [if_neg hj,if_neg hj];rfl
 rw [e] at h;exact h
def Bl (w:Nat→BitVec 64):Dg:=Dg.mk' (Bo w)
def w4 (a b c d:BitVec 64) (j:Nat):BitVec 64:=if j=0 then a else if j=1 then b else if j=2 then c else d
theorem CD (ok:OkM M) (okD:OkD M) (n:Nat) (hn:4≤n) (w:Nat→BitVec 64) :
 Ae M 208 [.lst 1 n (fun j=>W (w j))] [] 0 (Q3 (dg (Bl w)) [] 0):=by
 refine Ab okD.k208 rfl fun x hx=>?_;refine eX ?_;simp only [Ar0,Apo,LZ,seval];refine Am (σ:=Nat) (fun i=>i≤4) (fun i=>fr 18 [(0,.lst 1 n (fun j=>W (w j))),(2,.ptr 0 []),(3,.ptr 1 []),(5,.int .i64 i)])
  (fun i=>[(0,.ar 1 32 (fun _=>B 0)),(1,.ar 1 32 (fun j=>B (if j < 8 * i then Bo w j else 0)))]) (fun _=>2) (fun i=>4 - i) 0 Aa ?_ ?_
 ·refine Ak.fr [0,16] [] hx AG Al ?_ ?_
  ·simp only [LY,seval]
  ·simp only [LY,seval];intro j hj;rw [if_neg Aa]
 ·intro i hi;refine eX ?_;by_cases h4:i=4
  ·subst h4;simp only [LZ,seval];refine Ap.mk hx [] [] (dg (Bl w)) [] 0 Al (by simp only [Di,seval]) ?_ trivial ⟨rfl,rfl,rfl⟩;simp only [Di,seval];simp only [dg,LY,seval];intro j hj;rw [if_pos Aa,Bl,Dg.at_mk' _ _ hj]
  ·have d0:((i:Int) < 4)=True:=eq_true Aa;have w1:IntKind.i64.wrap ((i:Int) + 1)=((i + 1:Nat):Int):=AW;have w2:IntKind.i64.wrap (8 * (i:Int))=((8 * i:Nat):Int):=AW;simp only [d0,w1,w2,LZ,seval];repeat refine sd ?_
   refine Am3 [1] (Xt ok.k312 32 (8 * i) (32 - 8 * i) Aa Aa Aa (fun j=>if j < 8 * i then Bo w j else 0#8) (w i)) ?_;simp only [w1,LZ,seval];repeat refine sd ?_
   refine ⟨i + 1,by omega,by omega,?_⟩;refine Ak.fr [0,1] [] hx AG Al ?_ ?_
   ·simp only [LY,seval]
   ·simp only [LY,seval];intro j hj;by_cases h1:8 * i≤j∧j < 8 * i + 8
    ·rw [if_pos h1,if_pos Aa,Bo,show j / 8=i by omega,show j % 8=j - 8 * i by omega]
    ·rw [if_neg h1];by_cases h2:j < 8 * i
     ·rw [if_pos h2,if_pos Aa]
     ·rw [if_neg h2,if_neg Aa]
def Ba (g:Nat→BitVec 64) (pc:BitVec 64) (hl:Bool) (xt:BitVec 64):V :=
 .st 19 (.fcons 0 (.ar 1 16 (fun j=>W (g j))) (.fcons 16 (W pc) (.fcons 17 (.bool hl) (.fcons 18 (W xt) .fnil))))
def Lc9:=(Cv @LY @Ba.eq_1 @true_and)
def Lbw:=(Cv @Bb @List.nil_append.{0} @Ba.eq_1)
def Fm:=(AY @LZ @Ba.eq_1)
def Gc:=(Em @LV @LZ @List.nil_append.{0} @Ba.eq_1 @Air)
theorem Dz (ok:OkD M) (f g:Nat→BitVec 64) (pc:BitVec 64) (hl:Bool) (xt:BitVec 64) :
 Ae M 55 [.imm (mach f g pc hl xt)] [] 0 (Q3 (Ai (Ba g pc hl xt) .nili) [] 0):=by
 refine Ab ok.k55 rfl fun x hx=>?_;refine eX ?_;simp only [f55,c55,CP,seval];have zz:=@Ba.eq_1;exact AI hx [] ⟨rfl,rfl,rfl⟩
def D2 (g:Nat→BitVec 64) (pc:BitVec 64) (hl:Bool) (xt:BitVec 64):Dg :=
 BP (BP (BP (Bl g) (Bl fun j=>g (4 + j))) (BP (Bl fun j=>g (8 + j)) (Bl fun j=>g (12 + j)))) (Bl (w4 pc (if hl then 1 else 0) xt 0))
theorem Il (ok:OkM M) (okD:OkD M) (g:Nat→BitVec 64) (pc:BitVec 64) (xt:BitVec 64) :
 Ae M 59 [Ba g pc false xt] [] 0 (Q3 (dg (D2 g pc false xt)) [] 0):=by
 refine Ab okD.k59 rfl fun x hx=>?_;refine eX ?_;simp only [f59,c59,Fm,seval];repeat refine sd ?_
 refine AO (CD ok okD 16 Aa g) ?_;simp only [LZ,seval];repeat refine sd ?_
 refine AO (CD ok okD 12 Aa (fun j=>g (4 + j))) ?_;simp only [LZ,seval];repeat refine sd ?_
 refine AO (BB ok (Bl g) (Bl fun j=>g (4 + j))) ?_;simp only [LZ,seval];repeat refine sd ?_
 refine AO (CD ok okD 8 Aa (fun j=>g (8 + j))) ?_;simp only [LZ,seval];repeat refine sd ?_
 refine AO (CD ok okD 4 Aa (fun j=>g (12 + j))) ?_;simp only [LZ,seval];repeat refine sd ?_
 refine AO (BB ok (Bl fun j=>g (8 + j)) (Bl fun j=>g (12 + j))) ?_;simp only [LZ,seval];repeat refine sd ?_
 refine AO (BB ok (BP (Bl g) (Bl fun j=>g (4 + j))) (BP (Bl fun j=>g (8 + j)) (Bl fun j=>g (12 + j)))) ?_;simp only [LZ,seval];repeat refine sd ?_
 refine opK (CD ok okD 4 Aa (w4 pc 0#64 xt 0#64)) (by (try simp only [LT,LY,seval]) <;> first | exact q1 | ((intro j hj;unfold w4;(repeat' split);all_goals first | exact (EM _ _ _ _ _).mpr rfl | omega))) (by simp only [LT,LX]) ?_;simp only [LZ,seval];repeat refine sd ?_
 refine AO (BB ok (BP (BP (Bl g) (Bl fun j=>g (4 + j))) (BP (Bl fun j=>g (8 + j)) (Bl fun j=>g (12 + j)))) (Bl (w4 pc 0#64 xt 0#64))) ?_;simp only [LZ,seval];repeat refine sd ?_
 have zz:=AY @D2.eq_1 PX;exact AI hx [] ⟨rfl,rfl,rfl⟩
theorem Jl (ok:OkM M) (okD:OkD M) (g:Nat→BitVec 64) (pc:BitVec 64) (xt:BitVec 64) :
 Ae M 59 [Ba g pc true xt] [] 0 (Q3 (dg (D2 g pc true xt)) [] 0):=by
 refine Ab okD.k59 rfl fun x hx=>?_;refine eX ?_;simp only [f59,c59,Fm,seval];repeat refine sd ?_
 refine AO (CD ok okD 16 Aa g) ?_;simp only [LZ,seval];repeat refine sd ?_
 refine AO (CD ok okD 12 Aa (fun j=>g (4 + j))) ?_;simp only [LZ,seval];repeat refine sd ?_
 refine AO (BB ok (Bl g) (Bl fun j=>g (4 + j))) ?_;simp only [LZ,seval];repeat refine sd ?_
 refine AO (CD ok okD 8 Aa (fun j=>g (8 + j))) ?_;simp only [LZ,seval];repeat refine sd ?_
 refine AO (CD ok okD 4 Aa (fun j=>g (12 + j))) ?_;simp only [LZ,seval];repeat refine sd ?_
 refine AO (BB ok (Bl fun j=>g (8 + j)) (Bl fun j=>g (12 + j))) ?_;simp only [LZ,seval];repeat refine sd ?_
 refine AO (BB ok (BP (Bl g) (Bl fun j=>g (4 + j))) (BP (Bl fun j=>g (8 + j)) (Bl fun j=>g (12 + j)))) ?_;simp only [LZ,seval];repeat refine sd ?_
 refine opK (CD ok okD 4 Aa (w4 pc 1#64 xt 0#64)) (by (try simp only [LT,LY,seval]) <;> first | exact q1 | ((intro j hj;unfold w4;(repeat' split);all_goals first | exact (EM _ _ _ _ _).mpr rfl | omega))) (by simp only [LT,LX]) ?_;simp only [LZ,seval];repeat refine sd ?_
 refine AO (BB ok (BP (BP (Bl g) (Bl fun j=>g (4 + j))) (BP (Bl fun j=>g (8 + j)) (Bl fun j=>g (12 + j)))) (Bl (w4 pc 1#64 xt 0#64))) ?_;simp only [LZ,seval];repeat refine sd ?_
 have zz:=AY @D2.eq_1 PX;exact AI hx [] ⟨rfl,rfl,rfl⟩
theorem QE (ok:OkM M) (okD:OkD M) (g:Nat→BitVec 64) (pc:BitVec 64) (hl:Bool) (xt:BitVec 64) :
 Ae M 59 [Ba g pc hl xt] [] 0 (Q3 (dg (D2 g pc hl xt)) [] 0):=by
 cases hl
 ·exact Il ok okD g pc xt
 ·exact Jl ok okD g pc xt
theorem DV (ok:OkM M) (okD:OkD M) (r:Dg) (g:Nat→BitVec 64) (pc:BitVec 64) (hl:Bool) (xt:BitVec 64) :
 Ae M 62 [dg r,Ba g pc hl xt] [] 0 (fun r' H' k'=>r'=dg (BP r (D2 g pc hl xt))∧H'=[]∧k'=0):=by
 refine Ab okD.k62 rfl fun x hx=>?_;refine eX ?_;simp only [f62,c62,Fm,seval];repeat refine sd ?_
 have zz:=@Ba.eq_1;refine Ge (QE ok okD g pc hl xt) ?_;simp only [LZ,seval];repeat refine sd ?_
 refine AO (BB ok r (D2 g pc hl xt)) ?_;simp only [LZ,seval];repeat refine sd ?_
 exact Ap.mkZ hx [] ⟨rfl,rfl,rfl⟩
def Avw (f g:Nat→BitVec 64) (pc:BitVec 64) (hl:Bool) (xt:BitVec 64):Dg:=BP (Cd f 13 0) (D2 g pc hl xt)
def f8:=@Ba.eq_1
def c97:LC:=(sr [A1 4 (.alloc zS),mn 5] (.seq (sr [mt 13 0,A1 14 (.eq false true .ptr (.t 13) (.c .nilp)),mt 15 14,mg 16 15 false 1,A2 17 15 false (.eq false true .ptr (.t 16) (.c .nilp)),
  CQ 18 15 17] (.cond (.t 18) (sr [A1 19 (.build zS []),A1 20 (.mkif 74 (cI 1)),sb 116 4 19,mt 5 20] .ret) .skip)) (sr [mt 21 0,kl 22 49 [(.t 21)],mt 23 1,A1 24 (.build (.st (.cons .ptr (.cons .ptr (.cons .slice (.cons (.ar 64 (.int .u8)) .nil))))) [(.f 0,1,(.t 22)),(.f 1,1,(.t 23))]),
  bX 25 24,mt 6 25] (sr [mt 27 0,kl 28 55 [(.t 27)],mt 26 28,ee 29 26 0,ee 30 26 1,A1 7 (.alloc zM),sb 19 7 29,mt 8 30] (sr [mt 32 0,kl 33 51 [(.t 32)],mt 31 33,ee 34 31 0,ee 35 31 1,
  aB 9 32,sb 32 9 34,mt 10 35] (.seq (sr [la 37 19 7,mt 38 6,A1 39 (.mkif 422 (.t 38)),kl 40 241 [(.t 37),(.t 39)],mt 36 40,ee 41 36 0,ee 42 36 1,A1 11 (.alloc zM),sb 19 11 41,mt 12 42] (sr [mt 43 12,A1 44 (.eq true true (.iface [74]) (.t 43) (.c .nili))] (.cond (.t 44) (sr [A1 45 (.build zS []),mt 46 12,sb 116 4 45,mt 5 46] .ret) .skip))) (.seq (.regd [⟨0,0,la 47 32 9⟩,⟨1,0,la 48 19 7⟩,⟨2,0,mt 49 6⟩,⟨3,4,nc 50 49⟩,⟨4,12,fa 51 2 50⟩,⟨5,28,lb 52 1 51⟩,⟨6,0,mt 53 6⟩,⟨7,64,nc 54 53⟩,⟨8,192,fa 55 3 54⟩,⟨9,448,la 56 64 55⟩,⟨10,1023,A1 57 (.build zS [(.f 0,32,(.t 47)),(.f 32,19,(.t 48)),(.f 51,1,(.t 52)),(.f 52,64,(.t 56))])⟩,⟨11,2047,sb 116 4 57⟩,⟨12,4095,mn 5⟩]) .ret)))))))
def f97:LF:=⟨c97,2,0,58,[.cell 4 true 116,.tmp 5]⟩
def c98:LC:=(sr [bX 2 0,
 bX 3 1,
 aB 4 32,mn 5] (.seq (.seq (.regd [⟨0,0,fa 9 0 3⟩,⟨1,1,la 10 32 9⟩,⟨2,0,fa 11 32 3⟩,⟨3,4,la 12 19 11⟩,⟨4,15,kl 13 62 [(.t 10),(.t 12)]⟩,⟨5,0,la 14 32 2⟩,⟨6,63,A1 15 (.eq true false (.ar 32 1 false .int) (.t 13) (.t 14))⟩]) (.cond (.t 15) (sr [A1 16 (.build zD []),A1 17 (.mkif 74 (cI 31)),sb 32 4 16,mt 5 17] .ret) .skip)) (sr [fa 18 0 3,la 19 32 18,fa 20 51 3,lb 21 1 20,fa 22 52 3,la 23 64 22,A1 24 (.build (.st (.cons zD (.cons .slice (.cons (.ar 64 (.int .u8)) .nil)))) [(.f 0,32,(.t 19)),(.f 32,1,(.t 21)),(.f 33,64,(.t 23))]),
  bX 25 24,mt 6 25] (sr [fa 27 32 3,la 28 19 27,mt 29 6,A1 30 (.mkif 426 (.t 29)),kl 31 241 [(.t 28),(.t 30)],mt 26 31,ee 32 26 0,ee 33 26 1,A1 7 (.alloc zM),sb 19 7 32,mt 8 33] (.seq (.block 0 (sr [mt 35 8,A1 36 (.eq true true (.iface [74]) (.t 35) (.c .nili)),mt 34 36] (.cond (.t 34) (sr [A1 37 (.build zD []),mt 38 8,sb 32 4 37,mt 5 38] .ret) (sr [mt 40 6,nc 41 40,fa 42 32 41,lb 43 1 42,
  lN 44 0 43,aI 45 .gtr 44 0,mt 39 45] (.cond (.t 39) (sr [A1 46 (.build zD []),A1 47 (.mkif 74 (cI 3)),sb 32 4 46,mt 5 47] .ret) .skip))))) (.seq (.regd [⟨0,0,mt 48 6⟩,⟨1,1,nc 49 48⟩,⟨2,3,fa 50 0 49⟩,⟨3,7,la 51 32 50⟩,⟨4,0,la 52 19 7⟩,⟨5,31,kl 53 62 [(.t 51),(.t 52)]⟩,⟨6,63,sb 32 4 53⟩,⟨7,127,mn 5⟩]) .ret))))))
def f98:LF:=⟨c98,2,0,54,[.cell 4 true 32,.tmp 5]⟩
def Auh:LC:=(sr [bX 2 0,A1 4 (.alloc zM),mn 5] (.seq (sr [fa 17 17 2,lb 18 1 17] (.cond (.t 18) (sr [la 19 19 2,sb 19 4 19,mn 5] .ret) .skip)) (.seq (sr [fa 20 16 2,lb 21 1 20,
  aU 22 .geq 21 8192] (.cond (.t 22) (sr [la 23 19 2,kl 24 346 [(.t 23),(cU 18446744073709551614)],sb 19 4 24,mn 5] .ret) .skip)) (sr [mt 26 1,fa 27 16 2,lb 28 1 27,⟨(some 29),.dyn (.c (.fcons 0 .junk .fnil)) [(.t 26),(.t 28)],none⟩,mt 25 29,ee 30 25 0,ee 31 25 1,mt 6 30,mt 7 31] (.seq (sr [mt 32 7,A1 33 (.eq true true (.iface [74]) (.t 32) (.c .nili))] (.cond (.t 33) (sr [la 34 19 2,mt 35 7,sb 19 4 34,mt 5 35] .ret) .skip)) (sr [mt 37 6,kl 38 79 [(.t 37)],mt 36 38,ee 39 36 0,ee 40 36 1,ee 41 36 2,ee 42 36 3,ee 43 36 4,ee 44 36 5,ee 45 36 6,mt 8 39,mt 9 40,mt 10 41,mt 11 42,mt 12 43,mt 13 44,mt 14 45] (sr [mt 46 10,fa 47 0 2,ib 48 16 1 47 46,lb 49 1 48,mt 50 13,
  DL 51 .u64 50,ak 52 .add 49 51,mt 15 52] (sr [fa 53 0 2,mt 16 53] (.seq (.block 0 (sr [mt 71 14,A1 72 (.un .not (.t 71)),mt 70 72] (.cond (.t 70) (sr [la 73 19 2,kl 74 346 [(.t 73),(cU 18446744073709551614)],sb 19 4 74,mn 5] .ret) (sr [mt 76 8,aI 77 .eql 76 0,mt 75 77] (.cond (.t 75) (.seq (.regd [⟨0,0,la 78 19 2⟩,⟨1,0,mt 79 16⟩,⟨2,0,mt 80 10⟩,⟨3,2,nc 81 79⟩,⟨4,14,ib 82 16 1 81 80⟩,⟨5,30,lb 83 1 82⟩,⟨6,63,kl 84 346 [(.t 78),(.t 83)]⟩,⟨7,127,sb 19 4 84⟩,⟨8,255,mn 5⟩]) .ret) (sr [mt 86 8,aI 87 .lss 86 26,mt 85 87] (.cond (.t 85) (.regd [⟨2,0,mt 91 8⟩,⟨3,0,mt 92 16⟩,⟨4,0,mt 93 10⟩,⟨5,2,nc 94 92⟩,⟨6,14,ib 95 16 1 94 93⟩,⟨7,30,lb 96 1 95⟩,⟨8,0,mt 97 16⟩,⟨9,0,mt 98 11⟩,⟨10,64,nc 99 97⟩,⟨11,448,ib 100 16 1 99 98⟩,⟨12,960,lb 101 1 100⟩,⟨13,0,mt 102 16⟩,⟨14,0,mt 103 12⟩,⟨15,2048,nc 104 102⟩,⟨16,14336,ib 105 16 1 104 103⟩,⟨17,30720,lb 106 1 105⟩,⟨18,65535,kl 107 215 [(.t 91),(.t 96),(.t 101),(.t 106)]⟩,⟨0,0,mt 89 16⟩,⟨1,0,mt 90 9⟩,⟨19,131071,mt 88 107⟩,⟨20,655359,ee 108 88 0⟩,⟨22,131072,nc 110 89⟩,⟨23,4194303,ib 111 16 1 110 90⟩,⟨24,8388607,sb 1 111 108⟩,⟨21,655359,ee 109 88 1⟩]) (sr [mt 113 8,aI 114 .eql 113 26,mt 112 114] (.cond (.t 112) (.reg [mt 115 16,mt 116 9,mt 117 13,
  DL 118 .u64 117,nc 119 115,ib 120 16 1 119 116,sb 1 120 118]) (sr [mt 122 8,aI 123 .eql 122 27,mt 124 123,mg 125 124 false 8,A2 126 124 false (.ari .eql (.t 125) (cI 28)),
  CQ 127 124 126,mt 128 127,mg 129 128 true 15,A2 130 128 true (.ari .geq (.t 129) (cU 8192)),
  HR 131 128 130,mt 121 131] (.cond (.t 121) (sr [la 132 19 2,kl 133 346 [(.t 132),(cU 18446744073709551614)],sb 19 4 133,mn 5] .ret) (sr [mt 135 8,aI 136 .eql 135 27,mt 134 136] (.cond (.t 134) (.regd [⟨2,0,mt 140 1⟩,⟨3,0,mt 141 15⟩,⟨4,3,⟨(some 142),.dyn (.c (.fcons 0 .junk .fnil)) [(.t 140),(.t 141)],none⟩⟩,⟨0,0,mt 138 16⟩,⟨1,0,mt 139 9⟩,⟨5,7,mt 137 142⟩,⟨6,39,ee 143 137 0⟩,⟨8,8,nc 145 138⟩,⟨9,255,ib 146 16 1 145 139⟩,⟨10,511,sb 1 146 143⟩,⟨7,39,ee 144 137 1⟩,⟨11,2047,mt 7 144⟩]) (sr [mt 148 8,aI 149 .eql 148 28,mt 147 149] (.cond (.t 147) (.regd [⟨0,0,mt 150 1⟩,⟨1,0,mt 151 15⟩,⟨2,0,mt 152 16⟩,⟨3,0,mt 153 11⟩,⟨4,4,nc 154 152⟩,⟨5,28,ib 155 16 1 154 153⟩,⟨6,60,lb 156 1 155⟩,⟨7,1,A1 157 (.mkmth 1 (.t 150))⟩,⟨8,129,A1 158 (.nilm 1 [422,426] (.t 157))⟩,⟨9,385,mt 159 150⟩,⟨10,1023,⟨(some 160),.dyn (.c (.fcons 1 .junk .fnil)) [(.t 159),(.t 151),(.t 156)],none⟩⟩,⟨11,2047,mt 7 160⟩]) (sr [mt 162 8,aI 163 .lss 162 34,mt 161 163] (.cond (.t 161) (sr [la 164 19 2,mt 165 8,mt 166 9,mt 167 10,mt 168 13,
  DL 169 .u64 168,kl 170 347 [(.t 164),(.t 165),(.t 166),(.t 167),(.t 169)],sb 19 4 170,mn 5] .ret) (.seq (.regd [⟨0,0,la 54 19 2⟩,⟨1,0,mt 55 1⟩,⟨2,0,mt 56 8⟩,⟨3,0,mt 57 16⟩,⟨4,0,mt 58 10⟩,⟨5,8,nc 59 57⟩,⟨6,56,ib 60 16 1 59 58⟩,⟨7,120,lb 61 1 60⟩,⟨8,0,mt 62 16⟩,⟨9,0,mt 63 11⟩,⟨10,256,nc 64 62⟩,⟨11,1792,ib 65 16 1 64 63⟩,⟨12,3840,lb 66 1 65⟩,⟨13,8191,kl 67 348 [(.t 54),(.t 55),(.t 56),(.t 61),(.t 66)]⟩,⟨14,16383,ee 68 67 0⟩,⟨15,16383,ee 69 67 1⟩,⟨16,65535,sb 19 4 68⟩,⟨17,131071,mt 5 69⟩]) .ret)))))))))))))))))) (sr [fa 171 16 2,lb 172 1 171,
  aU 173 .add 172 1,fa 174 16 2,sb 1 174 173] (sr [la 175 19 2,mt 176 7,sb 19 4 175,mt 5 176] .ret)))))))))))
def Aqg:LF:=⟨Auh,2,0,177,[.cell 4 true 19,.tmp 5]⟩
def Arb:LC:=(sr [bX 2 0,A1 4 (.alloc zM)] (sr [mt 5 1,fa 6 17 2,A0 (.store 1 (.t 6) (.c (.bool true))),fa 7 18 2,sb 1 7 5] (sr [la 8 19 2,sb 19 4 8] .ret)))
def Apt:LF:=⟨Arb,2,0,9,[.cell 4 true 19]⟩
def Aqr:LC:=(sr [bX 5 0,A1 10 (.alloc zM)] (sr [mt 12 3,fa 13 0 5,ib 14 16 1 13 12,lb 15 1 14,
  aU 16 .eql 15 0,mt 11 16] (.seq (.block 0 (sr [mt 18 1,aI 19 .eql 18 30,mt 20 19,mg 21 20 true 11,A2 22 20 true (.un .not (.t 21)),
  HR 23 20 22,mt 24 23,mg 25 24 false 1,A2 26 24 false (.ari .eql (.t 25) (cI 31)),mg 27 24 false 26,mg 28 27 true 11,A2 29 24 false (.pick (.t 27) (.t 28) (.c (.bool false))),
  CQ 30 24 29,mt 17 30] (.cond (.t 17) (sr [fa 31 16 5,lb 32 1 31,
  aU 33 .add 32 1,fa 34 16 5,sb 1 34 33] (sr [la 35 19 5,sb 19 10 35] .ret)) (sr [mt 37 1,aI 38 .eql 37 33,mt 36 38] (.cond (.t 36) (.reg [mt 39 3,fa 40 0 5,ib 41 16 1 40 39,lb 42 1 41,mt 4 42]) .skip))))) (.seq (sr [mt 43 4,
  aU 44 .geq 43 8192] (.cond (.t 44) (sr [la 45 19 5,kl 46 346 [(.t 45),(cU 18446744073709551614)],sb 19 10 46] .ret) .skip)) (.seq (sr [mt 47 1,aI 48 .eql 47 32] (.cond (.t 48) (.reg [mt 49 2,fa 50 16 5,lb 51 1 50,
  aU 52 .add 51 1,fa 53 0 5,ib 54 16 1 53 49,sb 1 54 52]) .skip)) (sr [mt 55 4,fa 56 16 5,sb 1 56 55] (sr [la 57 19 5,sb 19 10 57] .ret)))))))
def Ap8:LF:=⟨Aqr,5,0,58,[.cell 10 true 19]⟩
def TG:LC:=(sr [bX 5 0,A1 10 (.alloc zM),mn 11] (sr [mU 12 8,
  mU 13 4] (.seq (sr [mt 24 2,aI 25 .eql 24 35] (.cond (.t 25) (.reg [mU 12 4,
  mU 13 8]) .skip)) (.seq (sr [mt 26 3,mt 27 12,kl 28 448 [(.t 26),(.t 27)],A1 29 (.un .not (.t 28)),mt 30 29,mg 31 30 false 4,mg 32 30 false 13,⟨(some 33),.call 448 [(.t 31),(.t 32)],(some (30,false))⟩,A2 34 30 false (.un .not (.t 33)),
  CQ 35 30 34] (.cond (.t 35) (sr [la 36 19 5,kl 37 346 [(.t 36),(cU 18446744073709551614)],sb 19 10 37,mn 11] .ret) .skip)) (sr [A1 14 (.mv (.c .nils))] (.seq (sr [mt 38 12,
  mU 39 0] (.block 0 (.loop (sr [ak 40 .lss 39 38] (.seq (DJ 40 0) (.seq (.block 1 (sr [mt 41 39,mt 15 41] (sr [mt 43 1,mt 44 3,mt 45 15,ak 46 .add 44 45,⟨(some 47),.dyn (.c (.fcons 0 .junk .fnil)) [(.t 43),(.t 46)],none⟩,mt 42 47,ee 48 42 0,ee 49 42 1,mt 16 48,mt 17 49] (.seq (sr [mt 50 17,A1 51 (.eq true true (.iface [74]) (.t 50) (.c .nili))] (.cond (.t 51) (sr [la 52 19 5,mt 53 17,sb 19 10 52,mt 11 53] .ret) .skip)) (.reg [mt 54 14,mt 55 16,kl 56 327 [(.t 54),(.t 55)],mt 14 56]))))) (.reg [aU 57 .add 39 1,mt 39 57]))))))) (sr [A1 18 (.mv (.c .nils))] (.seq (sr [mt 58 2,aI 59 .eql 58 34] (.cond (.t 59) (sr [mt 60 14,kl 61 319 [(.t 60)],
  aB 19 32,sb 32 19 61] (.reg [A1 62 (.slarr 32 1 (.t 19) none none),mt 18 62])) (.seq (.regd [⟨0,0,mt 64 1⟩,⟨1,0,mt 65 14⟩,⟨2,2,A1 66 (.s2a 32 1 (.t 65))⟩,⟨3,6,la 67 32 66⟩,⟨4,1,A1 68 (.mkmth 2 (.t 64))⟩,⟨5,17,A1 69 (.nilm 2 [422,426] (.t 68))⟩,⟨6,49,mt 70 64⟩,⟨7,127,⟨(some 71),.dyn (.c (.fcons 2 .junk .fnil)) [(.t 70),(.t 67)],none⟩⟩,⟨8,255,mt 63 71⟩,⟨9,511,ee 72 63 0⟩,⟨11,0,aB 20 64⟩,⟨12,2047,sb 64 20 72⟩,⟨10,511,ee 73 63 1⟩,⟨13,8191,mt 21 73⟩]) (.seq (sr [mt 74 21,A1 75 (.eq true true (.iface [74]) (.t 74) (.c .nili))] (.cond (.t 75) (sr [la 76 19 5,mt 77 21,sb 19 10 76,mt 11 77] .ret) .skip)) (.reg [A1 78 (.slarr 64 1 (.t 20) none none),mt 18 78]))))) (.seq (sr [mt 79 13,
  mU 80 0] (.block 2 (.loop (sr [ak 81 .lss 80 79] (.seq (DJ 81 2) (.seq (.block 3 (sr [mt 82 80,mt 22 82] (.seq (.regd [⟨4,0,mt 87 18⟩,⟨5,0,mt 88 22⟩,⟨6,2,aV 89 .mul 8 88⟩,⟨7,7,A1 90 (.slsl 1 (.t 87) (some (.t 89)) none)⟩,⟨8,15,kl 91 308 [(.t 90)]⟩,⟨0,0,mt 83 1⟩,⟨1,0,mt 84 4⟩,⟨2,0,mt 85 22⟩,⟨3,192,ak 86 .add 84 85⟩,⟨9,32,A1 92 (.mkmth 1 (.t 83))⟩,⟨10,544,A1 93 (.nilm 1 [422,426] (.t 92))⟩,⟨11,1568,mt 94 83⟩,⟨12,4095,⟨(some 95),.dyn (.c (.fcons 1 .junk .fnil)) [(.t 94),(.t 86),(.t 91)],none⟩⟩,⟨13,8191,mt 23 95⟩]) (sr [mt 96 23,A1 97 (.eq true true (.iface [74]) (.t 96) (.c .nili))] (.cond (.t 97) (sr [la 98 19 5,mt 99 23,sb 19 10 98,mt 11 99] .ret) .skip))))) (.reg [aU 100 .add 80 1,mt 80 100]))))))) (sr [fa 101 16 5,lb 102 1 101,
  aU 103 .add 102 1,fa 104 16 5,sb 1 104 103] (sr [la 105 19 5,sb 19 10 105,mn 11] .ret)))))))))))
def Sj:LF:=⟨TG,5,0,106,[.cell 10 true 19,.tmp 11]⟩
def Ajj:LC:=(sr [A1 4 (.mv (.c (.bool false)))] (sr [mt 5 0,
  aU 6 .leq 5 8192,mt 7 6,mg 8 7 true 1,mg 9 7 true 0,A2 10 7 true (.ari .sub (cU 8192) (.t 9)),A2 11 7 true (.ari .leq (.t 8) (.t 10)),
  HR 12 7 11,mt 4 12] .ret))
def Anj:LF:=⟨Ajj,2,0,13,[.tmp 4]⟩
def An4:LC:=(sr [bX 3 1,
 aB 4 64,mn 5] (.seq (.regd [⟨0,0,mt 9 0⟩,⟨1,1,nc 10 9⟩,⟨2,3,fa 11 1 10⟩,⟨3,7,lb 12 1 11⟩,⟨4,15,kl 13 167 [(.t 12)]⟩,⟨5,0,la 14 32 3⟩,⟨6,63,kl 15 328 [(.t 13),(.t 14)]⟩,⟨7,127,mt 8 15⟩,⟨8,255,ee 16 8 0⟩,⟨10,0,aB 6 64⟩,⟨11,1023,sb 64 6 16⟩,⟨9,255,ee 17 8 1⟩,⟨12,4095,mt 7 17⟩]) (sr [mt 18 0,la 19 64 6,nc 20 18,fa 21 3 20,sb 64 21 19] (sr [la 22 64 6,mt 23 7,sb 64 4 22,mt 5 23] .ret))))
def An1:LF:=⟨An4,2,0,24,[.cell 4 true 64,.tmp 5]⟩
def Ab5:LC:=(sr [mU 4 0,mn 5] (sr [mt 9 0,nc 10 9,fa 11 0 10,lb 12 1 11,mt 13 1,kl 14 50 [(.t 12),(.t 13)],mt 8 14,ee 15 8 0,ee 16 8 1,A1 6 (.alloc (.st (.cons zU (.cons .slice .nil)))),sb 2 6 15,mt 7 16] (.seq (.regd [⟨1,0,mt 18 0⟩,⟨2,1,nc 19 18⟩,⟨3,3,fa 20 2 19⟩,⟨4,7,lb 21 1 20⟩,⟨5,0,la 22 2 6⟩,⟨6,16,A1 23 (.bsl 2 1 (.st (.cons zU (.cons .slice .nil))) [(.i 2 0,2,(.t 22))])⟩,⟨7,63,aP 24 2 32 21 23⟩,⟨0,0,mt 17 0⟩,⟨8,255,nc 25 17⟩,⟨9,511,fa 26 2 25⟩,⟨10,1023,sb 1 26 24⟩]) (sr [fa 27 0 6,lb 28 1 27,mt 29 7,mt 4 28,mt 5 29] .ret))))
def YY:LF:=⟨Ab5,2,0,30,[.tmp 4,.tmp 5]⟩
def Akk:LC:=(sr [mn 6] (sr [mt 10 0,mt 11 1,kl 12 596 [(.t 10),(.t 11)],mt 9 12,ee 13 9 0,ee 14 9 1,mt 7 13,mt 8 14] (sr [mt 15 0,nc 16 15,fa 17 0 16,lb 18 1 17,mt 19 1,mt 20 2,nc 21 18,fa 22 0 21,ib 23 8192 1 22 19,sb 1 23 20] (sr [mt 24 8,mt 6 24] .ret))))
def Amj:LF:=⟨Akk,3,0,25,[.tmp 6]⟩
def Ama:LC:=(sr [bX 3 1,
 aB 4 64,mn 5] (.seq (.seq (.regd [⟨0,0,mt 6 0⟩,⟨1,1,nc 7 6⟩,⟨2,3,fa 8 33 7⟩,⟨3,7,A1 9 (.slarr 64 1 (.t 8) none none)⟩,⟨4,15,kl 10 319 [(.t 9)]⟩,⟨5,0,la 11 32 3⟩,⟨6,63,A1 12 (.eq true false (.ar 32 1 false .int) (.t 10) (.t 11))⟩]) (.cond (.t 12) (sr [A1 13 (.build (.ar 64 (.int .u8)) []),A1 14 (.mkif 74 (cI 31)),sb 64 4 13,mt 5 14] .ret) .skip)) (sr [mt 15 0,nc 16 15,fa 17 33 16,la 18 64 17,sb 64 4 18,mn 5] .ret)))
def Ak8:LF:=⟨Ama,2,0,19,[.cell 4 true 64,.tmp 5]⟩
def XS:LC:=(sr [mU 4 0,mn 5] (sr [mt 10 0,kl 11 601 [(.t 10)],mt 9 11,ee 12 9 0,ee 13 9 1,A1 6 (.alloc (.st (.cons zU (.cons .slice .nil)))),sb 2 6 12,mt 7 13] (.seq (sr [mt 14 7,A1 15 (.eq true true (.iface [74]) (.t 14) (.c .nili))] (.cond (.t 15) (sr [mt 16 7,
  mU 4 0,mt 5 16] .ret) .skip)) (.seq (.regd [⟨0,0,mt 18 0⟩,⟨1,1,nc 19 18⟩,⟨2,3,fa 20 0 19⟩,⟨3,7,la 21 32 20⟩,⟨4,0,mt 22 1⟩,⟨5,0,la 23 2 6⟩,⟨6,63,kl 24 53 [(.t 21),(.t 22),(.t 23)]⟩,⟨7,127,mt 17 24⟩,⟨8,255,ee 25 17 0⟩,⟨9,255,ee 26 17 1⟩,⟨10,511,mt 8 25⟩,⟨11,2047,mt 7 26⟩]) (.seq (sr [mt 27 7,A1 28 (.eq false true (.iface [74]) (.t 27) (.c .nili)),mt 29 28,mg 30 29 true 8,A2 31 29 true (.un .not (.t 30)),
  HR 32 29 31] (.cond (.t 32) (.reg [A1 33 (.mkif 74 (cI 31)),mt 7 33]) .skip)) (sr [fa 34 0 6,lb 35 1 34,mt 36 7,mt 4 35,mt 5 36] .ret))))))
def Za:LF:=⟨XS,2,0,37,[.tmp 4,.tmp 5]⟩
def Yx:LC:=(sr [mn 6] (sr [mt 11 0,kl 12 601 [(.t 11)],mt 10 12,ee 13 10 0,ee 14 10 1,A1 7 (.alloc (.st (.cons zU (.cons .slice .nil)))),sb 2 7 13,mt 8 14] (.seq (sr [mt 15 8,A1 16 (.eq true true (.iface [74]) (.t 15) (.c .nili))] (.cond (.t 16) (sr [mt 17 8,mt 6 17] .ret) .skip)) (.seq (.regd [⟨0,0,mt 19 0⟩,⟨1,1,nc 20 19⟩,⟨2,3,fa 21 0 20⟩,⟨3,7,la 22 32 21⟩,⟨4,0,mt 23 1⟩,⟨5,0,la 24 2 7⟩,⟨6,0,mt 25 2⟩,⟨7,127,kl 26 52 [(.t 22),(.t 23),(.t 24),(.t 25)]⟩,⟨8,255,mt 18 26⟩,⟨9,511,ee 27 18 0⟩,⟨11,0,aB 9 32⟩,⟨12,2047,sb 32 9 27⟩,⟨10,511,ee 28 18 1⟩,⟨13,8191,mt 8 28⟩]) (.seq (sr [mt 29 8,A1 30 (.eq false true (.iface [74]) (.t 29) (.c .nili))] (.cond (.t 30) (.reg [mt 31 0,la 32 32 9,nc 33 31,fa 34 0 33,sb 32 34 32]) .skip)) (sr [mt 35 8,mt 6 35] .ret))))))
def Aa3:LF:=⟨Yx,3,0,36,[.tmp 6]⟩
def Anc:LC:=(sr [A1 2 (.alloc (.st (.cons zU (.cons .slice .nil)))),mn 3] (.seq (sr [mt 5 0,nc 6 5,fa 7 32 6,lb 8 1 7,
  lN 9 0 8,aI 10 .eql 9 0] (.cond (.t 10) (sr [A1 11 (.build (.st (.cons zU (.cons .slice .nil))) []),A1 12 (.mkif 74 (cI 3)),sb 2 2 11,mt 3 12] .ret) .skip)) (sr [mt 13 0,nc 14 13,fa 15 32 14,lb 16 1 15,
  iJ 17 2 16 0,la 18 2 17,A1 4 (.alloc (.st (.cons zU (.cons .slice .nil)))),sb 2 4 18] (sr [mt 19 0,mt 20 0,nc 21 20,fa 22 32 21,lb 23 1 22,A1 24 (.slsl 2 (.t 23) (some (cI 1)) none),nc 25 19,fa 26 32 25,sb 1 26 24] (sr [la 27 2 4,sb 2 2 27,mn 3] .ret)))))
def Alo:LF:=⟨Anc,1,0,28,[.cell 2 true 2,.tmp 3]⟩
variable {M:Seat}
def P8:=(D0 @LZ @Auh.eq_1 @Aqg.eq_1 @f8)
structure Hd where
 g:Nat→BitVec 64
 pc:BitVec 64
 hl:Bool
 xt:BitVec 64
def Hd.v (h:Hd):V:=Ba h.g h.pc h.hl h.xt
def Hd.stop (h:Hd) (x:BitVec 64):Hd:=⟨h.g,h.pc,true,x⟩
def isI (w:BitVec 64):Bool:=decide (Cj w≤35∧w >>> 32 &&& 255#64=0#64)
def ME (op:Nat) (h:Hd) (d a:Nat) (to:BitVec 64):Hd :=
 if (op=30∧¬ h.g a=0#64) ∨ (op=31∧h.g a=0#64) then ⟨h.g,h.pc + 1#64,h.hl,h.xt⟩
 else if 8192#64≤(if op=33 then h.g a else to) then h.stop AD
 else ⟨if op=32 then JB h.g d (h.pc + 1#64) else h.g,if op=33 then h.g a else to,h.hl,h.xt⟩
section
variable {σ:Type} (m:Mm σ)
def Sf (a:BitVec 64):Nat→Nat→σ→List (BitVec 64)→Option Int × σ × List (BitVec 64)
 | 0,_,s,l=>(none,s,l)
 | n + 1, i, s, l => match (m.rd s (a + BitVec.ofNat 64 i)).2.1 with
   | some e=>(some e,(m.rd s (a + BitVec.ofNat 64 i)).2.2,l)
   | none=>Sf a n (i + 1) (m.rd s (a + BitVec.ofNat 64 i)).2.2 (l ++ [(m.rd s (a + BitVec.ofNat 64 i)).1])
def wrA (a:BitVec 64) (f:Nat→BitVec 64):Nat→Nat→σ→Option Int × σ
 | 0,_,s=>(none,s)
 | n + 1, i, s => match (m.wr s (a + BitVec.ofNat 64 i) (f i)).1 with
   | some e=>(some e,(m.wr s (a + BitVec.ofNat 64 i) (f i)).2)
   | none=>wrA a f n (i + 1) (m.wr s (a + BitVec.ofNat 64 i) (f i)).2
def wsB (p:Nat→BitVec 8) (i:Nat):BitVec 64:=J9 (fun j=>p (8 * i + j)) 8
def Eh (l:List (BitVec 64)):Nat→BitVec 8:=Bo fun j=>l.getD j 0#64
def MI (h:Hd) (s:σ) (to:BitVec 64) (t:Nat) (p:Nat→BitVec 8):Hd × Option Int × σ :=
 match wrA m to (wsB p) t 0 s with
 | (some e,s')=>(h,some e,s')
 | (none,s')=>(⟨h.g,h.pc + 1#64,h.hl,h.xt⟩,none,s')
def Aea (h:Hd) (s:σ) (to:BitVec 64) (d:Dg):Hd × Option Int × σ :=
 match m.pi s d with
 | (_,some e,s')=>(h,some e,s')
 | (p,none,s')=>MI m h s' to 8 p.at
def TL (op:Nat) (h:Hd) (s:σ) (a b:BitVec 64):Hd × Option Int × σ :=
 if (wi a (if op=35 then 4#64 else 8#64) && wi b (if op=35 then 8#64 else 4#64))=false then (h.stop AD,none,s)
 else match Sf m a (if op=35 then 4 else 8) 0 s [] with
  | (some e,s',_)=>(h,some e,s')
  | (none, s', l) =>
    if op=34 then MI m h s' b 4 (Co (Pr.mk' (Eh l)).at).at
    else Aea m h s' b (Dg.mk' (Eh l))
def Ox (h:Hd) (w:BitVec 64) (s:σ):Hd × Option Int × σ :=
 if isI w=false then (h.stop AD,none,s)
 else if Cj w=0 then (h.stop (h.g (pF w 48)),none,s)
 else if Cj w < 26 then (⟨JB h.g (pF w 52) (apW (Cj w) (h.g (pF w 48)) (h.g (pF w 44)) (h.g (pF w 40))),h.pc + 1#64,h.hl,h.xt⟩,none,s)
 else if Cj w=26 then (⟨JB h.g (pF w 52) (BitVec.ofInt 64 (pN w)),h.pc + 1#64,h.hl,h.xt⟩,none,s)
 else if Cj w=27 ∨ Cj w=28 then
  if 8192#64≤h.g (pF w 48) + BitVec.ofInt 64 (pN w) then (h.stop AD,none,s)
  else if Cj w=27 then (⟨JB h.g (pF w 52) (m.rd s (h.g (pF w 48) + BitVec.ofInt 64 (pN w))).1,h.pc + 1#64,h.hl,h.xt⟩,(m.rd s (h.g (pF w 48) + BitVec.ofInt 64 (pN w))).2)
  else (⟨h.g,h.pc + 1#64,h.hl,h.xt⟩,m.wr s (h.g (pF w 48) + BitVec.ofInt 64 (pN w)) (h.g (pF w 44)))
 else if Cj w < 34 then (ME (Cj w) h (pF w 52) (pF w 48) (BitVec.ofInt 64 (pN w)),none,s)
 else TL m (Cj w) h s (h.g (pF w 48)) (h.g (pF w 44))
def nx (h:Hd) (s:σ):Hd × Option Int × σ :=
 match (m.rd s h.pc).2.1 with
 | some e=>(h,some e,(m.rd s h.pc).2.2)
 | none=>Ox m h (m.rd s h.pc).1 (m.rd s h.pc).2.2
end
structure OkNx (M:Seat):Prop where
 k241:Ar M 241 Aqg=true
 k346:Ar M 346 Apt=true
 k347:Ar M 347 Ap8=true
 k348:Ar M 348 Sj=true
 k448:Ar M 448 Anj=true
theorem BJ (ok:OkNx M) (g:Nat→BitVec 64) (pc:BitVec 64) (hl:Bool) (xt e:BitVec 64) :
 Ae M 346 [Ba g pc hl xt,W e] [] 0 (Q3 (Ba g pc true e) [] 0):=by
 refine Ab ok.k346 rfl fun x hx=>?_;refine eX ?_;simp only [Apt,Arb,Fm,seval];have zz:=@f8;exact AI hx [] ⟨rfl,rfl,rfl⟩
theorem BA (ok:OkNx M) (a b:BitVec 64) :
 Ae M 448 [W a,W b] [] 0 (Q3 (.bool (wi a b)) [] 0):=by
 refine Ab ok.k448 rfl fun x hx=>?_;unfold wi;by_cases h1:a≤8192#64
 ·refine eX ?_;simp only [Anj,Ajj,h1,LZ,seval];have zz:=h1;exact AI hx [] ⟨rfl,rfl,rfl⟩
 ·refine eX ?_;simp only [Anj,Ajj,h1,LZ,seval];have zz:=h1;exact AI hx [] ⟨rfl,rfl,rfl⟩
theorem QG (ok:OkNx M) (op:Nat) (ho:op=29 ∨ op=30 ∨ op=31 ∨ op=32 ∨ op=33) (g:Nat→BitVec 64) (pc:BitVec 64) (hl:Bool) (xt:BitVec 64) (d a:Nat) (hd:d < 16) (ha:a < 16) (to:BitVec 64) :
 Ae M 347 [Ba g pc hl xt,.int .i64 op,.int .i64 d,.int .i64 a,W to] [] 0 (Q3 ((ME op ⟨g,pc,hl,xt⟩ d a to).v) [] 0):=by
 refine Ab ok.k347 rfl fun x hx=>?_;by_cases h0:g a=0#64 <;> by_cases h1:8192#64≤to <;> by_cases h2:8192#64≤g a <;> rcases ho with rfl | rfl | rfl | rfl | rfl;all_goals simp only [ME,h0,h1,h2,seval,Lb9,true_and,false_and,or_false,not_false_eq_true,false_or,Hd.v,Hd.stop]
 all_goals refine eX ?_;simp only [Ap8,Aqr,Ba,h0,h1,h2,Lbp,seval]
 all_goals repeat refine sd ?_
 all_goals try ((have zz:=AY @f8 UR;exact AI hx [] ⟨rfl,rfl,rfl⟩))
 all_goals
  have zz:=@f8;refine Dh (BJ ok g pc hl xt AD) ?_;simp only [Fm,seval];have zz:=AY @f8 UR;exact AI hx [] ⟨rfl,rfl,rfl⟩
def x8:=@Hd.v.eq_1
end Mv
