/- A part. -/
import Derived.Test.YtgeionenpaopaaaGreatDoorBS
set_option linter.all false
set_option maxRecDepth 20000
set_option maxHeartbeats 16000000
namespace Mv
open Go
def mxW:BitVec 64:=18446744073709551615#64
def sn (m:Nat) (f:Nat→BitVec 64) (w:BitVec 64) (j:Nat):BitVec 64:=if j < m then f j else w
def ex0:Ex:=.mk 26 mxW []
def IC:IrSt:=.mk 7 0 ex0 (.mk 0 0#64 []) [] []
def fu0:Fu:=⟨0,0,[IC]⟩
def p0:List Fu:=[fu0]
def s0W:BitVec 64:=Bn 28 0 14 15 0 0
def liW:BitVec 64:=Bn 26 0 0 0 0 (-1)
def hlW:BitVec 64:=Bn 0 0 0 0 0 0
def l0W:BitVec 64:=Bn 26 0 0 0 0 0
def w6 (f:Nat→BitVec 64):Nat→BitVec 64:=sn 5 (sn 4 (sn 3 (sn 2 (sn 1 f s0W) liW) hlW) l0W) hlW
def imV (w:V) (b:Int):V:=.st 2 (.fcons 0 w (.fcons 1 (.int .i64 b) .fnil))
def Aa9 (f:Nat→BitVec 64) (b k:Nat) (v:Nat→BitVec 64) (i:Nat):BitVec 64:=if b≤i∧i - b < k then v (i - b) else f i
structure OkLm (M:Seat):Prop where
 a:OkM M
 k108:Ar M 108 Aen=true
 k244:Ar M 244 Wf=true
theorem Gj {M:Seat} (ok:OkLm M) (b:Int):As M 244 [.int .i64 b] [] 0 (Q3 (.bool (decide (0≤b∧b≤6144))) [] 0):=by
 refine Ac ok.k244 rfl fun x hx=>?_;by_cases h0:0≤b
 ·by_cases h1:b≤6144
  ·refine eX ?_;simp only [Wf,Aap,h0,h1,LZ,seval];have zz:=BK h0 h1;exact DD hx [] ⟨rfl,rfl,rfl⟩
  ·refine eX ?_;simp only [Wf,Aap,h0,h1,LZ,seval];have zz:=BK h0 h1;exact DD hx [] ⟨rfl,rfl,rfl⟩
 ·refine eX ?_;simp only [Wf,Aap,h0,LZ,seval];have zz:=h0;exact DD hx [] ⟨rfl,rfl,rfl⟩
theorem Ra {M:Seat} (ok:OkLm M) (n:Nat) (u:Nat→BitVec 64) (b:Nat) (k:Nat) (v:Nat→BitVec 64) (h:b≤6144) (h1:n≤b) (h2:k≤2048) :
 As M 108 [imV (.lst 1 n fun j=>W (u j)) b,.lst 1 k fun j=>W (v j)] [] 0 (Q3 (AP (.ptr 0 []) .nili) [(0,AL (Aa9 (G7 n u) b k v) (fun _=>0#64) 0#64 false 0#64)] 1):=by
 have hR:=Gj ok b;rw [decide_eq_true ⟨by omega,by omega⟩] at hR;have hL:=Ky ok.a n Aa u;have d1:((b:Int) < (n:Int))=False:=eq_false Aa;have d2:((2048:Int) < (k:Int))=False:=eq_false Aa;refine Ac ok.k108 rfl fun x hx=>?_;refine eX ?_;simp only [Aen,Ai4,imV,LZ,seval];refine Ap (hR) ?_;simp only [d1,d2,LZ,seval];have zz:=@b9;refine cfY (hL) ?_;simp only [EM,AL,seval];refine ⟨by omega,by omega,by omega,by omega,by omega,Ay.mk hx [352] [] (AP (.ptr 0 []) .nili) _ 1 Ab (by (simp only [Dz,seval])) (by simp only [LV,EM,seval,LY]) ?_ ⟨rfl,rfl,rfl⟩⟩;simp only [AL,LY,seval];intro i hi;unfold Aa9;by_cases h3:b≤i∧i - b < k
 ·rw [if_pos h3,if_pos ⟨h3.1,by omega⟩];simp only [LY,seval]
 ·rw [if_neg h3,if_neg Aa];simp only [LY,seval]
structure OkSt (M:Seat):Prop where
 c:OkTc M
 cl:OkCt M
 cp:OkCp M
 lm:OkLm M
 k283:Ar M 283 Awm=true
def clW:List (BitVec 64):=(Bj clP (AK clP)).words
def Ase (a b c:Dg):Nat→BitVec 64:=Aa9 (G7 clW.length fun i=>clW.getD i 0#64) (AK clP) 12 (inW a b c)
theorem Asy {M:Seat} (ok:OkSt M) (a b c:Dg):As M 283 [dg a,dg b,dg c] [] 0 (Q3 (AP (.ptr 0 []) .nili) [(0,AL (Ase a b c) (fun _=>0#64) 0#64 false 0#64)] 1):=by
 obtain ⟨g1,g2,g3,g4⟩:=Av6 Av1;have hC:=Lf ok.cp clP (cP clP) g1 g2 g4;have hP:=Ar2 ok.cl;have hl:=At7 clP (AK clP);have hM:=Ra ok.lm clW.length (fun i=>clW.getD i 0#64) (AK clP) 12 (inW a b c) g2 hl Ab;have hI:=As1 ok.c a b c;rw [Aee] at hC;unfold Ase;unfold clW at *
 clear g1 g3 g4 hl;generalize (Bj clP (AK clP)).words=Wd at *
 generalize AK clP=bs at *
 generalize clP=P at *
 generalize Aa9 (G7 Wd.length fun i=>Wd.getD i 0#64) bs 12 (inW a b c)=F0 at *
 generalize inW a b c=u at *
 simp only [imV] at hM;refine Ac ok.k283 rfl fun x hx=>?_;refine eX ?_;simp only [Awm,A0n,dg,LZ,seval];refine Ly [] hP (fun a=>Ad a _) trivial ?_;simp only [Dk,Dl,Dj,LZ,seval];have zz:=BK @Ak @Py;refine cfY (hC) ?_;simp only [Lax,Ad,seval];have zz:=@a6;refine ofY (hI) ?_;simp only [AW,seval];refine ofK (hM) (by (try simp only [AL,LY,seval]) <;> first | exact q1 | (intro i hi;simp only [if_true,LY,seval])) (by simp only [AL,LX]) ?_;simp only [Lax,AL,seval];have zz:=BK @b5 @b9;exact DD hx [480] ⟨rfl,rfl,rfl⟩
def Av5 (f:Nat→BitVec 64) (j:Nat):BitVec 8:=byW (f (j / 8)) (j % 8)
def c54:LC:=(sr [aB 2 32,mn 3] (sr [mt 8 0,kl 9 55 [(.t 8)],mt 7 9,ee 10 7 0,ee 11 7 1,A1 4 (.alloc zM),sb 19 4 10,mt 5 11] (.seq (sr [mt 12 5,A1 13 (.eq true true (.iface [74]) (.t 12) (.c .nili))] (.cond (.t 13) (sr [A1 14 (.build zD []),mt 15 5,sb 32 2 14,mt 3 15] .ret) .skip)) (sr [mt 17 0,kl 18 51 [(.t 17)],mt 16 18,ee 19 16 0,ee 20 16 1,
  aB 6 32,sb 32 6 19,mt 5 20] (sr [la 21 32 6,la 22 19 4,kl 23 62 [(.t 21),(.t 22)],mt 24 5,sb 32 2 23,mt 3 24] .ret)))))
def f54:LF:=⟨c54,1,0,25,[.cell 2 true 32,.tmp 3]⟩
def c55:LC:=(sr [A1 2 (.alloc zM),mn 3] (.seq (sr [mt 4 0,A1 5 (.eq false true .ptr (.t 4) (.c .nilp))] (.cond (.t 5) (sr [A1 6 (.build zM []),A1 7 (.mkif 74 (cI 1)),sb 19 2 6,mt 3 7] .ret) .skip)) (.seq (.regd [⟨0,0,mt 8 0⟩,⟨1,1,nc 9 8⟩,⟨2,3,fa 10 8192 9⟩,⟨3,7,la 11 16 10⟩,⟨4,0,mt 12 0⟩,⟨5,16,nc 13 12⟩,⟨6,48,fa 14 8208 13⟩,⟨7,112,lb 15 1 14⟩,⟨8,0,mt 16 0⟩,⟨9,256,nc 17 16⟩,⟨10,768,fa 18 8209 17⟩,⟨11,1792,lb 19 1 18⟩,⟨12,0,mt 20 0⟩,⟨13,4096,nc 21 20⟩,⟨14,12288,fa 22 8210 21⟩,⟨15,28672,lb 23 1 22⟩,⟨16,65535,A1 24 (.build zM [(.f 0,16,(.t 11)),(.f 16,1,(.t 15)),(.f 17,1,(.t 19)),(.f 18,1,(.t 23))])⟩,⟨17,131071,sb 19 2 24⟩,⟨18,262143,mn 3⟩]) .ret)))
def f55:LF:=⟨c55,1,0,25,[.cell 2 true 19,.tmp 3]⟩
def c59:LC:=(sr [bX 1 0,
 aB 2 32] (sr [fa 7 0 1,A1 8 (.slarr 16 1 (.t 7) none none),mt 3 8] (sr [mU 4 0] (.seq (sr [fa 9 17 1,lb 10 1 9] (.cond (.t 10) (.reg [mU 4 1]) .skip)) (.seq (.regd [⟨0,0,mt 11 3⟩,⟨1,1,kl 12 208 [(.t 11)]⟩,⟨2,0,mt 13 3⟩,⟨3,4,A1 14 (.slsl 1 (.t 13) (some (cI 4)) none)⟩,⟨4,15,kl 15 208 [(.t 14)]⟩,⟨5,31,kl 16 207 [(.t 12),(.t 15)]⟩,⟨6,0,mt 17 3⟩,⟨7,64,A1 18 (.slsl 1 (.t 17) (some (cI 8)) none)⟩,⟨8,255,kl 19 208 [(.t 18)]⟩,⟨9,0,mt 20 3⟩,⟨10,512,A1 21 (.slsl 1 (.t 20) (some (cI 12)) none)⟩,⟨11,2047,kl 22 208 [(.t 21)]⟩,⟨12,4095,kl 23 207 [(.t 19),(.t 22)]⟩,⟨13,0,aB 5 32⟩,⟨14,0,aB 6 32⟩,⟨15,32767,sb 32 5 16⟩,⟨16,65535,sb 32 6 23⟩]) (.seq (.regd [⟨0,0,la 24 32 5⟩,⟨1,0,la 25 32 6⟩,⟨2,3,kl 26 207 [(.t 24),(.t 25)]⟩,⟨3,0,fa 27 16 1⟩,⟨4,8,lb 28 1 27⟩,⟨5,0,mt 29 4⟩,⟨6,0,fa 30 18 1⟩,⟨7,64,lb 31 1 30⟩,⟨8,248,A1 32 (.bsl 1 4 zU [(.i 1 0,1,(.t 28)),(.i 1 1,1,(.t 29)),(.i 1 2,1,(.t 31)),(.i 1 3,1,(cU 0))])⟩,⟨9,511,kl 33 208 [(.t 32)]⟩,⟨10,1023,kl 34 207 [(.t 26),(.t 33)]⟩,⟨11,2047,sb 32 2 34⟩]) .ret))))))
def f59:LF:=⟨c59,1,0,35,[.cell 2 true 32]⟩
def c62:LC:=(sr [bX 2 0,
 bX 3 1,
 aB 4 32] (.seq (.regd [⟨1,0,la 6 19 3⟩,⟨2,1,kl 7 59 [(.t 6)]⟩,⟨0,0,la 5 32 2⟩,⟨3,7,kl 8 207 [(.t 5),(.t 7)]⟩,⟨4,15,sb 32 4 8⟩]) .ret))
def f62:LF:=⟨c62,2,0,9,[.cell 4 true 32]⟩
def A0a:LC:=(sr [aB 2 32] (sr [aB 3 32] (.seq (sr [mI 5 0] (.block 0 (.loop (sr [aI 6 .lss 5 4] (.seq (Fy 6 0) (.seq (.block 1 (sr [mt 7 5,mt 4 7]
 (.regd [⟨0,0,mt 8 4⟩,⟨1,1,aJ 9 .mul 8 8⟩,⟨2,3,A1 10 (.slarr 32 1 (.t 3) (some (.t 9)) none)⟩,⟨3,0,mt 11 0⟩,⟨4,0,mt 12 4⟩,⟨5,24,ia 13 1 11 12⟩,⟨6,56,lb 14 1 13⟩,⟨7,127,kl 15 312 [(.t 10),(.t 14)]⟩]))) (.reg [aI 16 .add 5 1,mt 5 16]))))))) (sr [la 17 32 3,sb 32 2 17] .ret))))
def Ax7:LF:=⟨A0a,1,0,18,[.cell 2 true 32]⟩
variable {M:Seat}
structure OkD (M:Seat):Prop where
 k54:Ar M 54 f54=true
 k55:Ar M 55 f55=true
 k59:Ar M 59 f59=true
 k62:Ar M 62 f62=true
 k208:Ar M 208 Ax7=true
theorem At3 (hc:Ar M 312 Au1=true) (n o m:Nat) (ho:o + 8≤n) (hm:8≤m) (hom:o + m≤n) (p:Nat→BitVec 8) (w:BitVec 64) :
 As M 312 [.sl 0 [] o m 1,W w] [(0,.ar 1 n fun j=>B (p j))] 1 (Q3 (.tup .fnil) [(0,.ar 1 n fun j=>B (if o≤j∧j < o + 8 then byW w (j - o) else p j))] 1):=by
 have h:=Ast hc n o m (fun j=>((p j).toNat:Int)) (w.toNat:Int) Aa Aa Aa;have e:(fun j=>V.int .u8 (if o≤j∧j < o + 8 then byt (w.toNat:Int) (j - o) else ((p j).toNat:Int)))=(fun j=>B (if o≤j∧j < o + 8 then byW w (j - o) else p j)):=by
  funext j;by_cases hj:o≤j∧j < o + 8
  ·rw [if_pos hj,if_pos hj];exact Awd w (j - o)
  ·rw [if_neg hj,if_neg hj];rfl
 rw [e] at h;exact h
def D1 (w:Nat→BitVec 64):Dg:=Dg.mk' (Av5 w)
def w4 (a b c d:BitVec 64) (j:Nat):BitVec 64:=if j=0 then a else if j=1 then b else if j=2 then c else d
theorem E1 (ok:OkM M) (okD:OkD M) (n:Nat) (hn:4≤n) (w:Nat→BitVec 64) :
 As M 208 [.lst 1 n (fun j=>W (w j))] [] 0 (Q3 (dg (D1 w)) [] 0):=by
 refine Ac okD.k208 rfl fun x hx=>?_;refine eX ?_;simp only [Ax7,A0a,LZ,seval];refine Au (σ:=Nat) (fun i=>i≤4) (fun i=>fr 18 [(0,.lst 1 n (fun j=>W (w j))),(2,.ptr 0 []),(3,.ptr 1 []),(5,.int .i64 i)])
  (fun i=>[(0,.ar 1 32 (fun _=>B 0)),(1,.ar 1 32 (fun j=>B (if j < 8 * i then Av5 w j else 0)))]) (fun _=>2) (fun i=>4 - i) 0 Aa ?_ ?_
 ·refine Av.fr [0,16] [] hx Bg Ab ?_ ?_
  ·simp only [LY,seval]
  ·simp only [LY,seval];intro j hj;rw [if_neg Aa]
 ·intro i hi;refine eX ?_;by_cases h4:i=4
  ·subst h4;simp only [LZ,seval];refine Ay.mk hx [] [] (dg (D1 w)) [] 0 Ab (by simp only [Dz,seval]) ?_ trivial ⟨rfl,rfl,rfl⟩;simp only [Dz,seval];simp only [dg,LY,seval];intro j hj;rw [if_pos Aa,D1,Dg.at_mk' _ _ hj]
  ·have d0:((i:Int) < 4)=True:=eq_true Aa;have w1:IntKind.i64.wrap ((i:Int) + 1)=((i + 1:Nat):Int):=B7;have w2:IntKind.i64.wrap (8 * (i:Int))=((8 * i:Nat):Int):=B7;simp only [d0,w1,w2,LZ,seval];repeat refine sd ?_
   refine Aw7 [1] (At3 ok.k312 32 (8 * i) (32 - 8 * i) Aa Aa Aa (fun j=>if j < 8 * i then Av5 w j else 0#8) (w i)) ?_;simp only [w1,LZ,seval];repeat refine sd ?_
   refine ⟨i + 1,by omega,by omega,?_⟩;refine Av.fr [0,1] [] hx Bg Ab ?_ ?_
   ·simp only [LY,seval]
   ·simp only [LY,seval];intro j hj;by_cases h1:8 * i≤j∧j < 8 * i + 8
    ·rw [if_pos h1,if_pos Aa,Av5,show j / 8=i by omega,show j % 8=j - 8 * i by omega]
    ·rw [if_neg h1];by_cases h2:j < 8 * i
     ·rw [if_pos h2,if_pos Aa]
     ·rw [if_neg h2,if_neg Aa]
def hdV (g:Nat→BitVec 64) (pc:BitVec 64) (hl:Bool) (xt:BitVec 64):V :=
 .st 19 (.fcons 0 (.ar 1 16 (fun j=>W (g j))) (.fcons 16 (W pc) (.fcons 17 (.bool hl) (.fcons 18 (W xt) .fnil))))
def Lbt:=(BK @LZ @hdV.eq_1)
theorem At2 (ok:OkD M) (f g:Nat→BitVec 64) (pc:BitVec 64) (hl:Bool) (xt:BitVec 64) :
 As M 55 [.imm (AL f g pc hl xt)] [] 0 (Q3 (AP (hdV g pc hl xt) .nili) [] 0):=by
 refine Ac ok.k55 rfl fun x hx=>?_;refine eX ?_;simp only [f55,c55,PG,seval];have zz:=@hdV.eq_1;exact DD hx [] ⟨rfl,rfl,rfl⟩
def Aq7 (g:Nat→BitVec 64) (pc:BitVec 64) (hl:Bool) (xt:BitVec 64):Dg :=
 Ajh (Ajh (Ajh (D1 g) (D1 fun j=>g (4 + j))) (Ajh (D1 fun j=>g (8 + j)) (D1 fun j=>g (12 + j)))) (D1 (w4 pc (if hl then 1 else 0) xt 0))
theorem X1 (ok:OkM M) (okD:OkD M) (g:Nat→BitVec 64) (pc:BitVec 64) (xt:BitVec 64) :
 As M 59 [hdV g pc false xt] [] 0 (Q3 (dg (Aq7 g pc false xt)) [] 0):=by
 refine Ac okD.k59 rfl fun x hx=>?_;refine eX ?_;simp only [f59,c59,Lbt,seval];repeat refine sd ?_
 refine Ai0 (E1 ok okD 16 Aa g) ?_;simp only [LZ,seval];repeat refine sd ?_
 refine Ai0 (E1 ok okD 12 Aa (fun j=>g (4 + j))) ?_;simp only [LZ,seval];repeat refine sd ?_
 refine Ai0 (Ti ok (D1 g) (D1 fun j=>g (4 + j))) ?_;simp only [LZ,seval];repeat refine sd ?_
 refine Ai0 (E1 ok okD 8 Aa (fun j=>g (8 + j))) ?_;simp only [LZ,seval];repeat refine sd ?_
 refine Ai0 (E1 ok okD 4 Aa (fun j=>g (12 + j))) ?_;simp only [LZ,seval];repeat refine sd ?_
 refine Ai0 (Ti ok (D1 fun j=>g (8 + j)) (D1 fun j=>g (12 + j))) ?_;simp only [LZ,seval];repeat refine sd ?_
 refine Ai0 (Ti ok (Ajh (D1 g) (D1 fun j=>g (4 + j))) (Ajh (D1 fun j=>g (8 + j)) (D1 fun j=>g (12 + j)))) ?_;simp only [LZ,seval];repeat refine sd ?_
 refine opK (E1 ok okD 4 Aa (w4 pc 0#64 xt 0#64)) (by (try simp only [LT,LY,seval]) <;> first | exact q1 | ((intro j hj;unfold w4;(repeat' split);all_goals first | exact (Aft _ _ _ _ _).mpr rfl | omega))) (by simp only [LT,LX]) ?_;simp only [LZ,seval];repeat refine sd ?_
 refine Ai0 (Ti ok (Ajh (Ajh (D1 g) (D1 fun j=>g (4 + j))) (Ajh (D1 fun j=>g (8 + j)) (D1 fun j=>g (12 + j)))) (D1 (w4 pc 0#64 xt 0#64))) ?_;simp only [LZ,seval];repeat refine sd ?_
 have zz:=BK @Aq7.eq_1 Lbn;exact DD hx [] ⟨rfl,rfl,rfl⟩
theorem Aq4 (ok:OkM M) (okD:OkD M) (g:Nat→BitVec 64) (pc:BitVec 64) (xt:BitVec 64) :
 As M 59 [hdV g pc true xt] [] 0 (Q3 (dg (Aq7 g pc true xt)) [] 0):=by
 refine Ac okD.k59 rfl fun x hx=>?_;refine eX ?_;simp only [f59,c59,Lbt,seval];repeat refine sd ?_
 refine Ai0 (E1 ok okD 16 Aa g) ?_;simp only [LZ,seval];repeat refine sd ?_
 refine Ai0 (E1 ok okD 12 Aa (fun j=>g (4 + j))) ?_;simp only [LZ,seval];repeat refine sd ?_
 refine Ai0 (Ti ok (D1 g) (D1 fun j=>g (4 + j))) ?_;simp only [LZ,seval];repeat refine sd ?_
 refine Ai0 (E1 ok okD 8 Aa (fun j=>g (8 + j))) ?_;simp only [LZ,seval];repeat refine sd ?_
 refine Ai0 (E1 ok okD 4 Aa (fun j=>g (12 + j))) ?_;simp only [LZ,seval];repeat refine sd ?_
 refine Ai0 (Ti ok (D1 fun j=>g (8 + j)) (D1 fun j=>g (12 + j))) ?_;simp only [LZ,seval];repeat refine sd ?_
 refine Ai0 (Ti ok (Ajh (D1 g) (D1 fun j=>g (4 + j))) (Ajh (D1 fun j=>g (8 + j)) (D1 fun j=>g (12 + j)))) ?_;simp only [LZ,seval];repeat refine sd ?_
 refine opK (E1 ok okD 4 Aa (w4 pc 1#64 xt 0#64)) (by (try simp only [LT,LY,seval]) <;> first | exact q1 | ((intro j hj;unfold w4;(repeat' split);all_goals first | exact (Aft _ _ _ _ _).mpr rfl | omega))) (by simp only [LT,LX]) ?_;simp only [LZ,seval];repeat refine sd ?_
 refine Ai0 (Ti ok (Ajh (Ajh (D1 g) (D1 fun j=>g (4 + j))) (Ajh (D1 fun j=>g (8 + j)) (D1 fun j=>g (12 + j)))) (D1 (w4 pc 1#64 xt 0#64))) ?_;simp only [LZ,seval];repeat refine sd ?_
 have zz:=BK @Aq7.eq_1 Lbn;exact DD hx [] ⟨rfl,rfl,rfl⟩
theorem Asn (ok:OkM M) (okD:OkD M) (g:Nat→BitVec 64) (pc:BitVec 64) (hl:Bool) (xt:BitVec 64) :
 As M 59 [hdV g pc hl xt] [] 0 (Q3 (dg (Aq7 g pc hl xt)) [] 0):=by
 cases hl
 ·exact X1 ok okD g pc xt
 ·exact Aq4 ok okD g pc xt
theorem At6 (ok:OkM M) (okD:OkD M) (r:Dg) (g:Nat→BitVec 64) (pc:BitVec 64) (hl:Bool) (xt:BitVec 64) :
 As M 62 [dg r,hdV g pc hl xt] [] 0 (fun r' H' k'=>r'=dg (Ajh r (Aq7 g pc hl xt))∧H'=[]∧k'=0):=by
 refine Ac okD.k62 rfl fun x hx=>?_;refine eX ?_;simp only [f62,c62,Lbt,seval];repeat refine sd ?_
 have zz:=@hdV.eq_1;refine opY (Asn ok okD g pc hl xt) ?_;simp only [LZ,seval];repeat refine sd ?_
 refine Ai0 (Ti ok r (Aq7 g pc hl xt)) ?_;simp only [LZ,seval];repeat refine sd ?_
 exact Ay.mkZ hx [] ⟨rfl,rfl,rfl⟩
def Au3 (f g:Nat→BitVec 64) (pc:BitVec 64) (hl:Bool) (xt:BitVec 64):Dg:=Ajh (Ar3 f 13 0) (Aq7 g pc hl xt)
theorem Avp (ok:OkM M) (okD:OkD M) (f g:Nat→BitVec 64) (pc:BitVec 64) (hl:Bool) (xt:BitVec 64) :
 As M 54 [.imm (AL f g pc hl xt)] [] 0 (Q3 (AP (dg (Au3 f g pc hl xt)) .nili) [] 0):=by
 refine Ac okD.k54 rfl fun x hx=>?_;refine eX ?_;simp only [f54,c54,LZ,seval];have zz:=BK @b9 @hdV.eq_1;refine IQ (At2 okD f g pc hl xt) ?_;simp only [EM,hdV,seval];have zz:=@b9;refine IQ (Atm ok f g pc hl xt) ?_;simp only [EM,seval];have zz:=@hdV.eq_1;refine IQ (At6 ok okD (Ar3 f 13 0) g pc hl xt) ?_;simp only [LZ,seval];have zz:=@Au3.eq_1;exact DD hx [] ⟨rfl,rfl,rfl⟩
def f8:=@hdV.eq_1
end Mv
namespace Mv
open Go
variable {M:Seat}
structure OkPr (M:Seat):Prop where
 r:OkRu M
 s:OkSt M
 d:OkD M
theorem Aue (ok:OkRu M) (d:Int) (l g:BitVec 64) (s:Dg) (n:Nat) :
 As M 117 [.ptr 0 []] [(0,gmV d l g s (.ptr 2 []) (.sl 1 [] 0 n 42))] 3 (Q3 (.int .i64 n) [(0,gmV d l g s (.ptr 2 []) (.sl 1 [] 0 n 42))] 3):=by
 refine Ac ok.n.k117 rfl fun x hx=>?_;refine eX ?_;simp only [Ayh,A0p,gmV,ruV,Ap8,LZ,seval];have zz:=@a6;exact DD hx [0,1,2] ⟨rfl,rfl,rfl⟩
def rB0 (pr:V):V:=L3 (.ptr 1 []) 100#64 0#64 (.sl 4 [] 0 1 1) pr (.sl 2 [] 0 1 64) (.map 3)
theorem Asj (ok:OkPr M) (r o:Dg):As M 174 [.ptr 0 [],.int .i64 0] [(0,rB0 .nils),(2,.ar 64 1 fun _=>E3 r o),(4,.ar 1 1 fun _=>.lst 1 1 fun _=>B 1#8)] 5
 (fun y H' k'=>y=AP (.ptr 5 []) .nili∧H'=[(0,rB0 .nils),(2,.ar 64 1 fun _=>E3 r o),(4,.ar 1 1 fun _=>.lst 1 1 fun _=>B 1#8),(5,AL (Ase r o txZ) (fun _=>0#64) 0#64 false 0#64)]∧k'=6):=by
 have hT:=Aui ok.r.t;have hC:=Ark ok.s.c;have hS:=Asy ok.s r o txZ;generalize Ase r o txZ=F0 at *
 generalize txZ=d at *
 refine Ac ok.r.k174 rfl fun x hx=>?_;refine eX ?_;simp only [Av0,Aw5,rB0,L3,Ap8,E3,LZ,seval];refine Ap (hT) ?_;simp only [LZ,seval];refine Ap (hC) ?_;simp only [EM,seval];have zz:=BK @b9 @a6;refine ofY (hS) ?_;simp only [EM,AL,rB0,L3,Ap8,E3,seval];have zz:=aq7 @b5 @rB0.eq_1 @c6 @b7 @b8 @b9 @a6;exact DD hx [0,1,2,3,4,1317] ⟨rfl,rfl,rfl⟩
theorem Arq (ok:OkPr M) (r0 o0 r o f:Dg) (p:Nat) (b:Nat→BitVec 64) (i ot k:BitVec 64) (hp:p < 8) (hb:¬ b p < 1#64) :
 As M 172 [.ptr 0 [],E3 r o,dg f,.int .i64 p,W 0#64] [(0,rB0 .nils),(1,F1 b i ot .nils k),(2,.ar 64 1 fun _=>E3 r0 o0),(4,.ar 1 1 fun _=>.lst 1 1 fun _=>B 1#8)] 5
 (fun y H' k'=>y=AP (.int .i64 0) .nili∧H'=[(0,rB0 (.sl 8 [] 0 1 98)),(1,F1 (fun j=>if j=p then b p - 1#64 else b j) i ot (.sl 5 [] 0 1 2) (k + 1#64)),(2,.ar 64 1 fun _=>E3 r0 o0),(4,.ar 1 1 fun _=>.lst 1 1 fun _=>B 1#8),(5,.ar 2 1 fun _=>bnV 1#64 false),
  (6,gmV 20 100#64 0#64 (Au3 (Ase r0 o0 txZ) (fun _=>0#64) 0#64 false 0#64) (.ptr 1 []) (.sl 7 [] 0 1 42)),(7,.ar 42 1 fun _=>(clR f p 0#64).v),(8,.ar 98 1 fun _=>Iv r o 0 f (.ptr 6 []))]∧k'=9):=by
 have hS:=Asj ok r0 o0;have hO:=Avp ok.s.c.m ok.d (Ase r0 o0 txZ) (fun _=>0#64) 0#64 false 0#64;generalize Ase r0 o0 txZ=F0 at *
 generalize Au3 F0 (fun _=>0#64) 0#64 false 0#64=s at *
 have hG:=Ati ok.r s f p b i ot k hp hb;have hN:=Avb ok.r;simp only [rB0,L3,Ap8,E3,AL] at hS;simp only [ruV,Ap8] at hG;refine Ac ok.r.k172 rfl fun x hx=>?_;refine eX ?_;simp only [Auk,Awa,rB0,L3,Ap8,E3,wz0,LZ,seval];refine Ap (hN) ?_;simp only [LZ,seval];have zz:=aq5 @rB0.eq_1 @c6 @b7 @b8 @a6;refine Hx [0,1,2,3,4] [0,2,4] (hS) ?_;simp only [EM,seval];have zz:=@b9;refine IQ (hO) ?_;simp only [EM,seval];have zz:=BK @c3 @a6;refine onY [1] [1] (hG) ?_;simp only [EM,F1,bnV,Iv,E3,gmV,ruV,Ap8,wz0,seval];refine Ay.mk hx [0,1,2,3,4,1541,1542,1543,2069] [] (AP (.int .i64 0) .nili) _ 9 Ab (by (simp only [Dz,seval])) (by simp only [LV,EM,seval,LY]) ?_ ⟨rfl,rfl,rfl⟩;simp only [rB0,L3,Ap8,E3,Iv,F1,bnV,gmV,ruV,clR,Cl.v,dg,LY,seval];refine ⟨fun j hj=>?_,fun j hj=>?_⟩;all_goals
  obtain rfl:j=0:=Aa;simp only [if_true,V.ren,W,B,LY,seval]
theorem Ate (ok:OkPr M) (r o f:Dg):As M 173 [.ptr 0 [],.int .i64 0] [(0,rB0 (.sl 5 [] 0 1 98)),(5,.ar 98 1 fun _=>Iv r o 0 f (.ptr 6 []))] 7
 (fun y H' k'=>y=AP (.ptr 6 []) .nili∧H'=[(0,rB0 (.sl 5 [] 0 1 98)),(5,.ar 98 1 fun _=>Iv r o 0 f (.ptr 6 []))]∧k'=7):=by
 have hF:As M 280 [.ptr 0 [],.int .i64 0] [(0,rB0 (.sl 5 [] 0 1 98)),(5,.ar 98 1 fun _=>Iv r o 0 f (.ptr 6 []))] 7
  (fun y H' k'=>y=AP (Iv r o 0 f (.ptr 6 [])) .nili∧H'=[(0,rB0 (.sl 5 [] 0 1 98)),(5,.ar 98 1 fun _=>Iv r o 0 f (.ptr 6 []))]∧k'=7):=by
  refine Ac ok.r.k280 rfl fun x hx=>?_;refine eX ?_;simp only [Av4,Ay8,rB0,L3,Ap8,Iv,E3,LZ,seval];have zz:=aq7 @b5 @rB0.eq_1 @c6 @b7 @k8 @b8 @a6;exact DD hx [0,1,2,3,4,5,6] ⟨rfl,rfl,rfl⟩
 refine Ac ok.r.k173 rfl fun x hx=>?_;refine eX ?_;simp only [Avu,Aw3,rB0,L3,Ap8,Iv,E3,LZ,seval];refine Ah [0,1,2,3,4,5,6] [0,5] [0,5] (hF) (by simp only [rB0,L3,Ap8,Iv,E3,dg,AA,seval]) Ab (by ((try simp only [rB0,L3,Ap8,Iv,E3,dg,LH,Ai,LY,seval]);first | done | exact True.intro | rfl)) (by ((try simp only [rB0,L3,Ap8,Iv,E3,dg,LH,Ai,LY,seval]);first | done | exact True.intro | rfl)) ?_;simp only [EM,rB0,L3,Ap8,Iv,E3,seval];have zz:=aq7 @b5 @rB0.eq_1 @c6 @b7 @k8 @b8 @a6;exact DD hx [0,1,2,3,4,5,6] ⟨rfl,rfl,rfl⟩
def k9:=@rB0.eq_1
end Mv
namespace Mv
open Go
structure OkRn (M:Seat):Prop where
 p:OkPr M
 k42:Ar M 42 f42=true
 k136:Ar M 136 Aze=true
 is:∀ a b:Int,As M 63 [.ifc 74 (.int .i64 a),.ifc 74 (.int .i64 b)] [] 0 (Q3 (.bool (decide (a=b))) [] 0)
theorem zDg:V.ar 1 32 (fun _=>B 0#8)=dg Dg.zero:=by simp only [dg,Dg.at_zero];rfl
def Ay7:Dg:=Dg.mk' fun j=>if j=0 then 9#8 else 0#8
theorem Ar5 {M:Seat} (ok:OkRn M):As M 136 [] [] 0 (Q3 (.bool true) [] 0):=by
 have okR:=ok.p.r;have hB:=As4 okR Dg.zero Dg.zero;have hF:=Ash okR Dg.zero Dg.zero;have h0:=Arn okR Dg.zero Dg.zero Dg.zero 0 0#64;have hA:=Asw okR;have h1:=Arq ok.p Dg.zero Dg.zero Dg.zero Dg.zero Ay7 0 (riB 1000#64 8) (riI 1000#64 8) 0#64 0#64 Ab Ab;have hG:=Ate ok.p Dg.zero Dg.zero Ay7;have hI:=ok.is;simp only [E3,L3,Ap8] at hB hF h0 hA;refine Ac ok.k136 rfl fun x hx=>?_;refine eX ?_;simp only [Aze,Az3,zDg,LZ,seval];have zz:=Jr @b8 @a6 @c3;refine cfY (hB) ?_;simp only [EM,E3,L3,Ap8,F1,seval];have zz:=@a6;refine Hx [32,33,34,35] [32,34] (hF) ?_;simp only [LZ,seval];have zz:=@a6;refine Hx [32,33,34,35] [32] (h0) ?_;simp only [EM,seval];clear hB hF h0;refine YI [32,33,34,35] [32] [352] [0] hA (by simp only [AA,seval]) Ab ?_ (by simp only [LY,seval]) ?_
 ·simp only [LY,seval];refine ⟨rfl,fun i hi=>?_⟩;obtain rfl:i=0:=Aa;simp only [if_true,LY,seval]
 clear hA;simp only [EM,Lau,seval];refine Ah [32,33,34,35,368] [32,33,34,368] [0,1,2,4] h1 (by simp only [AA,seval]) Ab ?_ ?_ ?_
 ·simp only [E3,dg,Int.natCast_zero,LY,seval];intro j hj;rw [Ay7,Dg.at_mk' _ j hj];by_cases h:j=0 <;> simp only [h,Dh,LY,seval]
 ·simp only [rB0,L3,Ap8,E3,F1,dg,LH,Ai,LY,seval]
 clear h1;simp only [Lax,LH,Ai,rB0,L3,Ap8,E3,F1,bnV,gmV,ruV,Iv,seval];refine Ah [32,33,34,35,368,515,513] [32,515] [0,5] hG (by simp only [AA,seval]) Ab (by simp only [LY,seval]) ?_ ?_
 ·simp only [rB0,L3,Ap8,Iv,E3,dg,V.ren,LH,Ai,LY,seval]
 clear hG;simp only [Lax,LH,Ai,rB0,L3,Ap8,E3,Iv,seval];refine Ap (hI 4 4) ?_;simp only [decide_true,LZ,seval];have zz:=aq4 @gmV.eq_1 @ruV.eq_1 @b7 @a6;refine Hx [513,514,33] [513] (Aue okR 20 100#64 0#64 (Au3 (Ase Dg.zero Dg.zero txZ) (fun _=>0#64) 0#64 false 0#64) 1) ?_;simp only [LZ,seval];exact Ay.mkZ hx [] ⟨rfl,rfl,rfl⟩
theorem Ari {M:Seat} (ok:OkRn M) (n:Int) (h:Dg):As M 42 [.int .i64 n,dg h] [] 0 (Q3 (.bool true) [] 0):=by
 have okR:=ok.p.r;have h1:=Asp okR 5#64 0#64 Dg.zero Dg.zero;have h2:=Asv okR .nils;have h3:=Aro okR Dg.zero Dg.zero h 0 0#64;have h4:=Atg okR n;have h5:=Arc okR n h 0;have h6:=Asl okR n;have h7:=Arg okR n;have hF:=Ar5 ok;have hR:=Arr okR 1#64 (.inl rfl);have hN:=Asq okR Dg.zero Dg.zero;have hL:=Asu okR;have hI:=ok.is;simp only [Ap8,E3,shZ] at h1 h3 h7 hN;refine Ac ok.k42 rfl fun x hx=>?_;refine eX ?_;simp only [f42,c42,LZ,seval];have zz:=@a6;refine IQ (h1) ?_;simp only [EM,seval];refine Ap (h2) ?_;simp only [EM,seval];have zz:=@a6;refine IQ (h3) ?_;simp only [EM,seval];refine Ap (h4) ?_;simp only [EM,seval];have zz:=BK @a6 @msV.eq_1;refine IQ (h5) ?_;simp only [EM,msV,seval];refine Ap (h6) ?_;simp only [EM,seval];have zz:=@a6;refine IQ (h7) ?_;simp only [LZ,seval];clear h1 h2 h3 h4 h5 h6 h7;refine Au (σ:=Nat) (fun i=>i≤7) (fun i=>fr 99 [(4,.bool false),(5,.nilp),(69,.sl 0 [] 0 7 1),(70,.int .i64 7),(71,.int .i64 i)]) (fun _=>[(0,.ar 1 7 fun _=>er 1)]) (fun _=>1) (fun i=>7 - i) 0 Aa ?_ ?_
 ·refine Av.fr [1008] [] hx Bg Ab ?_ ?_
  ·simp only [Int.natCast_zero,LY,seval]
  ·simp only [er,LY,seval];intro j hj;have:j=0 ∨ j=1 ∨ j=2 ∨ j=3 ∨ j=4 ∨ j=5 ∨ j=6:=Aa;rcases this with rfl | rfl | rfl | rfl | rfl | rfl | rfl <;> simp only [LY,seval]
 intro i hi;refine eX ?_;by_cases h7:i=7
 ·subst h7;simp only [LZ,seval];have zz:=@c3;refine cfY (hR) ?_;simp only [F1,LZ,seval];have zz:=@a6;refine Hx [17] [] (hN) ?_;simp only [EM,seval];refine Ap (hF) ?_;simp only [LZ,seval];refine Ap (hL) ?_;simp only [LZ,seval];refine Ap (hI 2 2) ?_;simp only [decide_true,LZ,seval];exact Ay.mkZ hx [] ⟨rfl,rfl,rfl⟩
 have d0:((i:Int) < 7)=True:=eq_true Aa;have d1:(0≤(i:Int))=True:=eq_true Aa;have wi:IntKind.i64.wrap ((i:Int) + 1)=((i + 1:Nat):Int):=B7;simp only [d0,d1,LZ,seval];repeat refine sd ?_
 refine Ap (hI 1 1) ?_;simp only [decide_true,LZ,seval];refine ⟨i + 1,by omega,by omega,?_⟩;refine Av.fr [0] [] hx Bg Ab ?_ ?_
 ·simp only [wi,LY,seval]
 ·simp only [er,LY,seval]
end Mv
