/- A part. -/
import Derived.Test.YtncipgmjhaiagaaGreatDoorGY
set_option linter.all false
set_option maxRecDepth 20000
set_option maxHeartbeats 4000000
namespace Mv
open Go
def c54:LC:=(sr [aB 2 32,mn 3] (sr [mt 8 0,kl 9 55 [(.t 8)],mt 7 9,ee 10 7 0,ee 11 7 1,A1 4 (.alloc (.st (.cons (.ar 16 (.int .u64)) (.cons (.int .u64) (.cons .bool (.cons (.int .u64) .nil)))))),sb 19 4 10,mt 5 11] (.seq (sr [mt 12 5,A1 13 (.eq true true (.iface [74]) (.t 12) (.c .nili))] (.cond (.t 13) (sr [A1 14 (.build (.ar 32 (.int .u8)) []),mt 15 5,sb 32 2 14,mt 3 15] .ret) .skip)) (sr [mt 17 0,kl 18 51 [(.t 17)],mt 16 18,ee 19 16 0,ee 20 16 1,
  aB 6 32,sb 32 6 19,mt 5 20] (sr [la 21 32 6,la 22 19 4,kl 23 62 [(.t 21),(.t 22)],mt 24 5,sb 32 2 23,mt 3 24] .ret)))))
def f54:LF:=⟨c54,1,0,25,[.cell 2 true 32,.tmp 3]⟩
def c55:LC:=(sr [A1 2 (.alloc (.st (.cons (.ar 16 (.int .u64)) (.cons (.int .u64) (.cons .bool (.cons (.int .u64) .nil)))))),mn 3] (.seq (sr [mt 4 0,A1 5 (.eq false true .ptr (.t 4) (.c .nilp))] (.cond (.t 5) (sr [A1 6 (.build (.st (.cons (.ar 16 (.int .u64)) (.cons (.int .u64) (.cons .bool (.cons (.int .u64) .nil))))) []),A1 7 (.mkif 74 (cI 1)),sb 19 2 6,mt 3 7] .ret) .skip)) (.seq (.regd [⟨0,0,mt 8 0⟩,⟨1,1,nc 9 8⟩,⟨2,3,fa 10 8192 9⟩,⟨3,7,la 11 16 10⟩,⟨4,0,mt 12 0⟩,⟨5,16,nc 13 12⟩,⟨6,48,fa 14 8208 13⟩,⟨7,112,lb 15 1 14⟩,⟨8,0,mt 16 0⟩,⟨9,256,nc 17 16⟩,⟨10,768,fa 18 8209 17⟩,⟨11,1792,lb 19 1 18⟩,⟨12,0,mt 20 0⟩,⟨13,4096,nc 21 20⟩,⟨14,12288,fa 22 8210 21⟩,⟨15,28672,lb 23 1 22⟩,⟨16,65535,A1 24 (.build (.st (.cons (.ar 16 (.int .u64)) (.cons (.int .u64) (.cons .bool (.cons (.int .u64) .nil))))) [(.f 0,16,(.t 11)),(.f 16,1,(.t 15)),(.f 17,1,(.t 19)),(.f 18,1,(.t 23))])⟩,⟨17,131071,sb 19 2 24⟩,⟨18,262143,mn 3⟩]) .ret)))
def f55:LF:=⟨c55,1,0,25,[.cell 2 true 19,.tmp 3]⟩
def c59:LC:=(sr [bX 1 0,
 aB 2 32] (sr [fa 7 0 1,A1 8 (.slarr 16 1 (.t 7) none none),mt 3 8] (sr [mU 4 0] (.seq (sr [fa 9 17 1,lb 10 1 9] (.cond (.t 10) (.reg [mU 4 1]) .skip)) (.seq (.regd [⟨0,0,mt 11 3⟩,⟨1,1,kl 12 208 [(.t 11)]⟩,⟨2,0,mt 13 3⟩,⟨3,4,A1 14 (.slsl 1 (.t 13) (some (cI 4)) none)⟩,⟨4,15,kl 15 208 [(.t 14)]⟩,⟨5,31,kl 16 207 [(.t 12),(.t 15)]⟩,⟨6,0,mt 17 3⟩,⟨7,64,A1 18 (.slsl 1 (.t 17) (some (cI 8)) none)⟩,⟨8,255,kl 19 208 [(.t 18)]⟩,⟨9,0,mt 20 3⟩,⟨10,512,A1 21 (.slsl 1 (.t 20) (some (cI 12)) none)⟩,⟨11,2047,kl 22 208 [(.t 21)]⟩,⟨12,4095,kl 23 207 [(.t 19),(.t 22)]⟩,⟨13,0,aB 5 32⟩,⟨14,0,aB 6 32⟩,⟨15,32767,sb 32 5 16⟩,⟨16,65535,sb 32 6 23⟩]) (.seq (.regd [⟨0,0,la 24 32 5⟩,⟨1,0,la 25 32 6⟩,⟨2,3,kl 26 207 [(.t 24),(.t 25)]⟩,⟨3,0,fa 27 16 1⟩,⟨4,8,lb 28 1 27⟩,⟨5,0,mt 29 4⟩,⟨6,0,fa 30 18 1⟩,⟨7,64,lb 31 1 30⟩,⟨8,248,A1 32 (.bsl 1 4 (.int .u64) [(.i 1 0,1,(.t 28)),(.i 1 1,1,(.t 29)),(.i 1 2,1,(.t 31)),(.i 1 3,1,(cU 0))])⟩,⟨9,511,kl 33 208 [(.t 32)]⟩,⟨10,1023,kl 34 207 [(.t 26),(.t 33)]⟩,⟨11,2047,sb 32 2 34⟩]) .ret))))))
def f59:LF:=⟨c59,1,0,35,[.cell 2 true 32]⟩
def c62:LC:=(sr [bX 2 0,
 bX 3 1,
 aB 4 32] (.seq (.regd [⟨1,0,la 6 19 3⟩,⟨2,1,kl 7 59 [(.t 6)]⟩,⟨0,0,la 5 32 2⟩,⟨3,7,kl 8 207 [(.t 5),(.t 7)]⟩,⟨4,15,sb 32 4 8⟩]) .ret))
def f62:LF:=⟨c62,2,0,9,[.cell 4 true 32]⟩
def Ajq:LC:=(sr [aB 2 32] (sr [aB 3 32] (.seq (sr [mI 5 0] (.block 0 (.loop (sr [aI 6 .lss 5 4] (.seq (cXx 6 0) (.seq (.block 1 (sr [mt 7 5,mt 4 7]
 (.regd [⟨0,0,mt 8 4⟩,⟨1,1,aJ 9 .mul 8 8⟩,⟨2,3,A1 10 (.slarr 32 1 (.t 3) (some (.t 9)) none)⟩,⟨3,0,mt 11 0⟩,⟨4,0,mt 12 4⟩,⟨5,24,ia 13 1 11 12⟩,⟨6,56,lb 14 1 13⟩,⟨7,127,kl 15 312 [(.t 10),(.t 14)]⟩]))) (.reg [aI 16 .add 5 1,mt 5 16]))))))) (sr [la 17 32 3,sb 32 2 17] .ret))))
def Ae8:LF:=⟨Ajq,1,0,18,[.cell 2 true 32]⟩
variable {M:Seat}
structure OkD (M:Seat):Prop where
 k54:Al M 54 f54=true
 k55:Al M 55 f55=true
 k59:Al M 59 f59=true
 k62:Al M 62 f62=true
 k208:Al M 208 Ae8=true
theorem TN (hc:Al M 312 UJ=true) (n o m:Nat) (ho:o + 8≤n) (hm:8≤m) (hom:o + m≤n) (p:Nat→BitVec 8) (w:BitVec 64) :
 Af M 312 [.sl 0 [] o m 1,W w] [(0,.ar 1 n fun j=>B (p j))] 1 (Q3 (.tup .fnil) [(0,.ar 1 n fun j=>B (if o≤j∧j < o + 8 then V7 w (j - o) else p j))] 1):=by
 have h:=JU hc n o m (fun j=>((p j).toNat:Int)) (w.toNat:Int) Aa Aa Aa
 have e:(fun j=>V.int .u8 (if o≤j∧j < o + 8 then Zl (w.toNat:Int) (j - o) else ((p j).toNat:Int)))=(fun j=>B (if o≤j∧j < o + 8 then V7 w (j - o) else p j)):=by
  funext j
  by_cases hj:o≤j∧j < o + 8
  ·rw [if_pos hj,if_pos hj];exact XM w (j - o)
  ·rw [if_neg hj,if_neg hj];rfl
 rw [e] at h
 exact h
def AP (w:Nat→BitVec 64):Dg:=Dg.mk' (A6 w)
def w4 (a b c d:BitVec 64) (j:Nat):BitVec 64:=if j=0 then a else if j=1 then b else if j=2 then c else d
theorem BU (ok:OkM M) (okD:OkD M) (n:Nat) (hn:4≤n) (w:Nat→BitVec 64) :
 Af M 208 [.lst 1 n (fun j=>W (w j))] [] 0 (Q3 (dg (AP w)) [] 0):=by
 refine Ac okD.k208 rfl fun x hx=>?_
 refine es 2000 ?_;(simp only [Ae8,Ajq,LZ,seval])
 refine Ag (σ:=Nat) (fun i=>i≤4) (fun i=>fr 18 [(0,.lst 1 n (fun j=>W (w j))),(2,.ptr 0 []),(3,.ptr 1 []),(5,.int .i64 i)])
  (fun i=>[(0,.ar 1 32 (fun _=>B 0)),(1,.ar 1 32 (fun j=>B (if j < 8 * i then A6 w j else 0)))]) (fun _=>2) (fun i=>4 - i) 0 Aa ?_ ?_
 ·refine Aj.fr [0,16] [] hx Ax Ak ?_ ?_
  ·simp only [LY,seval]
  ·simp only [LY,seval]
   intro j hj
   rw [if_neg Aa]
 ·intro i hi
  refine es 2000 ?_
  by_cases h4:i=4
  ·subst h4
   (simp only [LZ,seval])
   refine Aq.mk hx [] [] (dg (AP w)) [] 0 Ak (by simp only [Fk,seval]) ?_ trivial ⟨rfl,rfl,rfl⟩
   simp only [Fk,seval]
   simp only [dg,LY,seval]
   intro j hj
   rw [if_pos Aa,AP,Dg.at_mk' _ _ hj]
  ·have d0:((i:Int) < 4)=True:=eq_true Aa
   have w1:IntKind.i64.wrap ((i:Int) + 1)=((i + 1:Nat):Int):=A9
   have w2:IntKind.i64.wrap (8 * (i:Int))=((8 * i:Nat):Int):=A9
   (simp only [d0,w1,w2,LZ,seval])
   repeat refine sd ?_
   refine Aek [1] (TN ok.k312 32 (8 * i) (32 - 8 * i) Aa Aa Aa (fun j=>if j < 8 * i then A6 w j else 0#8) (w i)) ?_
   (simp only [w1,LZ,seval])
   repeat refine sd ?_
   refine ⟨i + 1,by omega,by omega,?_⟩
   refine Aj.fr [0,1] [] hx Ax Ak ?_ ?_
   ·simp only [LY,seval]
   ·simp only [LY,seval]
    intro j hj
    by_cases h1:8 * i≤j∧j < 8 * i + 8
    ·rw [if_pos h1,if_pos Aa,A6,show j / 8=i by omega,show j % 8=j - 8 * i by omega]
    ·rw [if_neg h1]
     by_cases h2:j < 8 * i
     ·rw [if_pos h2,if_pos Aa]
     ·rw [if_neg h2,if_neg Aa]
def AU (g:Nat→BitVec 64) (pc:BitVec 64) (hl:Bool) (xt:BitVec 64):V :=
 .st 19 (.fcons 0 (.ar 1 16 (fun j=>W (g j))) (.fcons 16 (W pc) (.fcons 17 (.bool hl) (.fcons 18 (W xt) .fnil))))
def YG:=(aq3 @LY @AU.eq_1 @true_and)
def Lbw:=(aq3 @Cb @List.nil_append.{0} @AU.eq_1)
def G4:=(aq2 @LZ @AU.eq_1)
def Fi:=(aq5 @LV @LZ @List.nil_append.{0} @AU.eq_1 @Adf)
theorem Cl (ok:OkD M) (f g:Nat→BitVec 64) (pc:BitVec 64) (hl:Bool) (xt:BitVec 64) :
 Af M 55 [.imm (mach f g pc hl xt)] [] 0 (Q3 (Ao (AU g pc hl xt) .nili) [] 0):=by
 refine Ac ok.k55 rfl fun x hx=>?_
 refine es 2000 ?_;(simp only [f55,c55,Ga,seval])
 have zz:=@AU.eq_1;exact Bg hx [] ⟨rfl,rfl,rfl⟩
def DV (g:Nat→BitVec 64) (pc:BitVec 64) (hl:Bool) (xt:BitVec 64):Dg :=
 B2 (B2 (B2 (AP g) (AP fun j=>g (4 + j))) (B2 (AP fun j=>g (8 + j)) (AP fun j=>g (12 + j)))) (AP (w4 pc (if hl then 1 else 0) xt 0))
theorem Hf (ok:OkM M) (okD:OkD M) (g:Nat→BitVec 64) (pc:BitVec 64) (xt:BitVec 64) :
 Af M 59 [AU g pc false xt] [] 0 (Q3 (dg (DV g pc false xt)) [] 0):=by
 refine Ac okD.k59 rfl fun x hx=>?_
 refine es 2000 ?_;(simp only [f59,c59,G4,seval])
 repeat refine sd ?_
 refine BI (BU ok okD 16 Aa g) ?_
 (simp only [LZ,seval])
 repeat refine sd ?_
 refine BI (BU ok okD 12 Aa (fun j=>g (4 + j))) ?_
 (simp only [LZ,seval])
 repeat refine sd ?_
 refine BI (Bj ok (AP g) (AP fun j=>g (4 + j))) ?_
 (simp only [LZ,seval])
 repeat refine sd ?_
 refine BI (BU ok okD 8 Aa (fun j=>g (8 + j))) ?_
 (simp only [LZ,seval])
 repeat refine sd ?_
 refine BI (BU ok okD 4 Aa (fun j=>g (12 + j))) ?_
 (simp only [LZ,seval])
 repeat refine sd ?_
 refine BI (Bj ok (AP fun j=>g (8 + j)) (AP fun j=>g (12 + j))) ?_
 (simp only [LZ,seval])
 repeat refine sd ?_
 refine BI (Bj ok (B2 (AP g) (AP fun j=>g (4 + j))) (B2 (AP fun j=>g (8 + j)) (AP fun j=>g (12 + j)))) ?_
 (simp only [LZ,seval])
 repeat refine sd ?_
 refine Y9 (BU ok okD 4 Aa (w4 pc 0#64 xt 0#64)) (by (try simp only [LT,LY,seval]) <;> first | exact q1 | ((intro j hj;unfold w4;(repeat' split);all_goals first | exact (Ds _ _ _ _ _).mpr rfl | omega))) (by simp only [LT,LX]) ?_
 (simp only [LZ,seval])
 repeat refine sd ?_
 refine BI (Bj ok (B2 (B2 (AP g) (AP fun j=>g (4 + j))) (B2 (AP fun j=>g (8 + j)) (AP fun j=>g (12 + j)))) (AP (w4 pc 0#64 xt 0#64))) ?_
 (simp only [LZ,seval])
 repeat refine sd ?_
 have zz:=aq2 @DV.eq_1 ZI;exact Bg hx [] ⟨rfl,rfl,rfl⟩
theorem I5 (ok:OkM M) (okD:OkD M) (g:Nat→BitVec 64) (pc:BitVec 64) (xt:BitVec 64) :
 Af M 59 [AU g pc true xt] [] 0 (Q3 (dg (DV g pc true xt)) [] 0):=by
 refine Ac okD.k59 rfl fun x hx=>?_
 refine es 2000 ?_;(simp only [f59,c59,G4,seval])
 repeat refine sd ?_
 refine BI (BU ok okD 16 Aa g) ?_
 (simp only [LZ,seval])
 repeat refine sd ?_
 refine BI (BU ok okD 12 Aa (fun j=>g (4 + j))) ?_
 (simp only [LZ,seval])
 repeat refine sd ?_
 refine BI (Bj ok (AP g) (AP fun j=>g (4 + j))) ?_
 (simp only [LZ,seval])
 repeat refine sd ?_
 refine BI (BU ok okD 8 Aa (fun j=>g (8 + j))) ?_
 (simp only [LZ,seval])
 repeat refine sd ?_
 refine BI (BU ok okD 4 Aa (fun j=>g (12 + j))) ?_
 (simp only [LZ,seval])
 repeat refine sd ?_
 refine BI (Bj ok (AP fun j=>g (8 + j)) (AP fun j=>g (12 + j))) ?_
 (simp only [LZ,seval])
 repeat refine sd ?_
 refine BI (Bj ok (B2 (AP g) (AP fun j=>g (4 + j))) (B2 (AP fun j=>g (8 + j)) (AP fun j=>g (12 + j)))) ?_
 (simp only [LZ,seval])
 repeat refine sd ?_
 refine Y9 (BU ok okD 4 Aa (w4 pc 1#64 xt 0#64)) (by (try simp only [LT,LY,seval]) <;> first | exact q1 | ((intro j hj;unfold w4;(repeat' split);all_goals first | exact (Ds _ _ _ _ _).mpr rfl | omega))) (by simp only [LT,LX]) ?_
 (simp only [LZ,seval])
 repeat refine sd ?_
 refine BI (Bj ok (B2 (B2 (AP g) (AP fun j=>g (4 + j))) (B2 (AP fun j=>g (8 + j)) (AP fun j=>g (12 + j)))) (AP (w4 pc 1#64 xt 0#64))) ?_
 (simp only [LZ,seval])
 repeat refine sd ?_
 have zz:=aq2 @DV.eq_1 ZI;exact Bg hx [] ⟨rfl,rfl,rfl⟩
theorem P6 (ok:OkM M) (okD:OkD M) (g:Nat→BitVec 64) (pc:BitVec 64) (hl:Bool) (xt:BitVec 64) :
 Af M 59 [AU g pc hl xt] [] 0 (Q3 (dg (DV g pc hl xt)) [] 0):=by
 cases hl
 ·exact Hf ok okD g pc xt
 ·exact I5 ok okD g pc xt
theorem D5 (ok:OkM M) (okD:OkD M) (r:Dg) (g:Nat→BitVec 64) (pc:BitVec 64) (hl:Bool) (xt:BitVec 64) :
 Af M 62 [dg r,AU g pc hl xt] [] 0 (fun r' H' k'=>r'=dg (B2 r (DV g pc hl xt))∧H'=[]∧k'=0):=by
 refine Ac okD.k62 rfl fun x hx=>?_
 refine es 2000 ?_;(simp only [f62,c62,G4,seval])
 repeat refine sd ?_
 have zz:=@AU.eq_1;refine Gy (P6 ok okD g pc hl xt) ?_
 (simp only [LZ,seval])
 repeat refine sd ?_
 refine BI (Bj ok r (DV g pc hl xt)) ?_
 (simp only [LZ,seval])
 repeat refine sd ?_
 exact Aq.mkZ hx [] ⟨rfl,rfl,rfl⟩
def Yo (f g:Nat→BitVec 64) (pc:BitVec 64) (hl:Bool) (xt:BitVec 64):Dg:=B2 (Bm f 13 0) (DV g pc hl xt)
theorem Sv (ok:OkM M) (okD:OkD M) (f g:Nat→BitVec 64) (pc:BitVec 64) (hl:Bool) (xt:BitVec 64) :
 Af M 54 [.imm (mach f g pc hl xt)] [] 0 (Q3 (Ao (dg (Yo f g pc hl xt)) .nili) [] 0):=by
 refine Ac okD.k54 rfl fun x hx=>?_
 refine es 2000 ?_;(simp only [f54,c54,LZ,seval])
 have zz:=aq2 @mach.eq_1 @AU.eq_1;refine CI (Cl okD f g pc hl xt) ?_
 (simp only [Cb,AU,seval])
 have zz:=@mach.eq_1;refine CI (C9 ok f g pc hl xt) ?_
 (simp only [Cb,seval])
 have zz:=@AU.eq_1;refine CI (D5 ok okD (Bm f 13 0) g pc hl xt) ?_
 (simp only [LZ,seval])
 have zz:=@Yo.eq_1;exact Bg hx [] ⟨rfl,rfl,rfl⟩
def c66:LC:=(sr [aB 2 32] (sr [aB 3 32] (.seq (sr [mI 4 0] (.block 0 (.loop (.seq (sr [mt 5 4,aI 6 .lss 5 8]
 (cXx 6 0)) (.seq (.block 1 (.reg [mt 9 4,
  aJ 10 .add 24 9,mt 11 0,mt 12 4,
  aJ 13 .mul 8 12,
  aJ 14 .sub 56 13,
  cVv 15 .u64 14,ak 16 .shr 11 15,
  cVv 17 .u8 16,ib 18 32 1 3 10,sb 1 18 17])) (.reg [mt 7 4,aI 8 .add 7 1,mt 4 8])))))) (sr [la 19 32 3,sb 32 2 19] .ret))))
def f66:LF:=⟨c66,1,0,20,[.cell 2 true 32]⟩
def Atr:LC:=(sr [aB 8 32] (sr [mt 12 0,mt 13 1,mt 14 2,mt 15 3,A1 16 (.bsl 1 4 (.int .u64) [(.i 1 0,1,(.t 12)),(.i 1 1,1,(.t 13)),(.i 1 2,1,(.t 14)),(.i 1 3,1,(.t 15))]),mt 9 16] (sr [aB 10 32] (.seq (sr [mI 11 0] (.block 0 (.loop (.seq (sr [mt 17 11,aI 18 .lss 17 32]
 (cXx 18 0)) (.seq (.block 1 (.reg [mt 21 11,mt 22 9,mt 23 11,aI 24 .quo 23 8,ia 25 1 22 24,lb 26 1 25,mt 27 11,aI 28 .rem 27 8,
  aJ 29 .mul 8 28,
  aJ 30 .sub 56 29,
  cVv 31 .u64 30,ak 32 .shr 26 31,
  cVv 33 .u8 32,ib 34 32 1 10 21,sb 1 34 33])) (.reg [mt 19 11,aI 20 .add 19 1,mt 11 20])))))) (sr [la 35 32 10,sb 32 8 35] .ret)))))
def Aty:LF:=⟨Atr,4,0,36,[.cell 8 true 32]⟩
def c60:LC:=(sr [bX 1 0,
 aB 2 32] (sr [fa 9 0 1,lb 10 1 9,mt 3 10] (sr [A1 4 (.mv (.c .nils))] (.seq (sr [mI 5 0] (.block 0 (.loop (.seq (sr [mt 11 5,aI 12 .lss 11 16]
 (cXx 12 0)) (.seq (.block 1 (.regd [⟨1,0,mt 16 3⟩,⟨2,0,mt 17 5⟩,⟨3,3,ia 18 1 16 17⟩,⟨4,7,lb 19 1 18⟩,⟨5,0,mt 20 3⟩,⟨6,0,mt 21 5⟩,⟨7,32,aI 22 .add 21 1⟩,⟨8,112,ia 23 1 20 22⟩,⟨9,240,lb 24 1 23⟩,⟨10,0,mt 25 3⟩,⟨11,0,mt 26 5⟩,⟨12,1024,aI 27 .add 26 2⟩,⟨13,3584,ia 28 1 25 27⟩,⟨14,7680,lb 29 1 28⟩,⟨15,0,mt 30 3⟩,⟨16,0,mt 31 5⟩,⟨17,32768,aI 32 .add 31 3⟩,⟨18,114688,ia 33 1 30 32⟩,⟨19,245760,lb 34 1 33⟩,⟨20,524287,kl 35 209 [(.t 19),(.t 24),(.t 29),(.t 34)]⟩,⟨0,0,mt 15 4⟩,⟨21,1048575,A1 36 (.bsl 32 1 (.ar 32 (.int .u8)) [(.i 32 0,32,(.t 35))])⟩,⟨22,4194303,aP 37 32 32 15 36⟩,⟨23,8388607,mt 4 37⟩])) (.reg [mt 13 5,aI 14 .add 13 4,mt 5 14])))))) (sr [mt 39 4,kl 40 56 [(cI 2),(.t 39)],mt 38 40,ee 41 38 0,ee 42 38 1,
  aB 6 32,sb 32 6 41,mt 7 42] (sr [mU 8 0] (.seq (sr [fa 43 2 1,lb 44 1 43] (.cond (.t 44) (.reg [mU 8 1]) .skip)) (.seq (.regd [⟨1,0,fa 46 1 1⟩,⟨2,1,lb 47 1 46⟩,⟨3,0,mt 48 8⟩,⟨4,0,fa 49 3 1⟩,⟨5,8,lb 50 1 49⟩,⟨6,31,kl 51 209 [(.t 47),(.t 48),(.t 50),(cU 0)]⟩,⟨0,0,la 45 32 6⟩,⟨7,127,kl 52 206 [(.t 45),(.t 51)]⟩,⟨8,255,sb 32 2 52⟩]) .ret))))))))
def f60:LF:=⟨c60,1,0,53,[.cell 2 true 32]⟩
def c65:LC:=(sr [bX 4 1,
 aB 6 32,
 mI 7 0] (.seq (sr [mt 9 2,
  lN 10 0 9,aI 11 .gtr 10 16,mt 12 11,mg 13 12 false 0,A2 14 12 false (.ari .lss (.t 13) (cI 0)),
  pKt 15 12 14,mt 16 15,mg 17 16 false 0,mg 18 16 false 2,A2 19 16 false (.len 0 (.t 18)),A2 20 16 false (.conv .u64 (.t 19)),A2 21 16 false (.ari .shl (cI 1) (.t 20)),A2 22 16 false (.ari .geq (.t 17) (.t 21)),
  pKt 23 16 22] (.cond (.t 23) (sr [A1 24 (.build (.ar 32 (.int .u8)) []),sb 32 6 24,
  mI 7 2] .ret) .skip)) (.seq (sr [mI 8 0] (.block 0 (.loop (.seq (sr [mt 25 8,mt 26 2,
  lN 27 0 26,ak 28 .lss 25 27]
 (cXx 28 0)) (.seq (.block 1 (sr [mt 31 0,mt 32 8,
  cVv 33 .u64 32,ak 34 .shr 31 33,aI 35 .rem 34 2,aI 36 .eql 35 0] (.cond (.t 36) (.regd [⟨0,0,la 37 32 4⟩,⟨1,0,mt 38 2⟩,⟨2,0,mt 39 8⟩,⟨3,6,ia 40 32 38 39⟩,⟨4,14,la 41 32 40⟩,⟨5,31,kl 42 206 [(.t 37),(.t 41)]⟩,⟨6,63,sb 32 4 42⟩]) (.regd [⟨0,0,mt 43 2⟩,⟨1,0,mt 44 8⟩,⟨2,3,ia 45 32 43 44⟩,⟨3,7,la 46 32 45⟩,⟨4,0,la 47 32 4⟩,⟨5,31,kl 48 206 [(.t 46),(.t 47)]⟩,⟨6,63,sb 32 4 48⟩])))) (.reg [mt 29 8,aI 30 .add 29 1,mt 8 30])))))) (sr [la 49 32 4,sb 32 6 49,
  mI 7 0] .ret))))
def f65:LF:=⟨c65,3,0,50,[.cell 6 true 32,.tmp 7]⟩
def c99:LC:=(sr [bX 2 0,
 bX 3 1,A1 4 (.alloc (.st (.cons (.ar 32 (.int .u8)) (.cons (.st (.cons (.ar 16 (.int .u64)) (.cons (.int .u64) (.cons .bool (.cons (.int .u64) .nil))))) (.cons .slice (.cons (.ar 64 (.int .u8)) .nil))))))] (sr [fa 9 51 3,lb 10 1 9,
  lN 11 0 10,mt 5 11] (.seq (.regd [⟨0,0,fa 12 1 2⟩,⟨1,1,lb 13 1 12⟩,⟨2,3,cVv 14 .u64 13⟩,⟨3,0,mt 15 5⟩,⟨4,8,A1 16 (.mm true (cI 1) (.t 15))⟩,⟨5,24,cVv 17 .u64 16⟩,⟨6,63,ak 18 .rem 14 17⟩,⟨7,127,cVv 19 .i64 18⟩,⟨8,0,fa 20 2 2⟩,⟨9,256,lb 21 1 20⟩,⟨10,768,cVv 22 .u64 21⟩,⟨11,1792,aU 23 .rem 22 32⟩,⟨12,3840,cVv 24 .i64 23⟩,⟨13,255,mt 6 19⟩,⟨14,16383,mt 7 24⟩]) (sr [A1 25 (.bsl 2 0 (.st (.cons (.int .u64) (.cons .slice .nil))) []),fa 26 51 3,lb 27 1 26,
  aP 28 2 32 25 27,mt 8 28] (.seq (sr [mt 29 5,aI 30 .gtr 29 0] (.cond (.t 30) (.reg [mt 31 8,mt 32 6,A1 33 (.bsl 32 0 (.ar 32 (.int .u8)) []),mt 34 8,mt 35 6,ia 36 2 34 35,fa 37 1 36,lb 38 1 37,
  aP 39 32 32 33 38,ia 40 2 31 32,fa 41 1 40,sb 1 41 39]) .skip)) (.seq (sr [fa 42 0 2,lb 43 1 42] (.block 0 (sr [aI 45 .eql 43 1,mt 44 45] (.cond (.t 44) (.regd [⟨0,0,mt 46 7⟩,⟨1,0,fa 47 0 3⟩,⟨2,3,ib 48 32 1 47 46⟩,⟨3,7,lb 49 1 48⟩,⟨4,0,fa 50 3 2⟩,⟨5,16,lb 51 1 50⟩,⟨6,48,cVv 52 .u8 51⟩,⟨7,127,ak 53 .xor 49 52⟩,⟨8,0,fa 54 0 3⟩,⟨9,511,ib 55 32 1 54 46⟩,⟨10,1023,sb 1 55 53⟩]) (sr [aI 57 .eql 43 2,mt 56 57] (.cond (.t 56) (.regd [⟨0,0,mt 58 7⟩,⟨1,1,aI 59 .rem 58 16⟩,⟨2,0,fa 60 32 3⟩,⟨3,4,fa 61 0 60⟩,⟨4,15,ib 62 16 1 61 59⟩,⟨5,31,lb 63 1 62⟩,⟨6,0,fa 64 3 2⟩,⟨7,64,lb 65 1 64⟩,⟨8,255,ak 66 .xor 63 65⟩,⟨9,0,fa 67 32 3⟩,⟨10,512,fa 68 0 67⟩,⟨11,2047,ib 69 16 1 68 59⟩,⟨12,4095,sb 1 69 66⟩]) (sr [aI 71 .eql 43 3,mt 70 71] (.cond (.t 70) (.reg [fa 72 32 3,fa 73 16 72,lb 74 1 73,fa 75 3 2,lb 76 1 75,ak 77 .xor 74 76,fa 78 32 3,fa 79 16 78,sb 1 79 77]) (sr [aI 81 .eql 43 4,mt 80 81] (.cond (.t 80) (.reg [fa 82 32 3,fa 83 17 82,lb 84 1 83,A1 85 (.un .not (.t 84)),fa 86 32 3,fa 87 17 86,sb 1 87 85]) (sr [aI 89 .eql 43 5,mt 88 89] (.cond (.t 88) (.reg [fa 90 32 3,fa 91 18 90,lb 92 1 91,fa 93 3 2,lb 94 1 93,ak 95 .xor 92 94,fa 96 32 3,fa 97 18 96,sb 1 97 95]) (sr [aI 99 .eql 43 8,mt 98 99] (.cond (.t 98) (.regd [⟨0,0,mt 100 7⟩,⟨1,1,aJ 101 .mul 2 100⟩,⟨2,0,fa 102 52 3⟩,⟨3,7,ib 103 64 1 102 101⟩,⟨4,15,lb 104 1 103⟩,⟨5,0,fa 105 3 2⟩,⟨6,32,lb 106 1 105⟩,⟨7,96,cVv 107 .u8 106⟩,⟨8,255,ak 108 .xor 104 107⟩,⟨9,0,fa 109 52 3⟩,⟨10,1023,ib 110 64 1 109 101⟩,⟨11,2047,sb 1 110 108⟩]) .skip)))))))))))))) (.seq (sr [mt 111 5,aI 112 .gtr 111 0] (.cond (.t 112) (sr [fa 113 0 2,lb 114 1 113] (.block 1 (sr [aI 116 .eql 114 6,mt 115 116] (.cond (.t 115) (.regd [⟨0,0,mt 117 8⟩,⟨1,0,mt 118 6⟩,⟨2,3,ia 119 2 117 118⟩,⟨3,7,fa 120 0 119⟩,⟨4,15,lb 121 1 120⟩,⟨5,0,fa 122 3 2⟩,⟨6,32,lb 123 1 122⟩,⟨7,127,ak 124 .xor 121 123⟩,⟨8,255,ia 125 2 117 118⟩,⟨9,511,fa 126 0 125⟩,⟨10,1023,sb 1 126 124⟩]) (sr [aI 128 .eql 114 7,mt 127 128] (.cond (.t 127) (sr [mt 129 8,mt 130 6,ia 131 2 129 130,fa 132 1 131,lb 133 1 132,
  lN 134 0 133,aI 135 .gtr 134 0] (.cond (.t 135) (.regd [⟨0,0,mt 136 8⟩,⟨1,0,mt 137 6⟩,⟨2,3,ia 138 2 136 137⟩,⟨3,7,fa 139 1 138⟩,⟨4,15,lb 140 1 139⟩,⟨5,0,fa 141 2 2⟩,⟨6,32,lb 142 1 141⟩,⟨7,96,cVv 143 .u64 142⟩,⟨8,0,mt 144 8⟩,⟨9,0,mt 145 6⟩,⟨10,768,ia 146 2 144 145⟩,⟨11,1792,fa 147 1 146⟩,⟨12,3840,lb 148 1 147⟩,⟨13,7936,lN 149 0 148⟩,⟨14,16128,cVv 150 .u64 149⟩,⟨15,32736,ak 151 .rem 143 150⟩,⟨16,65504,cVv 152 .i64 151⟩,⟨17,0,mt 153 7⟩,⟨18,131071,ia 154 32 140 152⟩,⟨19,524287,ib 155 32 1 154 153⟩,⟨20,1048575,lb 156 1 155⟩,⟨21,0,fa 157 3 2⟩,⟨22,2097152,lb 158 1 157⟩,⟨23,6291456,cVv 159 .u8 158⟩,⟨24,16777215,ak 160 .xor 156 159⟩,⟨25,131071,ia 161 32 140 152⟩,⟨26,67108863,ib 162 32 1 161 153⟩,⟨27,134217727,sb 1 162 160⟩]) .skip)) (sr [aI 164 .eql 114 9,mt 163 164] (.cond (.t 163) (.regd [⟨0,0,mt 165 8⟩,⟨1,0,mt 166 6⟩,⟨2,3,A1 167 (.slsl 2 (.t 165) none (some (.t 166)))⟩,⟨3,0,mt 168 8⟩,⟨4,0,mt 169 6⟩,⟨5,16,aI 170 .add 169 1⟩,⟨6,56,A1 171 (.slsl 2 (.t 168) (some (.t 170)) none)⟩,⟨7,127,aP 172 2 32 167 171⟩,⟨8,255,mt 8 172⟩]) (sr [aI 174 .eql 114 10,mt 173 174] (.cond (.t 173) (.reg [mt 175 8,mt 176 8,mt 177 6,ia 178 2 176 177,la 179 2 178,A1 180 (.bsl 2 1 (.st (.cons (.int .u64) (.cons .slice .nil))) [(.i 2 0,2,(.t 179))]),
  aP 181 2 32 175 180,mt 8 181]) (sr [aI 183 .eql 114 11,mt 182 183] (.cond (.t 182) (.regd [⟨0,0,mt 184 8⟩,⟨1,0,mt 185 6⟩,⟨3,0,mt 187 8⟩,⟨4,4,iJ 188 2 187 0⟩,⟨5,12,la 189 2 188⟩,⟨6,0,mt 190 8⟩,⟨7,0,mt 191 6⟩,⟨8,96,ia 192 2 190 191⟩,⟨9,224,la 193 2 192⟩,⟨10,511,ia 194 2 184 185⟩,⟨11,1023,sb 2 194 189⟩,⟨2,0,mt 186 8⟩,⟨12,4095,iJ 195 2 186 0⟩,⟨13,8191,sb 2 195 193⟩]) (sr [aI 197 .eql 114 12,mt 196 197] (.cond (.t 196) (sr [mt 198 8,mt 199 6,ia 200 2 198 199,fa 201 1 200,lb 202 1 201,
  lN 203 0 202,aI 204 .gtr 203 0] (.cond (.t 204) (.reg [mt 205 8,mt 206 6,mt 207 8,mt 208 6,ia 209 2 207 208,fa 210 1 209,lb 211 1 210,A1 212 (.slsl 32 (.t 211) (some (cI 1)) none),ia 213 2 205 206,fa 214 1 213,sb 1 214 212]) .skip)) .skip)))))))))))))) .skip)) (sr [mt 215 8,fa 216 51 3,sb 1 216 215] (sr [la 217 116 3,sb 116 4 217] .ret)))))))))
def f99:LF:=⟨c99,2,0,218,[.cell 4 true 116]⟩
def Aut:LC:=(sr [bX 2 0,
 bX 3 1,
 aB 4 32,
 mI 5 0] (.seq (.regd [⟨0,0,A1 15 (.bsl 1 0 (.int .u64) [])⟩,⟨1,0,fa 16 32 3⟩,⟨2,2,fa 17 0 16⟩,⟨3,6,A1 18 (.slarr 16 1 (.t 17) none none)⟩,⟨4,15,aP 19 1 8 15 18⟩,⟨5,0,fa 20 32 3⟩,⟨6,32,fa 21 16 20⟩,⟨7,96,lb 22 1 21⟩,⟨8,0,fa 23 32 3⟩,⟨9,256,fa 24 17 23⟩,⟨10,768,lb 25 1 24⟩,⟨11,0,fa 26 32 3⟩,⟨12,2048,fa 27 18 26⟩,⟨13,6144,lb 28 1 27⟩,⟨14,16383,A1 29 (.build (.st (.cons .slice (.cons (.int .u64) (.cons .bool (.cons (.int .u64) .nil))))) [(.f 0,1,(.t 19)),(.f 1,1,(.t 22)),(.f 2,1,(.t 25)),(.f 3,1,(.t 28))])⟩,⟨15,0,A1 6 (.alloc (.st (.cons .slice (.cons (.int .u64) (.cons .bool (.cons (.int .u64) .nil))))))⟩,⟨16,65535,sb 4 6 29⟩]) (sr [A1 7 (.mv (.c .nils))] (.seq (sr [fa 30 51 3,lb 31 1 30,
  lN 32 0 31,
  mI 33 0] (.block 0 (.loop (sr [ak 34 .lss 33 32] (.seq (cXx 34 0) (.seq (.block 1 (sr [ia 35 2 31 33,la 36 2 35,A1 9 (.alloc (.st (.cons (.int .u64) (.cons .slice .nil)))),sb 2 9 36] (sr [fa 37 0 9,lb 38 1 37,A1 39 (.build (.st (.cons (.int .u64) (.cons .slice .nil))) [(.f 0,1,(.t 38))]),A1 10 (.alloc (.st (.cons (.int .u64) (.cons .slice .nil)))),sb 2 10 39] (.seq (sr [fa 40 1 9,lb 41 1 40,
  lN 42 0 41,
  mI 43 0] (.block 2 (.loop (sr [ak 44 .lss 43 42] (.seq (cXx 44 2) (.seq (.block 3 (sr [ia 45 32 41 43,la 46 32 45,
  aB 12 32,sb 32 12 46] (.reg [fa 47 1 10,lb 48 1 47,la 49 32 12,A1 50 (.bsl 32 1 (.ar 32 (.int .u8)) [(.i 32 0,32,(.t 49))]),
  aP 51 32 32 48 50,fa 52 1 10,sb 1 52 51]))) (.reg [aI 53 .add 43 1,mt 43 53]))))))) (.reg [mt 54 7,la 55 2 10,A1 56 (.bsl 2 1 (.st (.cons (.int .u64) (.cons .slice .nil))) [(.i 2 0,2,(.t 55))]),
  aP 57 2 32 54 56,mt 7 57]))))) (.reg [aI 58 .add 33 1,mt 33 58]))))))) (sr [la 60 32 2,fa 61 0 3,la 62 32 61,la 63 4 6,mt 64 7,fa 65 52 3,la 66 64 65,kl 67 242 [(.t 60),(.t 62),(.t 63),(.t 64),(.t 66)],mt 59 67,ee 68 59 0,ee 69 59 1,
  aB 13 32,sb 32 13 68,mt 14 69] (sr [la 70 32 13,mt 71 14,sb 32 4 70,mt 5 71] .ret))))))
def Aus:LF:=⟨Aut,2,0,72,[.cell 4 true 32,.tmp 5]⟩
def Ats:LC:=(sr [bX 5 0,
 bX 6 1,
 bX 7 2,
 bX 9 4,
 aB 10 32,
 mI 11 0] (sr [aB 12 32] (.seq (.seq (.regd [⟨1,0,la 15 4 7⟩,⟨2,1,kl 16 60 [(.t 15)]⟩,⟨0,0,la 14 32 6⟩,⟨3,7,kl 17 206 [(.t 14),(.t 16)]⟩,⟨4,0,la 18 32 5⟩,⟨5,31,A1 19 (.eq true false (.ar 32 1 false .int) (.t 17) (.t 18))⟩]) (.cond (.t 19) (sr [la 20 32 12,sb 32 10 20,
  mI 11 31] .ret) .skip)) (sr [la 21 32 6,mt 22 3,A1 23 (.build (.st (.cons (.ar 32 (.int .u8)) (.cons .slice (.cons (.int .i64) .nil)))) [(.f 0,32,(.t 21)),(.f 32,1,(.t 22))]),
  bX 24 23,mt 13 24] (sr [A1 25 (.bsl 1 0 (.int .u64) []),fa 26 0 7,lb 27 1 26,
  aP 28 1 8 25 27,fa 29 0 7,sb 1 29 28] (sr [mt 30 13,la 31 4 7,la 32 64 9,kl 33 349 [(.t 30),(.t 31),(.t 32)],sb 4 7 33] (.seq (sr [mt 34 13,nc 35 34,fa 36 33 35,lb 37 1 36,aI 38 .eql 37 0,mt 39 38,mg 40 39 true 13,A2 41 39 true (.nilc (.t 40)),A2 42 39 true (.fadr 32 (.t 41)),A2 43 39 true (.load false 1 (.t 42)),A2 44 39 true (.len 0 (.t 43)),A2 45 39 true (.ari .gtr (.t 44) (cI 0)),
  pKf 46 39 45] (.cond (.t 46) (.reg [mt 47 13,nc 48 47,fa 49 33 48,A0 (.store 1 (.t 49) (cI 3))]) .skip)) (.seq (sr [mt 50 13,nc 51 50,fa 52 33 51,lb 53 1 52,aI 54 .neq 53 0] (.cond (.t 54) (.seq (.regd [⟨0,0,la 55 32 12⟩,⟨5,1,sb 32 10 55⟩,⟨1,0,mt 56 13⟩,⟨2,4,nc 57 56⟩,⟨3,12,fa 58 33 57⟩,⟨4,28,lb 59 1 58⟩,⟨6,63,mt 11 59⟩]) .ret) .skip)) (.seq (.regd [⟨4,0,la 64 4 7⟩,⟨5,1,kl 65 60 [(.t 64)]⟩,⟨0,0,mt 60 13⟩,⟨1,4,nc 61 60⟩,⟨2,12,fa 62 0 61⟩,⟨3,28,la 63 32 62⟩,⟨6,63,kl 66 206 [(.t 63),(.t 65)]⟩,⟨7,127,sb 32 10 66⟩,⟨8,255,mI 11 0⟩]) .ret)))))))))
def Atz:LF:=⟨Ats,5,0,67,[.cell 10 true 32,.tmp 11]⟩
def Ar4:LC:=(sr [bX 4 1,
 bX 5 2,A1 6 (.alloc (.st (.cons .slice (.cons (.int .u64) (.cons .bool (.cons (.int .u64) .nil))))))] (.seq (sr [fa 29 2 4,lb 30 1 29] (.cond (.t 30) (sr [la 31 4 4,sb 4 6 31] .ret) .skip)) (.seq (sr [fa 32 1 4,lb 33 1 32,
  aU 34 .geq 33 8192] (.cond (.t 34) (sr [la 35 4 4,kl 36 449 [(.t 35),(cU 18446744073709551614)],sb 4 6 36] .ret) .skip)) (sr [mt 38 0,fa 39 1 4,lb 40 1 39,kl 41 450 [(.t 38),(.t 40)],kl 42 78 [(.t 41)],mt 37 42,ee 43 37 0,ee 44 37 1,ee 45 37 2,mt 7 43,mt 8 44,mt 9 45] (.seq (sr [mt 46 0,nc 47 46,fa 48 33 47,lb 49 1 48,aI 50 .neq 49 0] (.cond (.t 50) (sr [la 51 4 4,sb 4 6 51] .ret) .skip)) (.seq (sr [mt 52 9,A1 53 (.un .not (.t 52))] (.cond (.t 53) (sr [la 54 4 4,kl 55 449 [(.t 54),(cU 18446744073709551614)],sb 4 6 55] .ret) .skip)) (sr [fa 56 0 4,lb 57 1 56,mt 10 57] (.seq (.regd [⟨0,0,mt 58 7⟩,⟨1,1,iJ 59 1 58 0⟩,⟨2,3,lb 60 1 59⟩,⟨3,0,mt 61 10⟩,⟨4,0,mt 62 7⟩,⟨5,16,iJ 63 1 62 2⟩,⟨6,48,lb 64 1 63⟩,⟨7,120,ia 65 1 61 64⟩,⟨8,248,lb 66 1 65⟩,⟨9,0,mt 67 10⟩,⟨10,0,mt 68 7⟩,⟨11,1024,iJ 69 1 68 3⟩,⟨12,3072,lb 70 1 69⟩,⟨13,7680,ia 71 1 67 70⟩,⟨14,15872,lb 72 1 71⟩,⟨15,7,mt 11 60⟩,⟨16,33279,mt 12 66⟩,⟨17,131071,mt 13 72⟩]) (sr [fa 73 1 4,lb 74 1 73,
  aU 75 .add 74 1,mt 14 75] (.seq (.block 0 (sr [mt 170 11,aI 171 .eql 170 0,mt 169 171] (.cond (.t 169) (sr [la 172 4 4,mt 173 12,kl 174 449 [(.t 172),(.t 173)],sb 4 6 174] .ret) (sr [mt 176 11,aI 177 .leq 176 25,mt 175 177] (.cond (.t 175) (.regd [⟨4,0,mt 183 11⟩,⟨5,0,mt 184 12⟩,⟨6,0,mt 185 13⟩,⟨7,0,mt 186 10⟩,⟨8,0,mt 187 7⟩,⟨9,16,iJ 188 1 187 4⟩,⟨10,48,lb 189 1 188⟩,⟨11,120,ia 190 1 186 189⟩,⟨12,248,lb 191 1 190⟩,⟨13,511,kl 192 90 [(.t 183),(.t 184),(.t 185),(.t 191)]⟩,⟨0,0,mt 179 10⟩,⟨1,0,mt 180 7⟩,⟨2,2048,iJ 181 1 180 1⟩,⟨3,6144,lb 182 1 181⟩,⟨14,1023,mt 178 192⟩,⟨15,17407,ee 193 178 0⟩,⟨17,65535,ia 195 1 179 182⟩,⟨18,131071,sb 1 195 193⟩,⟨16,17407,ee 194 178 1⟩]) (sr [mt 197 11,aI 198 .eql 197 26,mt 196 198] (.cond (.t 196) (.reg [mt 199 10,mt 200 7,
  iJ 201 1 200 1,lb 202 1 201,mt 203 8,ia 204 1 199 202,sb 1 204 203]) (sr [mt 206 11,aI 207 .eql 206 27,mt 208 207,mg 209 208 false 11,A2 210 208 false (.ari .eql (.t 209) (cI 28)),
  pKt 211 208 210,mt 205 211] (.cond (.t 205) (.seq (sr [mt 212 12,mt 213 8,ak 214 .add 212 213,
  aU 215 .geq 214 8192] (.cond (.t 215) (sr [la 216 4 4,kl 217 449 [(.t 216),(cU 18446744073709551614)],sb 4 6 217] .ret) .skip)) (sr [mt 218 11,aI 219 .eql 218 27] (.cond (.t 219) (.regd [⟨4,0,mt 224 0⟩,⟨5,0,mt 225 12⟩,⟨6,0,mt 226 8⟩,⟨7,6,ak 227 .add 225 226⟩,⟨8,15,kl 228 450 [(.t 224),(.t 227)]⟩,⟨0,0,mt 220 10⟩,⟨1,0,mt 221 7⟩,⟨2,64,iJ 222 1 221 1⟩,⟨3,192,lb 223 1 222⟩,⟨9,511,ia 229 1 220 223⟩,⟨10,1023,sb 1 229 228⟩]) (.reg [mt 230 0,mt 231 12,mt 232 8,ak 233 .add 231 232,mt 234 13,kl 235 451 [(.t 230),(.t 233),(.t 234),(.c (.bool true))]])))) (sr [mt 237 11,aI 238 .leq 237 33,mt 236 238] (.cond (.t 236) (sr [mt 239 11,aI 240 .eql 239 29,mt 241 240,mg 242 241 false 11,A2 243 241 false (.ari .eql (.t 242) (cI 32)),
  pKt 244 241 243,mt 245 244,mg 246 245 false 11,A2 247 245 false (.ari .eql (.t 246) (cI 33)),
  pKt 248 245 247,mt 249 248,mg 250 249 false 11,A2 251 249 false (.ari .eql (.t 250) (cI 30)),mg 252 249 false 251,mg 253 252 true 12,A2 254 252 true (.ari .eql (.t 253) (cU 0)),A2 255 249 false (.pick (.t 252) (.t 254) (.c (.bool false))),
  pKt 256 249 255,mt 257 256,mg 258 257 false 11,A2 259 257 false (.ari .eql (.t 258) (cI 31)),mg 260 257 false 259,mg 261 260 true 12,A2 262 260 true (.ari .neq (.t 261) (cU 0)),A2 263 257 false (.pick (.t 260) (.t 262) (.c (.bool false))),
  pKt 264 257 263,mt 15 264] (sr [mt 265 8,mt 16 265] (.seq (sr [mt 266 11,aI 267 .eql 266 33] (.cond (.t 267) (.reg [mt 268 12,mt 16 268]) .skip)) (.seq (sr [mt 269 15,mt 270 269,mg 271 270 true 16,A2 272 270 true (.ari .geq (.t 271) (cU 8192)),
  pKf 273 270 272] (.cond (.t 273) (sr [la 274 4 4,kl 275 449 [(.t 274),(cU 18446744073709551614)],sb 4 6 275] .ret) .skip)) (.seq (sr [mt 276 11,aI 277 .eql 276 32] (.cond (.t 277) (.reg [mt 278 10,mt 279 7,
  iJ 280 1 279 1,lb 281 1 280,mt 282 14,ia 283 1 278 281,sb 1 283 282]) .skip)) (sr [mt 284 15] (.cond (.t 284) (.reg [mt 285 16,mt 14 285]) .skip))))))) (sr [mU 17 8,
  mU 18 4] (.seq (sr [mt 76 11,aI 77 .eql 76 35] (.cond (.t 77) (.reg [mU 17 4,
  mU 18 8]) .skip)) (.seq (sr [mt 78 12,mt 79 17,kl 80 243 [(.t 78),(.t 79)],A1 81 (.un .not (.t 80)),mt 82 81,mg 83 82 false 13,mg 84 82 false 18,⟨(some 85),.call 243 [(.t 83),(.t 84)],(some (82,false))⟩,A2 86 82 false (.un .not (.t 85)),
  pKt 87 82 86] (.cond (.t 87) (sr [la 88 4 4,kl 89 449 [(.t 88),(cU 18446744073709551614)],sb 4 6 89] .ret) .skip)) (sr [A1 19 (.mv (.c .nils))] (.seq (sr [mU 20 0] (.block 1 (.loop (.seq (sr [mt 90 20,mt 91 17,
  aV 92 .mul 8 91,ak 93 .lss 90 92]
 (cXx 93 1)) (.seq (.block 2 (sr [mt 96 0,mt 97 12,mt 98 20,
  aU 99 .quo 98 8,ak 100 .add 97 99,kl 101 450 [(.t 96),(.t 100)],mt 21 101] (sr [mI 22 0] (.block 3 (.loop (.seq (sr [mt 102 22,aI 103 .lss 102 8]
 (cXx 103 3)) (.seq (.block 4 (.reg [mt 106 19,mt 107 21,mt 108 22,
  aJ 109 .mul 8 108,
  aJ 110 .sub 56 109,
  cVv 111 .u64 110,ak 112 .shr 107 111,
  cVv 113 .u8 112,A1 114 (.bsl 1 1 (.int .u8) [(.i 1 0,1,(.t 113))]),
  aP 115 1 1 106 114,mt 19 115])) (.reg [mt 104 22,aI 105 .add 104 1,mt 22 105])))))))) (.reg [mt 94 20,
  aU 95 .add 94 8,mt 20 95])))))) (sr [A1 116 (.bsl 1 0 (.int .u8) []),A1 117 (.slarr 64 1 (.t 5) none none),
  aP 118 1 1 116 117,mt 23 118] (.seq (sr [mt 119 11,aI 120 .eql 119 34] (.cond (.t 120) (sr [mt 121 19,kl 122 311 [(.t 121)],
  aB 24 32,sb 32 24 122] (.reg [A1 123 (.bsl 1 0 (.int .u8) []),A1 124 (.slarr 32 1 (.t 24) none none),
  aP 125 1 1 123 124,mt 23 125])) (sr [mt 126 23,kl 127 311 [(.t 126)],
  aB 25 32,sb 32 25 127] (.seq (.regd [⟨0,0,mt 128 0⟩,⟨1,1,nc 129 128⟩,⟨2,3,fa 130 33 129⟩,⟨3,7,lb 131 1 130⟩,⟨4,15,aI 132 .eql 131 0⟩,⟨5,31,mt 133 132⟩,⟨6,63,A2 134 133 true (.slarr 32 1 (.t 25) none none)⟩,⟨7,127,A2 135 133 true (.b2s (.t 134))⟩,⟨8,63,mg 136 133 true 19⟩,⟨9,319,A2 137 133 true (.b2s (.t 136))⟩,⟨10,1023,A2 138 133 true (.eq true false .str (.t 135) (.t 137))⟩,⟨11,2047,pKf 139 133 138⟩]) (.cond (.t 139) (.reg [mt 140 0,nc 141 140,fa 142 33 141,A0 (.store 1 (.t 142) (cI 31))]) .skip))))) (sr [mU 26 0] (.block 5 (.loop (.seq (sr [mt 143 26,mt 144 18,ak 145 .lss 143 144]
 (cXx 145 5)) (.seq (.block 6 (sr [mU 27 0] (.seq (sr [mU 28 0] (.block 7 (.loop (.seq (sr [mt 148 28,
  aU 149 .lss 148 8]
 (cXx 149 7)) (.seq (.block 8 (.reg [mt 152 27,
  aU 153 .mul 152 256,mt 154 23,mt 155 26,
  aV 156 .mul 8 155,mt 157 28,ak 158 .add 156 157,ia 159 1 154 158,lb 160 1 159,
  cVv 161 .u64 160,ak 162 .add 153 161,mt 27 162])) (.reg [mt 150 28,
  aU 151 .add 150 1,mt 28 151])))))) (.reg [mt 163 0,mt 164 13,mt 165 26,ak 166 .add 164 165,mt 167 27,kl 168 451 [(.t 163),(.t 166),(.t 167),(.c (.bool true))]])))) (.reg [mt 146 26,
  aU 147 .add 146 1,mt 26 147])))))))))))))))))))))))) (sr [mt 286 14,fa 287 1 4,sb 1 287 286] (sr [la 288 4 4,sb 4 6 288] .ret))))))))))))
def Ar3:LF:=⟨Ar4,3,0,289,[.cell 6 true 4]⟩
def At2:LC:=(sr [bX 2 0,A1 4 (.alloc (.st (.cons .slice (.cons (.int .u64) (.cons .bool (.cons (.int .u64) .nil))))))] (sr [fa 5 2 2,A0 (.store 1 (.t 5) (.c (.bool true)))] (sr [mt 6 1,fa 7 3 2,sb 1 7 6] (sr [la 8 4 2,sb 4 4 8] .ret))))
def At1:LF:=⟨At2,2,0,9,[.cell 4 true 4]⟩
def At5:LC:=(sr [mU 4 0] (sr [mt 5 0,mt 6 1,kl 7 451 [(.t 5),(.t 6),(cU 0),(.c (.bool false))],mt 4 7] .ret))
def Att:LF:=⟨At5,2,0,8,[.tmp 4]⟩
def At0:LC:=(sr [mU 8 0] (.seq (sr [mt 12 0,nc 13 12,fa 14 33 13,lb 15 1 14,aI 16 .neq 15 0] (.cond (.t 16) (sr [mU 8 0] .ret) .skip)) (.seq (sr [mt 17 0,nc 18 17,fa 19 32 18,lb 20 1 19,
  lN 21 0 20,aI 22 .eql 21 0,mt 23 22,mg 24 23 false 0,A2 25 23 false (.nilc (.t 24)),A2 26 23 false (.fadr 32 (.t 25)),A2 27 23 false (.load false 1 (.t 26)),A2 28 23 false (.isl 2 (.t 27) (cI 0)),A2 29 23 false (.fadr 1 (.t 28)),A2 30 23 false (.load false 1 (.t 29)),A2 31 23 false (.len 0 (.t 30)),A2 32 23 false (.ari .neq (.t 31) (cI 13)),
  pKt 33 23 32] (.cond (.t 33) (sr [mt 34 0,nc 35 34,fa 36 33 35,A0 (.store 1 (.t 36) (cI 3))] (sr [mU 8 0] .ret)) .skip)) (sr [mt 37 0,nc 38 37,fa 39 32 38,lb 40 1 39,
  iJ 41 2 40 0,la 42 2 41,A1 9 (.alloc (.st (.cons (.int .u64) (.cons .slice .nil)))),sb 2 9 42] (sr [mt 43 0,mt 44 0,nc 45 44,fa 46 32 45,lb 47 1 46,A1 48 (.slsl 2 (.t 47) (some (cI 1)) none),nc 49 43,fa 50 32 49,sb 1 50 48] (.seq (.regd [⟨2,0,fa 54 0 9⟩,⟨3,1,lb 55 1 54⟩,⟨4,3,kl 56 66 [(.t 55)]⟩,⟨0,0,mt 52 1⟩,⟨1,8,cVv 53 .i64 52⟩,⟨5,0,fa 57 1 9⟩,⟨6,32,lb 58 1 57⟩,⟨7,127,kl 59 65 [(.t 53),(.t 56),(.t 58)]⟩,⟨8,255,mt 51 59⟩,⟨9,511,ee 60 51 0⟩,⟨11,0,aB 10 32⟩,⟨12,2047,sb 32 10 60⟩,⟨10,511,ee 61 51 1⟩,⟨13,8191,mt 11 61⟩]) (.seq (.seq (.regd [⟨0,0,la 62 32 10⟩,⟨1,0,mt 63 0⟩,⟨2,2,nc 64 63⟩,⟨3,6,fa 65 0 64⟩,⟨4,14,la 66 32 65⟩,⟨5,31,A1 67 (.eq true false (.ar 32 1 false .int) (.t 62) (.t 66))⟩]) (.cond (.t 67) (sr [mt 68 0,nc 69 68,fa 70 33 69,A0 (.store 1 (.t 70) (cI 31))] (sr [mU 8 0] .ret)) .skip)) (.seq (sr [mt 71 3] (.cond (.t 71) (.regd [⟨3,0,mt 76 2⟩,⟨4,1,kl 77 66 [(.t 76)]⟩,⟨1,0,mt 74 1⟩,⟨2,4,cVv 75 .i64 74⟩,⟨5,0,fa 78 1 9⟩,⟨6,16,lb 79 1 78⟩,⟨7,63,kl 80 65 [(.t 75),(.t 77),(.t 79)]⟩,⟨0,0,mt 73 0⟩,⟨8,127,mt 72 80⟩,⟨9,383,ee 81 72 0⟩,⟨11,1023,nc 83 73⟩,⟨12,2047,fa 84 0 83⟩,⟨13,4095,sb 32 84 81⟩,⟨10,383,ee 82 72 1⟩]) .skip)) (sr [fa 85 0 9,lb 86 1 85,mt 8 86] .ret)))))))))
def Atv:LF:=⟨At0,4,0,87,[.tmp 8]⟩
end Mv
