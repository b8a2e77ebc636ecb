/- A part. -/
import Derived.Test.YtpcgkiecjakknaaGreatDoorEX
set_option linter.all false
set_option maxRecDepth 20000
set_option maxHeartbeats 4000000
namespace Mv
open Go
def c54:LC:=(sr [aB 2 32,mn 3] (sr [mt 8 0,kl 9 55 [(.t 8)],mt 7 9,ee 10 7 0,ee 11 7 1,A1 4 (.alloc (.st (.cons (.ar 16 (.int .u64)) (.cons (.int .u64) (.cons .bool (.cons (.int .u64) .nil)))))),sb 19 4 10,mt 5 11] (.seq (sr [mt 12 5,A1 13 (.eq true true (.iface [74]) (.t 12) (.c .nili))] (.cond (.t 13) (sr [A1 14 (.build (.ar 32 (.int .u8)) []),mt 15 5,sb 32 2 14,mt 3 15] .ret) .skip)) (sr [mt 17 0,kl 18 51 [(.t 17)],mt 16 18,ee 19 16 0,ee 20 16 1,
  aB 6 32,sb 32 6 19,mt 5 20] (sr [la 21 32 6,la 22 19 4,kl 23 62 [(.t 21),(.t 22)],mt 24 5,sb 32 2 23,mt 3 24] .ret)))))
def f54:LF:=⟨c54,1,0,25,[.cell 2 true 32,.tmp 3]⟩
def c55:LC:=(sr [A1 2 (.alloc (.st (.cons (.ar 16 (.int .u64)) (.cons (.int .u64) (.cons .bool (.cons (.int .u64) .nil)))))),mn 3] (.seq (sr [mt 4 0,A1 5 (.eq false true .ptr (.t 4) (.c .nilp))] (.cond (.t 5) (sr [A1 6 (.build (.st (.cons (.ar 16 (.int .u64)) (.cons (.int .u64) (.cons .bool (.cons (.int .u64) .nil))))) []),A1 7 (.mkif 74 (cI 1)),sb 19 2 6,mt 3 7] .ret) .skip)) (.seq (.regd [⟨0,0,mt 8 0⟩,⟨1,1,nc 9 8⟩,⟨2,3,fa 10 8192 9⟩,⟨3,7,la 11 16 10⟩,⟨4,0,mt 12 0⟩,⟨5,16,nc 13 12⟩,⟨6,48,fa 14 8208 13⟩,⟨7,112,lb 15 1 14⟩,⟨8,0,mt 16 0⟩,⟨9,256,nc 17 16⟩,⟨10,768,fa 18 8209 17⟩,⟨11,1792,lb 19 1 18⟩,⟨12,0,mt 20 0⟩,⟨13,4096,nc 21 20⟩,⟨14,12288,fa 22 8210 21⟩,⟨15,28672,lb 23 1 22⟩,⟨16,65535,A1 24 (.build (.st (.cons (.ar 16 (.int .u64)) (.cons (.int .u64) (.cons .bool (.cons (.int .u64) .nil))))) [(.f 0,16,(.t 11)),(.f 16,1,(.t 15)),(.f 17,1,(.t 19)),(.f 18,1,(.t 23))])⟩,⟨17,131071,sb 19 2 24⟩,⟨18,262143,mn 3⟩]) .ret)))
def f55:LF:=⟨c55,1,0,25,[.cell 2 true 19,.tmp 3]⟩
def c59:LC:=(sr [bX 1 0,
 aB 2 32] (sr [fa 7 0 1,A1 8 (.slarr 16 1 (.t 7) none none),mt 3 8] (sr [mU 4 0] (.seq (sr [fa 9 17 1,lb 10 1 9] (.cond (.t 10) (.reg [mU 4 1]) .skip)) (.seq (.regd [⟨0,0,mt 11 3⟩,⟨1,1,kl 12 208 [(.t 11)]⟩,⟨2,0,mt 13 3⟩,⟨3,4,A1 14 (.slsl 1 (.t 13) (some (cI 4)) none)⟩,⟨4,15,kl 15 208 [(.t 14)]⟩,⟨5,31,kl 16 207 [(.t 12),(.t 15)]⟩,⟨6,0,mt 17 3⟩,⟨7,64,A1 18 (.slsl 1 (.t 17) (some (cI 8)) none)⟩,⟨8,255,kl 19 208 [(.t 18)]⟩,⟨9,0,mt 20 3⟩,⟨10,512,A1 21 (.slsl 1 (.t 20) (some (cI 12)) none)⟩,⟨11,2047,kl 22 208 [(.t 21)]⟩,⟨12,4095,kl 23 207 [(.t 19),(.t 22)]⟩,⟨13,0,aB 5 32⟩,⟨14,0,aB 6 32⟩,⟨15,32767,sb 32 5 16⟩,⟨16,65535,sb 32 6 23⟩]) (.seq (.regd [⟨0,0,la 24 32 5⟩,⟨1,0,la 25 32 6⟩,⟨2,3,kl 26 207 [(.t 24),(.t 25)]⟩,⟨3,0,fa 27 16 1⟩,⟨4,8,lb 28 1 27⟩,⟨5,0,mt 29 4⟩,⟨6,0,fa 30 18 1⟩,⟨7,64,lb 31 1 30⟩,⟨8,248,A1 32 (.bsl 1 4 (.int .u64) [(.i 1 0,1,(.t 28)),(.i 1 1,1,(.t 29)),(.i 1 2,1,(.t 31)),(.i 1 3,1,(cU 0))])⟩,⟨9,511,kl 33 208 [(.t 32)]⟩,⟨10,1023,kl 34 207 [(.t 26),(.t 33)]⟩,⟨11,2047,sb 32 2 34⟩]) .ret))))))
def f59:LF:=⟨c59,1,0,35,[.cell 2 true 32]⟩
def c62:LC:=(sr [bX 2 0,
 bX 3 1,
 aB 4 32] (.seq (.regd [⟨1,0,la 6 19 3⟩,⟨2,1,kl 7 59 [(.t 6)]⟩,⟨0,0,la 5 32 2⟩,⟨3,7,kl 8 207 [(.t 5),(.t 7)]⟩,⟨4,15,sb 32 4 8⟩]) .ret))
def f62:LF:=⟨c62,2,0,9,[.cell 4 true 32]⟩
def Af0:LC:=(sr [aB 2 32] (sr [aB 3 32] (.seq (sr [mI 5 0] (.block 0 (.loop (sr [aI 6 .lss 5 4] (.seq (Dd 6 0) (.seq (.block 1 (sr [mt 7 5,mt 4 7]
 (.regd [⟨0,0,mt 8 4⟩,⟨1,1,aJ 9 .mul 8 8⟩,⟨2,3,A1 10 (.slarr 32 1 (.t 3) (some (.t 9)) none)⟩,⟨3,0,mt 11 0⟩,⟨4,0,mt 12 4⟩,⟨5,24,ia 13 1 11 12⟩,⟨6,56,lb 14 1 13⟩,⟨7,127,kl 15 312 [(.t 10),(.t 14)]⟩]))) (.reg [aI 16 .add 5 1,mt 5 16]))))))) (sr [la 17 32 3,sb 32 2 17] .ret))))
def Agd:LF:=⟨Af0,1,0,18,[.cell 2 true 32]⟩
variable {M:Seat}
structure OkD (M:Seat):Prop where
 k54:Au M 54 f54=true
 k55:Au M 55 f55=true
 k59:Au M 59 f59=true
 k62:Au M 62 f62=true
 k208:Au M 208 Agd=true
theorem Sh (hc:Au M 312 Uv=true) (n o m:Nat) (ho:o + 8≤n) (hm:8≤m) (hom:o + m≤n) (p:Nat→BitVec 8) (w:BitVec 64) :
 Ag M 312 [.sl 0 [] o m 1,W w] [(0,.ar 1 n fun j=>B (p j))] 1 (Q3 (.tup .fnil) [(0,.ar 1 n fun j=>B (if o≤j∧j < o + 8 then WK w (j - o) else p j))] 1):=by
 have h:=Iw hc n o m (fun j=>((p j).toNat:Int)) (w.toNat:Int) Aa Aa Aa
 have e:(fun j=>V.int .u8 (if o≤j∧j < o + 8 then XZ (w.toNat:Int) (j - o) else ((p j).toNat:Int)))=(fun j=>B (if o≤j∧j < o + 8 then WK w (j - o) else p j)):=by
  funext j
  by_cases hj:o≤j∧j < o + 8
  ·rw [if_pos hj,if_pos hj];exact Tl w (j - o)
  ·rw [if_neg hj,if_neg hj];rfl
 rw [e] at h
 exact h
def Bu (w:Nat→BitVec 64):Dg:=Dg.mk' (JB w)
def w4 (a b c d:BitVec 64) (j:Nat):BitVec 64:=if j=0 then a else if j=1 then b else if j=2 then c else d
theorem BM (ok:OkM M) (okD:OkD M) (n:Nat) (hn:4≤n) (w:Nat→BitVec 64) :
 Ag M 208 [.lst 1 n (fun j=>W (w j))] [] 0 (Q3 (dg (Bu w)) [] 0):=by
 refine Ab okD.k208 rfl fun x hx=>?_
 refine es 2000 ?_;(simp only [Agd,Af0,LZ,seval])
 refine An (σ:=Nat) (fun i=>i≤4) (fun i=>fr 18 [(0,.lst 1 n (fun j=>W (w j))),(2,.ptr 0 []),(3,.ptr 1 []),(5,.int .i64 i)])
  (fun i=>[(0,.ar 1 32 (fun _=>B 0)),(1,.ar 1 32 (fun j=>B (if j < 8 * i then JB w j else 0)))]) (fun _=>2) (fun i=>4 - i) 0 Aa ?_ ?_
 ·refine Ao.fr [0,16] [] hx AQ Am ?_ ?_
  ·simp only [LY,seval]
  ·simp only [LY,seval]
   intro j hj
   rw [if_neg Aa]
 ·intro i hi
  refine es 2000 ?_
  by_cases h4:i=4
  ·subst h4
   (simp only [LZ,seval])
   refine Ar.mk hx [] [] (dg (Bu w)) [] 0 Am (by simp only [CU,seval]) ?_ trivial ⟨rfl,rfl,rfl⟩
   simp only [CU,seval]
   simp only [dg,LY,seval]
   intro j hj
   rw [if_pos Aa,Bu,Dg.at_mk' _ _ hj]
  ·have d0:((i:Int) < 4)=True:=eq_true Aa
   have w1:IntKind.i64.wrap ((i:Int) + 1)=((i + 1:Nat):Int):=AZ
   have w2:IntKind.i64.wrap (8 * (i:Int))=((8 * i:Nat):Int):=AZ
   (simp only [d0,w1,w2,LZ,seval])
   repeat refine sd ?_
   refine Ab2 [1] (Sh ok.k312 32 (8 * i) (32 - 8 * i) Aa Aa Aa (fun j=>if j < 8 * i then JB w j else 0#8) (w i)) ?_
   (simp only [w1,LZ,seval])
   repeat refine sd ?_
   refine ⟨i + 1,by omega,by omega,?_⟩
   refine Ao.fr [0,1] [] hx AQ Am ?_ ?_
   ·simp only [LY,seval]
   ·simp only [LY,seval]
    intro j hj
    by_cases h1:8 * i≤j∧j < 8 * i + 8
    ·rw [if_pos h1,if_pos Aa,JB,show j / 8=i by omega,show j % 8=j - 8 * i by omega]
    ·rw [if_neg h1]
     by_cases h2:j < 8 * i
     ·rw [if_pos h2,if_pos Aa]
     ·rw [if_neg h2,if_neg Aa]
def AM (g:Nat→BitVec 64) (pc:BitVec 64) (hl:Bool) (xt:BitVec 64):V :=
 .st 19 (.fcons 0 (.ar 1 16 (fun j=>W (g j))) (.fcons 16 (W pc) (.fcons 17 (.bool hl) (.fcons 18 (W xt) .fnil))))
def CR:=(Bb @LZ @AM.eq_1)
def E9:=(GM @LV @LZ @List.nil_append.{0} @AM.eq_1 @Zk)
theorem Ft (ok:OkD M) (f g:Nat→BitVec 64) (pc:BitVec 64) (hl:Bool) (xt:BitVec 64) :
 Ag M 55 [.imm (A3 f g pc hl xt)] [] 0 (Q3 (Ah (AM g pc hl xt) .nili) [] 0):=by
 refine Ab ok.k55 rfl fun x hx=>?_
 refine es 2000 ?_;(simp only [f55,c55,Zt,seval])
 have zz:=@AM.eq_1;exact Bf hx [] ⟨rfl,rfl,rfl⟩
def DT (g:Nat→BitVec 64) (pc:BitVec 64) (hl:Bool) (xt:BitVec 64):Dg :=
 Ch (Ch (Ch (Bu g) (Bu fun j=>g (4 + j))) (Ch (Bu fun j=>g (8 + j)) (Bu fun j=>g (12 + j)))) (Bu (w4 pc (if hl then 1 else 0) xt 0))
theorem Gr (ok:OkM M) (okD:OkD M) (g:Nat→BitVec 64) (pc:BitVec 64) (xt:BitVec 64) :
 Ag M 59 [AM g pc false xt] [] 0 (Q3 (dg (DT g pc false xt)) [] 0):=by
 refine Ab okD.k59 rfl fun x hx=>?_
 refine es 2000 ?_;(simp only [f59,c59,CR,seval])
 repeat refine sd ?_
 refine Bq (BM ok okD 16 Aa g) ?_
 (simp only [LZ,seval])
 repeat refine sd ?_
 refine Bq (BM ok okD 12 Aa (fun j=>g (4 + j))) ?_
 (simp only [LZ,seval])
 repeat refine sd ?_
 refine Bq (Bl ok (Bu g) (Bu fun j=>g (4 + j))) ?_
 (simp only [LZ,seval])
 repeat refine sd ?_
 refine Bq (BM ok okD 8 Aa (fun j=>g (8 + j))) ?_
 (simp only [LZ,seval])
 repeat refine sd ?_
 refine Bq (BM ok okD 4 Aa (fun j=>g (12 + j))) ?_
 (simp only [LZ,seval])
 repeat refine sd ?_
 refine Bq (Bl ok (Bu fun j=>g (8 + j)) (Bu fun j=>g (12 + j))) ?_
 (simp only [LZ,seval])
 repeat refine sd ?_
 refine Bq (Bl ok (Ch (Bu g) (Bu fun j=>g (4 + j))) (Ch (Bu fun j=>g (8 + j)) (Bu fun j=>g (12 + j)))) ?_
 (simp only [LZ,seval])
 repeat refine sd ?_
 refine opK (BM ok okD 4 Aa (w4 pc 0#64 xt 0#64)) (by (try simp only [LT,LY,seval]) <;> first | exact q1 | ((intro j hj;unfold w4;(repeat' split);all_goals first | exact (Rc _ _ _ _ _).mpr rfl | omega))) (by simp only [LT,LX]) ?_
 (simp only [LZ,seval])
 repeat refine sd ?_
 refine Bq (Bl ok (Ch (Ch (Bu g) (Bu fun j=>g (4 + j))) (Ch (Bu fun j=>g (8 + j)) (Bu fun j=>g (12 + j)))) (Bu (w4 pc 0#64 xt 0#64))) ?_
 (simp only [LZ,seval])
 repeat refine sd ?_
 have zz:=Bb @DT.eq_1 Lbn;exact Bf hx [] ⟨rfl,rfl,rfl⟩
theorem GX (ok:OkM M) (okD:OkD M) (g:Nat→BitVec 64) (pc:BitVec 64) (xt:BitVec 64) :
 Ag M 59 [AM g pc true xt] [] 0 (Q3 (dg (DT g pc true xt)) [] 0):=by
 refine Ab okD.k59 rfl fun x hx=>?_
 refine es 2000 ?_;(simp only [f59,c59,CR,seval])
 repeat refine sd ?_
 refine Bq (BM ok okD 16 Aa g) ?_
 (simp only [LZ,seval])
 repeat refine sd ?_
 refine Bq (BM ok okD 12 Aa (fun j=>g (4 + j))) ?_
 (simp only [LZ,seval])
 repeat refine sd ?_
 refine Bq (Bl ok (Bu g) (Bu fun j=>g (4 + j))) ?_
 (simp only [LZ,seval])
 repeat refine sd ?_
 refine Bq (BM ok okD 8 Aa (fun j=>g (8 + j))) ?_
 (simp only [LZ,seval])
 repeat refine sd ?_
 refine Bq (BM ok okD 4 Aa (fun j=>g (12 + j))) ?_
 (simp only [LZ,seval])
 repeat refine sd ?_
 refine Bq (Bl ok (Bu fun j=>g (8 + j)) (Bu fun j=>g (12 + j))) ?_
 (simp only [LZ,seval])
 repeat refine sd ?_
 refine Bq (Bl ok (Ch (Bu g) (Bu fun j=>g (4 + j))) (Ch (Bu fun j=>g (8 + j)) (Bu fun j=>g (12 + j)))) ?_
 (simp only [LZ,seval])
 repeat refine sd ?_
 refine opK (BM ok okD 4 Aa (w4 pc 1#64 xt 0#64)) (by (try simp only [LT,LY,seval]) <;> first | exact q1 | ((intro j hj;unfold w4;(repeat' split);all_goals first | exact (Rc _ _ _ _ _).mpr rfl | omega))) (by simp only [LT,LX]) ?_
 (simp only [LZ,seval])
 repeat refine sd ?_
 refine Bq (Bl ok (Ch (Ch (Bu g) (Bu fun j=>g (4 + j))) (Ch (Bu fun j=>g (8 + j)) (Bu fun j=>g (12 + j)))) (Bu (w4 pc 1#64 xt 0#64))) ?_
 (simp only [LZ,seval])
 repeat refine sd ?_
 have zz:=Bb @DT.eq_1 Lbn;exact Bf hx [] ⟨rfl,rfl,rfl⟩
theorem ME (ok:OkM M) (okD:OkD M) (g:Nat→BitVec 64) (pc:BitVec 64) (hl:Bool) (xt:BitVec 64) :
 Ag M 59 [AM g pc hl xt] [] 0 (Q3 (dg (DT g pc hl xt)) [] 0):=by
 cases hl
 ·exact Gr ok okD g pc xt
 ·exact GX ok okD g pc xt
theorem Dj (ok:OkM M) (okD:OkD M) (r:Dg) (g:Nat→BitVec 64) (pc:BitVec 64) (hl:Bool) (xt:BitVec 64) :
 Ag M 62 [dg r,AM g pc hl xt] [] 0 (fun r' H' k'=>r'=dg (Ch r (DT g pc hl xt))∧H'=[]∧k'=0):=by
 refine Ab okD.k62 rfl fun x hx=>?_
 refine es 2000 ?_;(simp only [f62,c62,CR,seval])
 repeat refine sd ?_
 have zz:=@AM.eq_1;refine G0 (ME ok okD g pc hl xt) ?_
 (simp only [LZ,seval])
 repeat refine sd ?_
 refine Bq (Bl ok r (DT g pc hl xt)) ?_
 (simp only [LZ,seval])
 repeat refine sd ?_
 exact Ar.mkZ hx [] ⟨rfl,rfl,rfl⟩
def Ac7 (f g:Nat→BitVec 64) (pc:BitVec 64) (hl:Bool) (xt:BitVec 64):Dg:=Ch (Dp f 13 0) (DT g pc hl xt)
theorem X4 (ok:OkM M) (okD:OkD M) (f g:Nat→BitVec 64) (pc:BitVec 64) (hl:Bool) (xt:BitVec 64) :
 Ag M 54 [.imm (A3 f g pc hl xt)] [] 0 (Q3 (Ah (dg (Ac7 f g pc hl xt)) .nili) [] 0):=by
 refine Ab okD.k54 rfl fun x hx=>?_
 refine es 2000 ?_;(simp only [f54,c54,LZ,seval])
 have zz:=Bb @A3.eq_1 @AM.eq_1;refine Ce (Ft okD f g pc hl xt) ?_
 (simp only [AH,AM,seval])
 have zz:=@A3.eq_1;refine Ce (El ok f g pc hl xt) ?_
 (simp only [AH,seval])
 have zz:=@AM.eq_1;refine Ce (Dj ok okD (Dp f 13 0) g pc hl xt) ?_
 (simp only [LZ,seval])
 have zz:=@Ac7.eq_1;exact Bf hx [] ⟨rfl,rfl,rfl⟩
def c66:LC:=(sr [aB 2 32] (sr [aB 3 32] (.seq (sr [mI 4 0] (.block 0 (.loop (.seq (sr [mt 5 4,aI 6 .lss 5 8]
 (Dd 6 0)) (.seq (.block 1 (.reg [mt 9 4,
  aJ 10 .add 24 9,mt 11 0,mt 12 4,
  aJ 13 .mul 8 12,
  aJ 14 .sub 56 13,
  D0 15 .u64 14,ak 16 .shr 11 15,
  D0 17 .u8 16,ib 18 32 1 3 10,sb 1 18 17])) (.reg [mt 7 4,aI 8 .add 7 1,mt 4 8])))))) (sr [la 19 32 3,sb 32 2 19] .ret))))
def f66:LF:=⟨c66,1,0,20,[.cell 2 true 32]⟩
def Ar9:LC:=(sr [aB 8 32] (sr [mt 12 0,mt 13 1,mt 14 2,mt 15 3,A1 16 (.bsl 1 4 (.int .u64) [(.i 1 0,1,(.t 12)),(.i 1 1,1,(.t 13)),(.i 1 2,1,(.t 14)),(.i 1 3,1,(.t 15))]),mt 9 16] (sr [aB 10 32] (.seq (sr [mI 11 0] (.block 0 (.loop (.seq (sr [mt 17 11,aI 18 .lss 17 32]
 (Dd 18 0)) (.seq (.block 1 (.reg [mt 21 11,mt 22 9,mt 23 11,aI 24 .quo 23 8,ia 25 1 22 24,lb 26 1 25,mt 27 11,aI 28 .rem 27 8,
  aJ 29 .mul 8 28,
  aJ 30 .sub 56 29,
  D0 31 .u64 30,ak 32 .shr 26 31,
  D0 33 .u8 32,ib 34 32 1 10 21,sb 1 34 33])) (.reg [mt 19 11,aI 20 .add 19 1,mt 11 20])))))) (sr [la 35 32 10,sb 32 8 35] .ret)))))
def Arp:LF:=⟨Ar9,4,0,36,[.cell 8 true 32]⟩
def c60:LC:=(sr [bX 1 0,
 aB 2 32] (sr [fa 9 0 1,lb 10 1 9,mt 3 10] (sr [A1 4 (.mv (.c .nils))] (.seq (sr [mI 5 0] (.block 0 (.loop (.seq (sr [mt 11 5,aI 12 .lss 11 16]
 (Dd 12 0)) (.seq (.block 1 (.regd [⟨1,0,mt 16 3⟩,⟨2,0,mt 17 5⟩,⟨3,3,ia 18 1 16 17⟩,⟨4,7,lb 19 1 18⟩,⟨5,0,mt 20 3⟩,⟨6,0,mt 21 5⟩,⟨7,32,aI 22 .add 21 1⟩,⟨8,112,ia 23 1 20 22⟩,⟨9,240,lb 24 1 23⟩,⟨10,0,mt 25 3⟩,⟨11,0,mt 26 5⟩,⟨12,1024,aI 27 .add 26 2⟩,⟨13,3584,ia 28 1 25 27⟩,⟨14,7680,lb 29 1 28⟩,⟨15,0,mt 30 3⟩,⟨16,0,mt 31 5⟩,⟨17,32768,aI 32 .add 31 3⟩,⟨18,114688,ia 33 1 30 32⟩,⟨19,245760,lb 34 1 33⟩,⟨20,524287,kl 35 209 [(.t 19),(.t 24),(.t 29),(.t 34)]⟩,⟨0,0,mt 15 4⟩,⟨21,1048575,A1 36 (.bsl 32 1 (.ar 32 (.int .u8)) [(.i 32 0,32,(.t 35))])⟩,⟨22,4194303,aP 37 32 32 15 36⟩,⟨23,8388607,mt 4 37⟩])) (.reg [mt 13 5,aI 14 .add 13 4,mt 5 14])))))) (sr [mt 39 4,kl 40 56 [(cI 2),(.t 39)],mt 38 40,ee 41 38 0,ee 42 38 1,
  aB 6 32,sb 32 6 41,mt 7 42] (sr [mU 8 0] (.seq (sr [fa 43 2 1,lb 44 1 43] (.cond (.t 44) (.reg [mU 8 1]) .skip)) (.seq (.regd [⟨1,0,fa 46 1 1⟩,⟨2,1,lb 47 1 46⟩,⟨3,0,mt 48 8⟩,⟨4,0,fa 49 3 1⟩,⟨5,8,lb 50 1 49⟩,⟨6,31,kl 51 209 [(.t 47),(.t 48),(.t 50),(cU 0)]⟩,⟨0,0,la 45 32 6⟩,⟨7,127,kl 52 206 [(.t 45),(.t 51)]⟩,⟨8,255,sb 32 2 52⟩]) .ret))))))))
def f60:LF:=⟨c60,1,0,53,[.cell 2 true 32]⟩
def c65:LC:=(sr [bX 4 1,
 aB 6 32,
 mI 7 0] (.seq (sr [mt 9 2,
  lN 10 0 9,aI 11 .gtr 10 16,mt 12 11,mg 13 12 false 0,A2 14 12 false (.ari .lss (.t 13) (cI 0)),
  BV 15 12 14,mt 16 15,mg 17 16 false 0,mg 18 16 false 2,A2 19 16 false (.len 0 (.t 18)),A2 20 16 false (.conv .u64 (.t 19)),A2 21 16 false (.ari .shl (cI 1) (.t 20)),A2 22 16 false (.ari .geq (.t 17) (.t 21)),
  BV 23 16 22] (.cond (.t 23) (sr [A1 24 (.build (.ar 32 (.int .u8)) []),sb 32 6 24,
  mI 7 2] .ret) .skip)) (.seq (sr [mI 8 0] (.block 0 (.loop (.seq (sr [mt 25 8,mt 26 2,
  lN 27 0 26,ak 28 .lss 25 27]
 (Dd 28 0)) (.seq (.block 1 (sr [mt 31 0,mt 32 8,
  D0 33 .u64 32,ak 34 .shr 31 33,aI 35 .rem 34 2,aI 36 .eql 35 0] (.cond (.t 36) (.regd [⟨0,0,la 37 32 4⟩,⟨1,0,mt 38 2⟩,⟨2,0,mt 39 8⟩,⟨3,6,ia 40 32 38 39⟩,⟨4,14,la 41 32 40⟩,⟨5,31,kl 42 206 [(.t 37),(.t 41)]⟩,⟨6,63,sb 32 4 42⟩]) (.regd [⟨0,0,mt 43 2⟩,⟨1,0,mt 44 8⟩,⟨2,3,ia 45 32 43 44⟩,⟨3,7,la 46 32 45⟩,⟨4,0,la 47 32 4⟩,⟨5,31,kl 48 206 [(.t 46),(.t 47)]⟩,⟨6,63,sb 32 4 48⟩])))) (.reg [mt 29 8,aI 30 .add 29 1,mt 8 30])))))) (sr [la 49 32 4,sb 32 6 49,
  mI 7 0] .ret))))
def f65:LF:=⟨c65,3,0,50,[.cell 6 true 32,.tmp 7]⟩
def Aox:LC:=(sr [bX 5 0,
 bX 6 1,
 bX 7 2,
 bX 9 4,
 aB 10 32,
 mI 11 0] (sr [aB 12 32] (.seq (.seq (.regd [⟨1,0,la 15 4 7⟩,⟨2,1,kl 16 60 [(.t 15)]⟩,⟨0,0,la 14 32 6⟩,⟨3,7,kl 17 206 [(.t 14),(.t 16)]⟩,⟨4,0,la 18 32 5⟩,⟨5,31,A1 19 (.eq true false (.ar 32 1 false .int) (.t 17) (.t 18))⟩]) (.cond (.t 19) (sr [la 20 32 12,sb 32 10 20,
  mI 11 31] .ret) .skip)) (sr [la 21 32 6,mt 22 3,A1 23 (.build (.st (.cons (.ar 32 (.int .u8)) (.cons .slice (.cons (.int .i64) .nil)))) [(.f 0,32,(.t 21)),(.f 32,1,(.t 22))]),
  bX 24 23,mt 13 24] (sr [A1 25 (.bsl 1 0 (.int .u64) []),fa 26 0 7,lb 27 1 26,
  aP 28 1 8 25 27,fa 29 0 7,sb 1 29 28] (sr [mt 30 13,la 31 4 7,la 32 64 9,kl 33 349 [(.t 30),(.t 31),(.t 32)],sb 4 7 33] (.seq (sr [mt 34 13,nc 35 34,fa 36 33 35,lb 37 1 36,aI 38 .eql 37 0,mt 39 38,mg 40 39 true 13,A2 41 39 true (.nilc (.t 40)),A2 42 39 true (.fadr 32 (.t 41)),A2 43 39 true (.load false 1 (.t 42)),A2 44 39 true (.len 0 (.t 43)),A2 45 39 true (.ari .gtr (.t 44) (cI 0)),
  Fq 46 39 45] (.cond (.t 46) (.reg [mt 47 13,nc 48 47,fa 49 33 48,A0 (.store 1 (.t 49) (cI 3))]) .skip)) (.seq (sr [mt 50 13,nc 51 50,fa 52 33 51,lb 53 1 52,aI 54 .neq 53 0] (.cond (.t 54) (.seq (.regd [⟨0,0,la 55 32 12⟩,⟨5,1,sb 32 10 55⟩,⟨1,0,mt 56 13⟩,⟨2,4,nc 57 56⟩,⟨3,12,fa 58 33 57⟩,⟨4,28,lb 59 1 58⟩,⟨6,63,mt 11 59⟩]) .ret) .skip)) (.seq (.regd [⟨4,0,la 64 4 7⟩,⟨5,1,kl 65 60 [(.t 64)]⟩,⟨0,0,mt 60 13⟩,⟨1,4,nc 61 60⟩,⟨2,12,fa 62 0 61⟩,⟨3,28,la 63 32 62⟩,⟨6,63,kl 66 206 [(.t 63),(.t 65)]⟩,⟨7,127,sb 32 10 66⟩,⟨8,255,mI 11 0⟩]) .ret)))))))))
def Ao8:LF:=⟨Aox,5,0,67,[.cell 10 true 32,.tmp 11]⟩
def Amu:LC:=(sr [bX 4 1,
 bX 5 2,A1 6 (.alloc (.st (.cons .slice (.cons (.int .u64) (.cons .bool (.cons (.int .u64) .nil))))))] (.seq (sr [fa 29 2 4,lb 30 1 29] (.cond (.t 30) (sr [la 31 4 4,sb 4 6 31] .ret) .skip)) (.seq (sr [fa 32 1 4,lb 33 1 32,
  aU 34 .geq 33 8192] (.cond (.t 34) (sr [la 35 4 4,kl 36 449 [(.t 35),(cU 18446744073709551614)],sb 4 6 36] .ret) .skip)) (sr [mt 38 0,fa 39 1 4,lb 40 1 39,kl 41 450 [(.t 38),(.t 40)],kl 42 78 [(.t 41)],mt 37 42,ee 43 37 0,ee 44 37 1,ee 45 37 2,mt 7 43,mt 8 44,mt 9 45] (.seq (sr [mt 46 0,nc 47 46,fa 48 33 47,lb 49 1 48,aI 50 .neq 49 0] (.cond (.t 50) (sr [la 51 4 4,sb 4 6 51] .ret) .skip)) (.seq (sr [mt 52 9,A1 53 (.un .not (.t 52))] (.cond (.t 53) (sr [la 54 4 4,kl 55 449 [(.t 54),(cU 18446744073709551614)],sb 4 6 55] .ret) .skip)) (sr [fa 56 0 4,lb 57 1 56,mt 10 57] (.seq (.regd [⟨0,0,mt 58 7⟩,⟨1,1,iJ 59 1 58 0⟩,⟨2,3,lb 60 1 59⟩,⟨3,0,mt 61 10⟩,⟨4,0,mt 62 7⟩,⟨5,16,iJ 63 1 62 2⟩,⟨6,48,lb 64 1 63⟩,⟨7,120,ia 65 1 61 64⟩,⟨8,248,lb 66 1 65⟩,⟨9,0,mt 67 10⟩,⟨10,0,mt 68 7⟩,⟨11,1024,iJ 69 1 68 3⟩,⟨12,3072,lb 70 1 69⟩,⟨13,7680,ia 71 1 67 70⟩,⟨14,15872,lb 72 1 71⟩,⟨15,7,mt 11 60⟩,⟨16,33279,mt 12 66⟩,⟨17,131071,mt 13 72⟩]) (sr [fa 73 1 4,lb 74 1 73,
  aU 75 .add 74 1,mt 14 75] (.seq (.block 0 (sr [mt 170 11,aI 171 .eql 170 0,mt 169 171] (.cond (.t 169) (sr [la 172 4 4,mt 173 12,kl 174 449 [(.t 172),(.t 173)],sb 4 6 174] .ret) (sr [mt 176 11,aI 177 .leq 176 25,mt 175 177] (.cond (.t 175) (.regd [⟨4,0,mt 183 11⟩,⟨5,0,mt 184 12⟩,⟨6,0,mt 185 13⟩,⟨7,0,mt 186 10⟩,⟨8,0,mt 187 7⟩,⟨9,16,iJ 188 1 187 4⟩,⟨10,48,lb 189 1 188⟩,⟨11,120,ia 190 1 186 189⟩,⟨12,248,lb 191 1 190⟩,⟨13,511,kl 192 90 [(.t 183),(.t 184),(.t 185),(.t 191)]⟩,⟨0,0,mt 179 10⟩,⟨1,0,mt 180 7⟩,⟨2,2048,iJ 181 1 180 1⟩,⟨3,6144,lb 182 1 181⟩,⟨14,1023,mt 178 192⟩,⟨15,17407,ee 193 178 0⟩,⟨17,65535,ia 195 1 179 182⟩,⟨18,131071,sb 1 195 193⟩,⟨16,17407,ee 194 178 1⟩]) (sr [mt 197 11,aI 198 .eql 197 26,mt 196 198] (.cond (.t 196) (.reg [mt 199 10,mt 200 7,
  iJ 201 1 200 1,lb 202 1 201,mt 203 8,ia 204 1 199 202,sb 1 204 203]) (sr [mt 206 11,aI 207 .eql 206 27,mt 208 207,mg 209 208 false 11,A2 210 208 false (.ari .eql (.t 209) (cI 28)),
  BV 211 208 210,mt 205 211] (.cond (.t 205) (.seq (sr [mt 212 12,mt 213 8,ak 214 .add 212 213,
  aU 215 .geq 214 8192] (.cond (.t 215) (sr [la 216 4 4,kl 217 449 [(.t 216),(cU 18446744073709551614)],sb 4 6 217] .ret) .skip)) (sr [mt 218 11,aI 219 .eql 218 27] (.cond (.t 219) (.regd [⟨4,0,mt 224 0⟩,⟨5,0,mt 225 12⟩,⟨6,0,mt 226 8⟩,⟨7,6,ak 227 .add 225 226⟩,⟨8,15,kl 228 450 [(.t 224),(.t 227)]⟩,⟨0,0,mt 220 10⟩,⟨1,0,mt 221 7⟩,⟨2,64,iJ 222 1 221 1⟩,⟨3,192,lb 223 1 222⟩,⟨9,511,ia 229 1 220 223⟩,⟨10,1023,sb 1 229 228⟩]) (.reg [mt 230 0,mt 231 12,mt 232 8,ak 233 .add 231 232,mt 234 13,kl 235 451 [(.t 230),(.t 233),(.t 234),(.c (.bool true))]])))) (sr [mt 237 11,aI 238 .leq 237 33,mt 236 238] (.cond (.t 236) (sr [mt 239 11,aI 240 .eql 239 29,mt 241 240,mg 242 241 false 11,A2 243 241 false (.ari .eql (.t 242) (cI 32)),
  BV 244 241 243,mt 245 244,mg 246 245 false 11,A2 247 245 false (.ari .eql (.t 246) (cI 33)),
  BV 248 245 247,mt 249 248,mg 250 249 false 11,A2 251 249 false (.ari .eql (.t 250) (cI 30)),mg 252 249 false 251,mg 253 252 true 12,A2 254 252 true (.ari .eql (.t 253) (cU 0)),A2 255 249 false (.pick (.t 252) (.t 254) (.c (.bool false))),
  BV 256 249 255,mt 257 256,mg 258 257 false 11,A2 259 257 false (.ari .eql (.t 258) (cI 31)),mg 260 257 false 259,mg 261 260 true 12,A2 262 260 true (.ari .neq (.t 261) (cU 0)),A2 263 257 false (.pick (.t 260) (.t 262) (.c (.bool false))),
  BV 264 257 263,mt 15 264] (sr [mt 265 8,mt 16 265] (.seq (sr [mt 266 11,aI 267 .eql 266 33] (.cond (.t 267) (.reg [mt 268 12,mt 16 268]) .skip)) (.seq (sr [mt 269 15,mt 270 269,mg 271 270 true 16,A2 272 270 true (.ari .geq (.t 271) (cU 8192)),
  Fq 273 270 272] (.cond (.t 273) (sr [la 274 4 4,kl 275 449 [(.t 274),(cU 18446744073709551614)],sb 4 6 275] .ret) .skip)) (.seq (sr [mt 276 11,aI 277 .eql 276 32] (.cond (.t 277) (.reg [mt 278 10,mt 279 7,
  iJ 280 1 279 1,lb 281 1 280,mt 282 14,ia 283 1 278 281,sb 1 283 282]) .skip)) (sr [mt 284 15] (.cond (.t 284) (.reg [mt 285 16,mt 14 285]) .skip))))))) (sr [mU 17 8,
  mU 18 4] (.seq (sr [mt 76 11,aI 77 .eql 76 35] (.cond (.t 77) (.reg [mU 17 4,
  mU 18 8]) .skip)) (.seq (sr [mt 78 12,mt 79 17,kl 80 243 [(.t 78),(.t 79)],A1 81 (.un .not (.t 80)),mt 82 81,mg 83 82 false 13,mg 84 82 false 18,⟨(some 85),.call 243 [(.t 83),(.t 84)],(some (82,false))⟩,A2 86 82 false (.un .not (.t 85)),
  BV 87 82 86] (.cond (.t 87) (sr [la 88 4 4,kl 89 449 [(.t 88),(cU 18446744073709551614)],sb 4 6 89] .ret) .skip)) (sr [A1 19 (.mv (.c .nils))] (.seq (sr [mU 20 0] (.block 1 (.loop (.seq (sr [mt 90 20,mt 91 17,
  aV 92 .mul 8 91,ak 93 .lss 90 92]
 (Dd 93 1)) (.seq (.block 2 (sr [mt 96 0,mt 97 12,mt 98 20,
  aU 99 .quo 98 8,ak 100 .add 97 99,kl 101 450 [(.t 96),(.t 100)],mt 21 101] (sr [mI 22 0] (.block 3 (.loop (.seq (sr [mt 102 22,aI 103 .lss 102 8]
 (Dd 103 3)) (.seq (.block 4 (.reg [mt 106 19,mt 107 21,mt 108 22,
  aJ 109 .mul 8 108,
  aJ 110 .sub 56 109,
  D0 111 .u64 110,ak 112 .shr 107 111,
  D0 113 .u8 112,A1 114 (.bsl 1 1 (.int .u8) [(.i 1 0,1,(.t 113))]),
  aP 115 1 1 106 114,mt 19 115])) (.reg [mt 104 22,aI 105 .add 104 1,mt 22 105])))))))) (.reg [mt 94 20,
  aU 95 .add 94 8,mt 20 95])))))) (sr [A1 116 (.bsl 1 0 (.int .u8) []),A1 117 (.slarr 64 1 (.t 5) none none),
  aP 118 1 1 116 117,mt 23 118] (.seq (sr [mt 119 11,aI 120 .eql 119 34] (.cond (.t 120) (sr [mt 121 19,kl 122 311 [(.t 121)],
  aB 24 32,sb 32 24 122] (.reg [A1 123 (.bsl 1 0 (.int .u8) []),A1 124 (.slarr 32 1 (.t 24) none none),
  aP 125 1 1 123 124,mt 23 125])) (sr [mt 126 23,kl 127 311 [(.t 126)],
  aB 25 32,sb 32 25 127] (.seq (.regd [⟨0,0,mt 128 0⟩,⟨1,1,nc 129 128⟩,⟨2,3,fa 130 33 129⟩,⟨3,7,lb 131 1 130⟩,⟨4,15,aI 132 .eql 131 0⟩,⟨5,31,mt 133 132⟩,⟨6,63,A2 134 133 true (.slarr 32 1 (.t 25) none none)⟩,⟨7,127,A2 135 133 true (.b2s (.t 134))⟩,⟨8,63,mg 136 133 true 19⟩,⟨9,319,A2 137 133 true (.b2s (.t 136))⟩,⟨10,1023,A2 138 133 true (.eq true false .str (.t 135) (.t 137))⟩,⟨11,2047,Fq 139 133 138⟩]) (.cond (.t 139) (.reg [mt 140 0,nc 141 140,fa 142 33 141,A0 (.store 1 (.t 142) (cI 31))]) .skip))))) (sr [mU 26 0] (.block 5 (.loop (.seq (sr [mt 143 26,mt 144 18,ak 145 .lss 143 144]
 (Dd 145 5)) (.seq (.block 6 (sr [mU 27 0] (.seq (sr [mU 28 0] (.block 7 (.loop (.seq (sr [mt 148 28,
  aU 149 .lss 148 8]
 (Dd 149 7)) (.seq (.block 8 (.reg [mt 152 27,
  aU 153 .mul 152 256,mt 154 23,mt 155 26,
  aV 156 .mul 8 155,mt 157 28,ak 158 .add 156 157,ia 159 1 154 158,lb 160 1 159,
  D0 161 .u64 160,ak 162 .add 153 161,mt 27 162])) (.reg [mt 150 28,
  aU 151 .add 150 1,mt 28 151])))))) (.reg [mt 163 0,mt 164 13,mt 165 26,ak 166 .add 164 165,mt 167 27,kl 168 451 [(.t 163),(.t 166),(.t 167),(.c (.bool true))]])))) (.reg [mt 146 26,
  aU 147 .add 146 1,mt 26 147])))))))))))))))))))))))) (sr [mt 286 14,fa 287 1 4,sb 1 287 286] (sr [la 288 4 4,sb 4 6 288] .ret))))))))))))
def Am4:LF:=⟨Amu,3,0,289,[.cell 6 true 4]⟩
def Asv:LC:=(sr [bX 2 0,A1 4 (.alloc (.st (.cons .slice (.cons (.int .u64) (.cons .bool (.cons (.int .u64) .nil))))))] (sr [fa 5 2 2,A0 (.store 1 (.t 5) (.c (.bool true)))] (sr [mt 6 1,fa 7 3 2,sb 1 7 6] (sr [la 8 4 2,sb 4 4 8] .ret))))
def Ar6:LF:=⟨Asv,2,0,9,[.cell 4 true 4]⟩
def Aq3:LC:=(sr [mU 4 0] (sr [mt 5 0,mt 6 1,kl 7 451 [(.t 5),(.t 6),(cU 0),(.c (.bool false))],mt 4 7] .ret))
def Aq5:LF:=⟨Aq3,2,0,8,[.tmp 4]⟩
def Aqj:LC:=(sr [mU 8 0] (.seq (sr [mt 12 0,nc 13 12,fa 14 33 13,lb 15 1 14,aI 16 .neq 15 0] (.cond (.t 16) (sr [mU 8 0] .ret) .skip)) (.seq (sr [mt 17 0,nc 18 17,fa 19 32 18,lb 20 1 19,
  lN 21 0 20,aI 22 .eql 21 0,mt 23 22,mg 24 23 false 0,A2 25 23 false (.nilc (.t 24)),A2 26 23 false (.fadr 32 (.t 25)),A2 27 23 false (.load false 1 (.t 26)),A2 28 23 false (.isl 2 (.t 27) (cI 0)),A2 29 23 false (.fadr 1 (.t 28)),A2 30 23 false (.load false 1 (.t 29)),A2 31 23 false (.len 0 (.t 30)),A2 32 23 false (.ari .neq (.t 31) (cI 13)),
  BV 33 23 32] (.cond (.t 33) (sr [mt 34 0,nc 35 34,fa 36 33 35,A0 (.store 1 (.t 36) (cI 3))] (sr [mU 8 0] .ret)) .skip)) (sr [mt 37 0,nc 38 37,fa 39 32 38,lb 40 1 39,
  iJ 41 2 40 0,la 42 2 41,A1 9 (.alloc (.st (.cons (.int .u64) (.cons .slice .nil)))),sb 2 9 42] (sr [mt 43 0,mt 44 0,nc 45 44,fa 46 32 45,lb 47 1 46,A1 48 (.slsl 2 (.t 47) (some (cI 1)) none),nc 49 43,fa 50 32 49,sb 1 50 48] (.seq (.regd [⟨2,0,fa 54 0 9⟩,⟨3,1,lb 55 1 54⟩,⟨4,3,kl 56 66 [(.t 55)]⟩,⟨0,0,mt 52 1⟩,⟨1,8,D0 53 .i64 52⟩,⟨5,0,fa 57 1 9⟩,⟨6,32,lb 58 1 57⟩,⟨7,127,kl 59 65 [(.t 53),(.t 56),(.t 58)]⟩,⟨8,255,mt 51 59⟩,⟨9,511,ee 60 51 0⟩,⟨11,0,aB 10 32⟩,⟨12,2047,sb 32 10 60⟩,⟨10,511,ee 61 51 1⟩,⟨13,8191,mt 11 61⟩]) (.seq (.seq (.regd [⟨0,0,la 62 32 10⟩,⟨1,0,mt 63 0⟩,⟨2,2,nc 64 63⟩,⟨3,6,fa 65 0 64⟩,⟨4,14,la 66 32 65⟩,⟨5,31,A1 67 (.eq true false (.ar 32 1 false .int) (.t 62) (.t 66))⟩]) (.cond (.t 67) (sr [mt 68 0,nc 69 68,fa 70 33 69,A0 (.store 1 (.t 70) (cI 31))] (sr [mU 8 0] .ret)) .skip)) (.seq (sr [mt 71 3] (.cond (.t 71) (.regd [⟨3,0,mt 76 2⟩,⟨4,1,kl 77 66 [(.t 76)]⟩,⟨1,0,mt 74 1⟩,⟨2,4,D0 75 .i64 74⟩,⟨5,0,fa 78 1 9⟩,⟨6,16,lb 79 1 78⟩,⟨7,63,kl 80 65 [(.t 75),(.t 77),(.t 79)]⟩,⟨0,0,mt 73 0⟩,⟨8,127,mt 72 80⟩,⟨9,383,ee 81 72 0⟩,⟨11,1023,nc 83 73⟩,⟨12,2047,fa 84 0 83⟩,⟨13,4095,sb 32 84 81⟩,⟨10,383,ee 82 72 1⟩]) .skip)) (sr [fa 85 0 9,lb 86 1 85,mt 8 86] .ret)))))))))
def Ap9:LF:=⟨Aqj,4,0,87,[.tmp 8]⟩
def c56:LC:=(sr [aB 4 32,
 mI 5 0] (sr [mt 7 0,mt 8 1,
  lN 9 0 8,kl 10 203 [(.t 7),(.t 9)],mt 6 10] (.seq (sr [mt 11 6,aI 12 .neq 11 0] (.cond (.t 12) (sr [A1 13 (.build (.ar 32 (.int .u8)) []),mt 14 6,sb 32 4 13,mt 5 14] .ret) .skip)) (sr [mt 15 1,mt 16 0,kl 17 205 [],kl 18 204 [(.t 15),(cI 0),(.t 16),(.t 17)],sb 32 4 18,
  mI 5 0] .ret))))
def f56:LF:=⟨c56,2,0,19,[.cell 4 true 32,.tmp 5]⟩
def Asj:LC:=(sr [mI 4 0] (.seq (sr [mt 5 0,aI 6 .lss 5 0,mt 7 6,mg 8 7 false 0,A2 9 7 false (.ari .gtr (.t 8) (cI 16)),
  BV 10 7 9] (.cond (.t 10) (sr [mI 4 2] .ret) .skip)) (.seq (sr [mt 11 1,mt 12 0,
  D0 13 .u64 12,
  aJ 14 .shl 1 13,ak 15 .gtr 11 14] (.cond (.t 15) (sr [mI 4 5] .ret) .skip)) (sr [mI 4 0] .ret))))
def Ash:LF:=⟨Asj,2,0,16,[.tmp 4]⟩
def Aot:LC:=(sr [aB 8 32] (.seq (sr [mt 9 1,mt 10 0,
  lN 11 0 10,ak 12 .geq 9 11] (.cond (.t 12) (sr [mt 13 3,mt 14 2,ia 15 32 13 14,la 16 32 15,sb 32 8 16] .ret) .skip)) (.seq (sr [mt 17 2,aI 18 .eql 17 0] (.cond (.t 18) (sr [mt 19 0,mt 20 1,ia 21 32 19 20,la 22 32 21,sb 32 8 22] .ret) .skip)) (sr [mt 23 0,mt 24 1,mt 25 2,aI 26 .sub 25 1,mt 27 3,kl 28 204 [(.t 23),(.t 24),(.t 26),(.t 27)],mt 29 0,mt 30 1,mt 31 2,aI 32 .sub 31 1,
  D0 33 .u64 32,
  aJ 34 .shl 1 33,ak 35 .add 30 34,mt 36 2,aI 37 .sub 36 1,mt 38 3,kl 39 204 [(.t 29),(.t 35),(.t 37),(.t 38)],kl 40 206 [(.t 28),(.t 39)],sb 32 8 40] .ret))))
def Aos:LF:=⟨Aot,4,0,41,[.cell 8 true 32]⟩
end Mv
