/- A part. -/
import Derived.Test.YtlfkjfonpacelaaGreatDoorHU
set_option linter.all false
set_option maxRecDepth 20000
set_option maxHeartbeats 8000000
namespace Mv
open Go
variable {M:Seat}
theorem Lb (ok:OkHv M) (k123:Ar M 123 KL=true) (t t':Tr) (d:Nat) (cm:BitVec 64→Dg) (G:Gs) (hD:G.D=d) (hn:G.n=1)
 (hS:Ae M 254 [.ptr 6 [],.ptr 0 []] (t.H d cm ++ G.T) 10 (Q3 (Ag (.ptr 10 []) .nili) (t'.H d cm ++ G.T ++ DQ true G) 13)) :
 Ae M 123 [.ptr 6 [],.ptr 0 [],.int .i64 0] (t.H d cm ++ G.T) 10 (Q3 (Ag (.bool true) .nili) (t'.H d cm ++ G.T) 10):=by
 have hC0:=B5 ok.g G.D G.l G.g G.s G.n G.c 0 Aa
 rw [hD,hn] at hC0
 simp only [Tr.H,Tr.Hp,Gs.T,DQ,hD,hn,AB,AH,Ah,AJ,Cl.v,AA,Be,AU,Av,Aw,E4,CH] at hS hC0 ⊢
 refine Ab k123 rfl fun x hx=>?_
 refine es 2000 ?_;(simp only [KL,WJ,LZ,seval])
 have zz:=GE @Ak @A8 @AD @Cn @dg.eq_1;refine Co [0,1,2,3,4,5,6,7,8,9] [0,1,2,3,4,5,6,7,8,9] (hS) ?_
 (simp only [Cj,A5,Bb,Bi,AC,seval])
 have zz:=@dg.eq_1;refine Co [6,7,8] [6,7] (hC0) ?_
 (simp only [Cj,AC,seval])
 repeat refine sd ?_
 refine Aq.mk hx [0,1,2,3,4,5,6,7,8,9] [] (Ag (.bool true) .nili) (t'.H d cm ++ G.T) 10 Am (by (simp only [Db,seval])) (by simp only [LV,BU,seval,LY]) ?_ ⟨rfl,by simp only [Tr.H,Tr.Hp,Gs.T,DQ,hD,hn,AB,AH,Ah,AJ,Cl.v,AA,Be,AU,Av,Aw,E4,CH],rfl⟩
 simp only [Tr.H,Tr.Hp,Gs.T,DQ,hD,hn,AB,AH,Ah,AJ,Cl.v,AA,Be,AU,Av,Aw,E4,CH,Ak,A8,AD,CB,dg,seval]
theorem KW (ok:OkHv M) (k123:Ar M 123 KL=true) (t t':Tr) (d:Nat) (cm:BitVec 64→Dg) (G:Gs) (hD:G.D=d) (hn:G.n=1)
 (hS:Ae M 254 [.ptr 6 [],.ptr 0 []] (t.H d cm ++ G.T) 10 (Q3 (Ag (.ptr 10 []) .nili) (t'.H d cm ++ G.T ++ DQ false G) 13)) :
 Ae M 123 [.ptr 6 [],.ptr 0 [],.int .i64 0] (t.H d cm ++ G.T) 10 (Q3 (Ag (.bool false) .nili) (t'.H d cm ++ G.T) 10):=by
 have hC0:=B5 ok.g G.D G.l G.g G.s G.n G.c 0 Aa
 rw [hD,hn] at hC0
 simp only [Tr.H,Tr.Hp,Gs.T,DQ,hD,hn,AB,AH,Ah,AJ,Cl.v,AA,Be,AU,Av,Aw,E4,CH] at hS hC0 ⊢
 refine Ab k123 rfl fun x hx=>?_
 refine es 2000 ?_;(simp only [KL,WJ,LZ,seval])
 have zz:=GE @Ak @A8 @AD @Cn @dg.eq_1;refine Co [0,1,2,3,4,5,6,7,8,9] [0,1,2,3,4,5,6,7,8,9] (hS) ?_
 (simp only [Cj,A5,Bb,Bi,AC,seval])
 have zz:=@dg.eq_1;refine Co [6,7,8] [6,7] (hC0) ?_
 (simp only [Cj,AC,seval])
 repeat refine sd ?_
 refine Aq.mk hx [0,1,2,3,4,5,6,7,8,9] [] (Ag (.bool false) .nili) (t'.H d cm ++ G.T) 10 Am (by (simp only [Db,seval])) (by simp only [LV,BU,seval,LY]) ?_ ⟨rfl,by simp only [Tr.H,Tr.Hp,Gs.T,DQ,hD,hn,AB,AH,Ah,AJ,Cl.v,AA,Be,AU,Av,Aw,E4,CH],rfl⟩
 simp only [Tr.H,Tr.Hp,Gs.T,DQ,hD,hn,AB,AH,Ah,AJ,Cl.v,AA,Be,AU,Av,Aw,E4,CH,Ak,A8,AD,CB,dg,seval]
theorem KP (ok:OkHv M) (k123:Ar M 123 KL=true) (t t':Tr) (d:Nat) (cm:BitVec 64→Dg) (G:Gs) (hD:G.D=d) (hn:G.n=1)
 (hS:Ae M 254 [.ptr 6 [],.ptr 0 []] (t.H d cm ++ G.T) 10 (Q3 (Ag (.ptr 10 []) .nili) (t'.Hp d cm 13 ++ G.T ++ DQ true G) 14)) :
 Ae M 123 [.ptr 6 [],.ptr 0 [],.int .i64 0] (t.H d cm ++ G.T) 10 (Q3 (Ag (.bool true) .nili) (t'.Hp d cm 10 ++ G.T) 11):=by
 have hC0:=B5 ok.g G.D G.l G.g G.s G.n G.c 0 Aa
 rw [hD,hn] at hC0
 simp only [Tr.H,Tr.Hp,Gs.T,DQ,hD,hn,AB,AH,Ah,AJ,Cl.v,AA,Be,AU,Av,Aw,E4,CH] at hS hC0 ⊢
 refine Ab k123 rfl fun x hx=>?_
 refine es 2000 ?_;(simp only [KL,WJ,LZ,seval])
 have zz:=GE @Ak @A8 @AD @Cn @dg.eq_1;refine Co [0,1,2,3,4,5,6,7,8,9] [0,1,2,3,4,5,6,7,8,9] (hS) ?_
 (simp only [Cj,A5,Bb,Bi,AC,seval])
 have zz:=@dg.eq_1;refine Co [6,7,8] [6,7] (hC0) ?_
 (simp only [Cj,AC,seval])
 repeat refine sd ?_
 refine Aq.mk hx [0,1,2,3,4,5,6,7,8,9,77] [] (Ag (.bool true) .nili) (t'.Hp d cm 10 ++ G.T) 11 Am (by (simp only [Db,seval])) (by simp only [LV,BU,seval,LY]) ?_ ⟨rfl,by simp only [Tr.H,Tr.Hp,Gs.T,DQ,hD,hn,AB,AH,Ah,AJ,Cl.v,AA,Be,AU,Av,Aw,E4,CH],rfl⟩
 simp only [Tr.H,Tr.Hp,Gs.T,DQ,hD,hn,AB,AH,Ah,AJ,Cl.v,AA,Be,AU,Av,Aw,E4,CH,Ak,A8,AD,CB,dg,seval]
theorem Li (ok:OkHv M) (k123:Ar M 123 KL=true) (t t':Tr) (d:Nat) (cm:BitVec 64→Dg) (G:Gs) (hD:G.D=d) (hn:G.n=1)
 (hS:Ae M 254 [.ptr 6 [],.ptr 0 []] (t.H d cm ++ G.T) 10 (Q3 (Ag (.ptr 10 []) .nili) (t'.Hp d cm 13 ++ G.T ++ DQ false G) 14)) :
 Ae M 123 [.ptr 6 [],.ptr 0 [],.int .i64 0] (t.H d cm ++ G.T) 10 (Q3 (Ag (.bool false) .nili) (t'.Hp d cm 10 ++ G.T) 11):=by
 have hC0:=B5 ok.g G.D G.l G.g G.s G.n G.c 0 Aa
 rw [hD,hn] at hC0
 simp only [Tr.H,Tr.Hp,Gs.T,DQ,hD,hn,AB,AH,Ah,AJ,Cl.v,AA,Be,AU,Av,Aw,E4,CH] at hS hC0 ⊢
 refine Ab k123 rfl fun x hx=>?_
 refine es 2000 ?_;(simp only [KL,WJ,LZ,seval])
 have zz:=GE @Ak @A8 @AD @Cn @dg.eq_1;refine Co [0,1,2,3,4,5,6,7,8,9] [0,1,2,3,4,5,6,7,8,9] (hS) ?_
 (simp only [Cj,A5,Bb,Bi,AC,seval])
 have zz:=@dg.eq_1;refine Co [6,7,8] [6,7] (hC0) ?_
 (simp only [Cj,AC,seval])
 repeat refine sd ?_
 refine Aq.mk hx [0,1,2,3,4,5,6,7,8,9,77] [] (Ag (.bool false) .nili) (t'.Hp d cm 10 ++ G.T) 11 Am (by (simp only [Db,seval])) (by simp only [LV,BU,seval,LY]) ?_ ⟨rfl,by simp only [Tr.H,Tr.Hp,Gs.T,DQ,hD,hn,AB,AH,Ah,AJ,Cl.v,AA,Be,AU,Av,Aw,E4,CH],rfl⟩
 simp only [Tr.H,Tr.Hp,Gs.T,DQ,hD,hn,AB,AH,Ah,AJ,Cl.v,AA,Be,AU,Av,Aw,E4,CH,Ak,A8,AD,CB,dg,seval]
structure OkHj (M:Seat):Prop where
 i:OkHi M
 k255:Ar M 255 WA=true
 k257:Ar M 257 f257=true
 k359:Ar M 359 IV=true
def Xa (g t c r n:Nat) (own:Int):V:=.st 5 (.fcons 0 (.ptr g []) (.fcons 1 (.ptr t []) (.fcons 2 (.sl c [] 0 n 42) (.fcons 3 (.sl r [] 0 n 1) (.fcons 4 (.int .i64 own) .fnil)))))
def N1 (c:Int) (st df:Bool) (v:Dg) (p:V):V:=.st 151 (.fcons 0 (.int .i64 c) (.fcons 1 (.bool st) (.fcons 2 (.bool df) (.fcons 3 (dg v) (.fcons 35 p .fnil)))))
theorem ML {M:Seat} (ok:OkHj M) (n:Nat) (hn:0 < n) (own:Int) (c:Nat→Cl) (rt:Nat→Bool) (hp:(c 0).par = -1) (hr:rt 0=true) :
 Ae M 255 [.ptr 0 [],.int .i64 0] [(0,Xa 1 2 3 4 n own),(3,AJ n c),(4,.ar 1 n fun j=>.bool (rt j))] 5 (Q3 (.bool true) [(0,Xa 1 2 3 4 n own),(3,AJ n c),(4,.ar 1 n fun j=>.bool (rt j))] 5):=by
 have d0:((0:Int) < (n:Int))=True:=eq_true Aa
 have d1:(0 < n)=True:=eq_true hn
 have d2:((n:Int)≤0)=False:=eq_false Aa
 refine Ab ok.k255 rfl fun x hx=>?_
 refine es 2000 ?_;(simp only [WA,Aip,Xa,AJ,Cl.v,Ah,LZ,seval])
 refine Aj ?_
 refine es 2000 ?_
 (simp only [Xa,AJ,Cl.v,Ah,d0,d1,d2,hp,hr,LZ,seval])
 repeat refine sd ?_
 have zz:=@dg.eq_1;exact Bu hx [0,1,2,3,4] ⟨rfl,rfl,rfl⟩
theorem PK {M:Seat} (ok:OkHj M) (pres:List (Dg × Pr)) (l:List (Nat→BitVec 64)) (n:Nat) (own cl:Int) (c:Cl) (hst:c.st=false) (hpos:c.pos=2#64) :
 Ae M 257 [.ptr 13 [],.ptr 17 [],c.v] (hB pres l ++ [(13,Xa 14 0 15 16 n own),(17,N1 cl true false Dg.zero Qk)]) 18 (Q3 (Ag (.bool true) .nili) (hB pres l ++ [(13,Xa 14 0 15 16 n own),(17,N1 cl true false Dg.zero (UM (BV B0.f 13 0) B0.h [Cg B0.f 0#64] Pr.zero))]) 18):=by
 have hT:=Cd ok.i.v.g.t.s.v.g.p ok.k359 (D:=1) (k:=1) (i:=0) Am Am Am
 rw [show pw 1 0=2#64 by decide,show BitVec.ofNat 64 (LI 1 1 0)=0#64 by decide] at hT
 have hP:=MG ok.i.v pres l
 unfold hB at *
 generalize BO.com=C1 at *
 generalize BV B0.f 13 0=R0 at *
 generalize [Cg B0.f 0#64]=L0 at *
 simp only [Mc.v,Mc.h,B0,BO,mach,UM,Hd.v,By,Av,B2,CN] at hP ⊢
 refine Ab ok.k257 rfl fun x hx=>?_
 refine es 2000 ?_;(simp only [f257,Amb,Cl.v,Ah,hst,hpos,Xa,N1,Qk,Av,B2,CN,Mc.v,B0,BO,C7,CH,seval])
 refine Bh (hT) ?_
 (simp only [BU,Xa,N1,Qk,Av,B2,CN,seval])
 refine Ji [0,1,2,3,4,5,6,7,8,9,10,11,12] [0,1,2,3,4,5,6,7,8,10,11,12] (hP) (by constructor <;> (try simp only [KG,Ak,Ez,seval]) <;> first | exact q1 | (intro j hj;rcases (show j=0 ∨ j=1 by omega) with rfl | rfl <;> simp only [Nat.one_ne_zero,C8,LY,seval])) ?_
 (simp only [Lbj,Bw,A5,A3,KG,Xa,N1,Qk,Av,B2,CN,seval])
 refine Aq.mk hx [0,1,2,3,4,5,6,7,8,9,10,11,12,13,14,15,16,17] [] (Ag (.bool true) .nili) _ 18 Am (by (simp only [Db,seval])) (by simp only [LV,BU,seval,LY]) ?_ ⟨rfl,rfl,rfl⟩
 simp only [KG,Ez,Bw,Ak,Em,Xa,N1,Av,B2,CN,seval]
 intro j hj
 rcases (show j=0 ∨ j=1 by omega) with rfl | rfl <;> simp only [Nat.one_ne_zero,C8,LN,LP,V.ren,AM,A4,BL,BQ,seval,LY]
structure OkEo (M:Seat):Prop where
 v:OkHv M
 k256:Ar M 256 Ahy=true
 k359:Ar M 359 IV=true
def anH (d:Nat) (c:Cl):Hp:=[(6,.st 5 (.fcons 0 (.ptr 9 []) (.fcons 1 (.ptr 0 []) (.fcons 2 (.sl 7 [] 0 1 42) (.fcons 3 (.sl 10 [] 0 1 1) (.fcons 4 (.int .i64 1) .fnil)))))),(7,.ar 42 1 fun _=>c.v),(8,N1 0 false false Dg.zero Qk)]
theorem Rr {M:Seat} (ok:OkEo M) (t t':Tr) (d:Nat) (hd:1≤d∧d≤4) (cm:BitVec 64→Dg) (c:Cl) (hp:c.pos=1#64) (hr:c.par = -1) (C:Dg)
 (hA:Ae M 154 [.ptr 0 [],W (BitVec.ofNat 64 (2 ^ (d - 1) - 1))] (t.H d cm) 6 (Q3 (Ag (dg C) .nili) (t'.H d cm) 6)) :
 Ae M 256 [.ptr 6 [],.ptr 8 [],c.v] (t.H d cm ++ anH d c) 11 (Q3 (Ag (.bool true) .nili) [(8,N1 0 false false C Qk)] 11):=by
 have hAt:=Ep ok.v.g.t.s.v.g.p (k:=0) (i:=0) Am Am
 have hT:=Cd ok.v.g.t.s.v.g.p ok.k359 (D:=d) (k:=1) (i:=0) Aa Aa Am
 rw [show pw 0 0=1#64 by decide,show pw (0 + 1) (2 * 0)=2#64 by decide] at hAt
 rw [show pw 1 0=2#64 by decide,show BitVec.ofNat 64 (LI d 1 0)=BitVec.ofNat 64 (2 ^ (d - 1) - 1) by unfold LI;simp] at hT
 simp only [Tr.H,Tr.H6,Av,Aw] at hA
 simp only [Tr.H,Av,Aw,anH,Cl.v,N1,hp,hr,CH]
 refine Ab ok.k256 rfl fun x hx=>?_
 refine es 2000 ?_;(simp only [Ahy,Afx,LZ,seval])
 refine Al (hAt) ?_
 (simp only [BU,seval])
 refine Al (hT) ?_
 (simp only [BU,seval])
 have zz:=GE @Ak @A8 @AD @Cn @dg.eq_1;refine Co [0,1,2,3,4,5] [0,1,2,3,4,5] (hA) ?_
 (simp only [Cj,A5,Bb,Bi,AC,seval])
 refine Aj ?_
 refine es 2000 ?_
 have z1:IntKind.i64.wrap 1=1:=rfl
 (simp only [z1,LZ,seval])
 refine Aj ?_
 refine es 2000 ?_
 (simp only [z1,LZ,seval])
 have zz:=CX @Ag.eq_1 @Qk.eq_1 @dg.eq_1;exact Bu hx [0,1,2,3,4,5,6,7,8,9,10] ⟨rfl,rfl,rfl⟩
theorem Rd {M:Seat} (ok:OkEo M) (t t':Tr) (d:Nat) (hd:1≤d∧d≤4) (cm:BitVec 64→Dg) (c:Cl) (hp:c.pos=1#64) (hr:c.par = -1) (C:Dg)
 (hA:Ae M 154 [.ptr 0 [],W (BitVec.ofNat 64 (2 ^ (d - 1) - 1))] (t.H d cm) 6 (Q3 (Ag (dg C) .nili) (t'.H6 d cm) 7)) :
 Ae M 256 [.ptr 6 [],.ptr 8 [],c.v] (t.H d cm ++ anH d c) 11 (Q3 (Ag (.bool true) .nili) [(8,N1 0 false false C Qk)] 11):=by
 have hAt:=Ep ok.v.g.t.s.v.g.p (k:=0) (i:=0) Am Am
 have hT:=Cd ok.v.g.t.s.v.g.p ok.k359 (D:=d) (k:=1) (i:=0) Aa Aa Am
 rw [show pw 0 0=1#64 by decide,show pw (0 + 1) (2 * 0)=2#64 by decide] at hAt
 rw [show pw 1 0=2#64 by decide,show BitVec.ofNat 64 (LI d 1 0)=BitVec.ofNat 64 (2 ^ (d - 1) - 1) by unfold LI;simp] at hT
 simp only [Tr.H,Tr.H6,Av,Aw] at hA
 simp only [Tr.H,Av,Aw,anH,Cl.v,N1,hp,hr,CH]
 refine Ab ok.k256 rfl fun x hx=>?_
 refine es 2000 ?_;(simp only [Ahy,Afx,LZ,seval])
 refine Al (hAt) ?_
 (simp only [BU,seval])
 refine Al (hT) ?_
 (simp only [BU,seval])
 have zz:=GE @Ak @A8 @AD @Cn @dg.eq_1;refine Co [0,1,2,3,4,5] [0,1,2,3,4,5] (hA) ?_
 (simp only [Cj,A5,Bb,Bi,AC,seval])
 refine Aj ?_
 refine es 2000 ?_
 have z1:IntKind.i64.wrap 1=1:=rfl
 (simp only [z1,LZ,seval])
 refine Aj ?_
 refine es 2000 ?_
 (simp only [z1,LZ,seval])
 have zz:=CX @Ag.eq_1 @Qk.eq_1 @dg.eq_1;exact Bu hx [0,1,2,3,4,5,6,7,8,9,10] ⟨rfl,rfl,rfl⟩
variable {M:Seat}
structure OkEp (M:Seat):Prop where
 e:OkEo M
 k124:Ar M 124 f124=true
 k255:Ar M 255 WA=true
 fn:FJ M 256
theorem DK (k255:Ar M 255 WA=true):Ae M 255 [.ptr 0 [],.int .i64 (-1)] [] 1 (Q3 (.bool true) [] 1):=by
 refine Ab k255 rfl fun x hx=>?_
 refine es 2000 ?_;(simp only [WA,Aip,LZ,seval])
 refine Aj ?_
 refine es 2000 ?_
 (simp only [LZ,seval])
 exact Aq.mkZ hx [0] ⟨rfl,rfl,rfl⟩
theorem OT (ok:OkEp M) (t t':Tr) (d:Nat) (hd:1≤d∧d≤4) (cm:BitVec 64→Dg) (G:Gs) (hD:G.D=d) (hn:G.n=1) (hp:(G.c 0).pos=1#64) (hr0:(G.c 0).par = -1) (hs0:(G.c 0).rs=false)
 (hS:Ae M 254 [.ptr 6 [],.ptr 0 []] (t.H d cm ++ G.T) 10 (Q3 (Ag (.ptr 10 []) .nili) (t'.H d cm ++ G.T ++ DQ true G) 13)) :
 Ae M 124 [.ptr 6 [],.ptr 0 []] (t.H d cm ++ G.T) 10 (Q3 (Ag .nils .nili) G.T 10):=by
 have hP:=BI ok.e.v.g.t.s.v.g.p (k:=0) (i:=0) Am Am
 rw [show pw 0 0=1#64 by decide] at hP
 have hH:=DK ok.k255
 have z1:IntKind.i64.wrap 1=1:=rfl
 have dz:((0:Int)=(d:Int))=False:=eq_false Aa
 simp only [Tr.H,Tr.Hp,Gs.T,DQ,hD,hn,AB,AH,Ah,AJ,Cl.v,AA,Be,AU,Av,Aw,E4,CH] at hS ⊢
 refine Ab ok.k124 rfl fun x hx=>?_
 refine es 2000 ?_;(simp only [f124,Rs,LZ,seval])
 have zz:=GE @Ak @A8 @AD @Cn @dg.eq_1;refine Co [0,1,2,3,4,5,6,7,8,9] [0,1,2,3,4,5,6,7,8,9] (hS) ?_
 (simp only [Cj,A5,Bb,Bi,AC,seval])
 refine Aj ?_
 refine es 2000 ?_
 (simp only [hp,hr0,hs0,z1,LZ,seval])
 refine Al (hP) ?_
 (simp only [Cz,hp,hr0,hs0,z1,LZ,seval])
 refine Aj ?_
 refine es 2000 ?_
 (simp only [z1,LZ,seval])
 refine Aq.mk hx [0,1,2,3,4,5,6,7,8,9] [] (Ag .nils .nili) G.T 10 Am (by (simp only [Db,seval])) (by simp only [LV,BU,seval,LY]) ?_ ⟨rfl,by simp only [Tr.H,Tr.Hp,Gs.T,DQ,hD,hn,AB,AH,Ah,AJ,Cl.v,AA,Be,AU,Av,Aw,E4,CH],rfl⟩
 simp only [Tr.H,Tr.Hp,Gs.T,DQ,hD,hn,AB,AH,Ah,AJ,Cl.v,AA,Be,AU,Av,Aw,E4,CH,CB,dg,seval]
theorem OY (ok:OkEp M) (t t':Tr) (d:Nat) (hd:1≤d∧d≤4) (cm:BitVec 64→Dg) (G:Gs) (hD:G.D=d) (hn:G.n=1) (hp:(G.c 0).pos=1#64) (hr0:(G.c 0).par = -1) (hs0:(G.c 0).rs=false)
 (hS:Ae M 254 [.ptr 6 [],.ptr 0 []] (t.H d cm ++ G.T) 10 (Q3 (Ag (.ptr 10 []) .nili) (t'.Hp d cm 13 ++ G.T ++ DQ true G) 14)) :
 Ae M 124 [.ptr 6 [],.ptr 0 []] (t.H d cm ++ G.T) 10 (Q3 (Ag .nils .nili) G.T 10):=by
 have hP:=BI ok.e.v.g.t.s.v.g.p (k:=0) (i:=0) Am Am
 rw [show pw 0 0=1#64 by decide] at hP
 have hH:=DK ok.k255
 have z1:IntKind.i64.wrap 1=1:=rfl
 have dz:((0:Int)=(d:Int))=False:=eq_false Aa
 simp only [Tr.H,Tr.Hp,Gs.T,DQ,hD,hn,AB,AH,Ah,AJ,Cl.v,AA,Be,AU,Av,Aw,E4,CH] at hS ⊢
 refine Ab ok.k124 rfl fun x hx=>?_
 refine es 2000 ?_;(simp only [f124,Rs,LZ,seval])
 have zz:=GE @Ak @A8 @AD @Cn @dg.eq_1;refine Co [0,1,2,3,4,5,6,7,8,9] [0,1,2,3,4,5,6,7,8,9] (hS) ?_
 (simp only [Cj,A5,Bb,Bi,AC,seval])
 refine Aj ?_
 refine es 2000 ?_
 (simp only [hp,hr0,hs0,z1,LZ,seval])
 refine Al (hP) ?_
 (simp only [Cz,hp,hr0,hs0,z1,LZ,seval])
 refine Aj ?_
 refine es 2000 ?_
 (simp only [z1,LZ,seval])
 refine Aq.mk hx [0,1,2,3,4,5,6,7,8,9] [] (Ag .nils .nili) G.T 10 Am (by (simp only [Db,seval])) (by simp only [LV,BU,seval,LY]) ?_ ⟨rfl,by simp only [Tr.H,Tr.Hp,Gs.T,DQ,hD,hn,AB,AH,Ah,AJ,Cl.v,AA,Be,AU,Av,Aw,E4,CH],rfl⟩
 simp only [Tr.H,Tr.Hp,Gs.T,DQ,hD,hn,AB,AH,Ah,AJ,Cl.v,AA,Be,AU,Av,Aw,E4,CH,CB,dg,seval]
theorem NX (ok:OkEp M) (t t':Tr) (d:Nat) (hd:1≤d∧d≤4) (cm:BitVec 64→Dg) (G:Gs) (hD:G.D=d) (hn:G.n=1) (hp:(G.c 0).pos=1#64) (hr0:(G.c 0).par = -1) (hs0:(G.c 0).rs=false)
 (hS:Ae M 254 [.ptr 6 [],.ptr 0 []] (t.H d cm ++ G.T) 10 (Q3 (Ag (.ptr 10 []) .nili) (t'.H d cm ++ G.T ++ DQ false G) 13)) (C:Dg) (hA:Ae M 256 [.ptr 6 [],.ptr 8 [],(G.c 0).v] (t'.H d cm ++ anH d (G.c 0)) 11 (Q3 (Ag (.bool true) .nili) [(8,N1 0 false false C Qk)] 11)) :
 Ae M 124 [.ptr 6 [],.ptr 0 []] (t.H d cm ++ G.T) 10 (Q3 (Ag (.sl 10 [] 0 1 151) .nili) G.T 11):=by
 have hP:=BI ok.e.v.g.t.s.v.g.p (k:=0) (i:=0) Am Am
 rw [show pw 0 0=1#64 by decide] at hP
 have hH:=DK ok.k255
 have z1:IntKind.i64.wrap 1=1:=rfl
 have dz:((0:Int)=(d:Int))=False:=eq_false Aa
 simp only [Tr.H,Tr.Hp,Gs.T,DQ,hD,hn,AB,AH,Ah,AJ,Cl.v,AA,Be,AU,Av,Aw,E4,CH] at hS ⊢
 simp only [Tr.H,Av,Aw,anH,N1,Qk,Cl.v,Ah,hp,hr0,hs0,CH] at hA
 refine Ab ok.k124 rfl fun x hx=>?_
 refine es 2000 ?_;(simp only [f124,Rs,LZ,seval])
 have zz:=GE @Ak @A8 @AD @Cn @dg.eq_1;refine Co [0,1,2,3,4,5,6,7,8,9] [0,1,2,3,4,5,6,7,8,9] (hS) ?_
 (simp only [Cj,A5,Bb,Bi,AC,seval])
 refine Aj ?_
 refine es 2000 ?_
 (simp only [hp,hr0,hs0,z1,LZ,seval])
 refine Al (hP) ?_
 (simp only [Cz,hp,hr0,hs0,z1,LZ,seval])
 refine Ji [74] [] (hH) (by constructor <;> (try simp only [LY,seval]) <;> exact q1) ?_
 (simp only [z1,dz,B7,seval])
 refine WK (f:=256) ok.fn rfl ?_
 refine Ji [0,1,2,3,4,5,74,75,1114,6,76] [0,1,2,3,4,5,74,75,1114] (hA) (by constructor <;> (try simp only [Ak,A8,AD,CB,dg,seval]) <;> first | exact q1 | (intro j hj;obtain rfl:j=0:=Aa;simp only [hp,hr0,hs0,LY,seval])) ?_
 (simp only [Cj,AC,z1,seval])
 refine Aj ?_
 refine es 2000 ?_
 (simp only [z1,LZ,seval])
 refine Aq.mk hx [0,1,2,3,4,5,6,7,8,9,1722] [] (Ag (.sl 10 [] 0 1 151) .nili) G.T 11 Am (by (simp only [Db,seval])) (by simp only [LV,BU,seval,LY]) ?_ ⟨rfl,by simp only [Tr.H,Tr.Hp,Gs.T,DQ,hD,hn,AB,AH,Ah,AJ,Cl.v,AA,Be,AU,Av,Aw,E4,CH],rfl⟩
 simp only [Tr.H,Tr.Hp,Gs.T,DQ,hD,hn,AB,AH,Ah,AJ,Cl.v,AA,Be,AU,Av,Aw,E4,CH,CB,dg,seval]
theorem OI (ok:OkEp M) (t t':Tr) (d:Nat) (hd:1≤d∧d≤4) (cm:BitVec 64→Dg) (G:Gs) (hD:G.D=d) (hn:G.n=1) (hp:(G.c 0).pos=1#64) (hr0:(G.c 0).par = -1) (hs0:(G.c 0).rs=false)
 (hS:Ae M 254 [.ptr 6 [],.ptr 0 []] (t.H d cm ++ G.T) 10 (Q3 (Ag (.ptr 10 []) .nili) (t'.Hp d cm 13 ++ G.T ++ DQ false G) 14)) (C:Dg) (hA:Ae M 256 [.ptr 6 [],.ptr 8 [],(G.c 0).v] (t'.H d cm ++ anH d (G.c 0)) 11 (Q3 (Ag (.bool true) .nili) [(8,N1 0 false false C Qk)] 11)) :
 Ae M 124 [.ptr 6 [],.ptr 0 []] (t.H d cm ++ G.T) 10 (Q3 (Ag (.sl 10 [] 0 1 151) .nili) G.T 11):=by
 have hP:=BI ok.e.v.g.t.s.v.g.p (k:=0) (i:=0) Am Am
 rw [show pw 0 0=1#64 by decide] at hP
 have hH:=DK ok.k255
 have z1:IntKind.i64.wrap 1=1:=rfl
 have dz:((0:Int)=(d:Int))=False:=eq_false Aa
 simp only [Tr.H,Tr.Hp,Gs.T,DQ,hD,hn,AB,AH,Ah,AJ,Cl.v,AA,Be,AU,Av,Aw,E4,CH] at hS ⊢
 simp only [Tr.H,Av,Aw,anH,N1,Qk,Cl.v,Ah,hp,hr0,hs0,CH] at hA
 refine Ab ok.k124 rfl fun x hx=>?_
 refine es 2000 ?_;(simp only [f124,Rs,LZ,seval])
 have zz:=GE @Ak @A8 @AD @Cn @dg.eq_1;refine Co [0,1,2,3,4,5,6,7,8,9] [0,1,2,3,4,5,6,7,8,9] (hS) ?_
 (simp only [Cj,A5,Bb,Bi,AC,seval])
 refine Aj ?_
 refine es 2000 ?_
 (simp only [hp,hr0,hs0,z1,LZ,seval])
 refine Al (hP) ?_
 (simp only [Cz,hp,hr0,hs0,z1,LZ,seval])
 refine Ji [74] [] (hH) (by constructor <;> (try simp only [LY,seval]) <;> exact q1) ?_
 (simp only [z1,dz,B7,seval])
 refine WK (f:=256) ok.fn rfl ?_
 refine Ji [0,1,77,3,4,5,74,75,1114,6,76] [0,1,77,3,4,5,74,75,1114] (hA) (by constructor <;> (try simp only [Ak,A8,AD,CB,dg,seval]) <;> first | exact q1 | (intro j hj;obtain rfl:j=0:=Aa;simp only [hp,hr0,hs0,LY,seval])) ?_
 (simp only [Cj,AC,z1,seval])
 refine Aj ?_
 refine es 2000 ?_
 (simp only [z1,LZ,seval])
 refine Aq.mk hx [0,1,2,3,4,5,6,7,8,9,1722] [] (Ag (.sl 10 [] 0 1 151) .nili) G.T 11 Am (by (simp only [Db,seval])) (by simp only [LV,BU,seval,LY]) ?_ ⟨rfl,by simp only [Tr.H,Tr.Hp,Gs.T,DQ,hD,hn,AB,AH,Ah,AJ,Cl.v,AA,Be,AU,Av,Aw,E4,CH],rfl⟩
 simp only [Tr.H,Tr.Hp,Gs.T,DQ,hD,hn,AB,AH,Ah,AJ,Cl.v,AA,Be,AU,Av,Aw,E4,CH,CB,dg,seval]
def edH (G:Gs) (now:BitVec 64) (nv:Nat):Hp:=[(0,QC (.ptr 5 []) (.ptr 1 []) (.ptr 3 []) (.sl 6 [] 0 nv 32) now),(1,AB G.D G.l G.g G.s (.ptr 3 []) (.sl 2 [] 0 G.n 42)),(2,AJ G.n G.c),(3,AA G.b G.i G.o (.sl 4 [] 0 G.n 2) G.k),(4,Be G.n G.v G.gv)]
theorem O0 {M:Seat} (ok:OkHv M) (k125:Ar M 125 Ahn=true) (G:Gs) (w:G.wf) (wb:G.bd) (hn:G.n=1) (now:BitVec 64) (nv:Nat) (hE:G.rE 0 (now + 10000#64)=none) (hn2:(G.rsv 0).n=1) :
 Ae M 125 [.ptr 0 []] (edH G now nv) 7 (Q3 (.bool true) (edH (G.rsv 0) (now + 10000#64) nv) 7):=by
 have hLn:=Dw ok.g G.D G.l G.g G.s G.n
 have hR:=(KY ok.g G w wb 0 (now + 10000#64)).2 hE
 rw [show (0:Int).toNat=0 from rfl] at hR
 generalize hG':G.rsv 0=G' at *
 rw [hn] at hLn
 simp only [Gs.H,hn,hn2,AB,AH,Ah,AJ,Cl.v,AA,Be,AU] at hR hLn
 unfold edH
 simp only [hn,hn2,QC,AB,AH,Ah,AJ,Cl.v,AA,Be,AU]
 refine Ab k125 rfl fun x hx=>?_
 refine es 2000 ?_;(simp only [Ahn,An4,LZ,seval])
 have zz:=@dg.eq_1;refine Co [1,2,3] [1] (hLn) ?_
 (simp only [B7,AC,seval])
 refine Aj ?_
 refine es 2000 ?_
 have z0:IntKind.i64.wrap 0=0:=rfl
 have z1:IntKind.i64.wrap (-1) = -1:=rfl
 have z2:(0≤(-1:Int))=False:=eq_false Am
 (simp only [z0,LZ,seval])
 have zz:=@dg.eq_1;refine KI [1,2,3,4] [1,2,3,4] (hR) ?_
 (simp only [B7,AC,z0,z1,seval])
 refine Aj ?_
 refine es 2000 ?_
 (simp only [z1,z2,LZ,seval])
 exact Aq.mkZ hx [0,1,2,3,4,5,6] ⟨rfl,rfl,rfl⟩
theorem XT {d:Nat} (hd:1≤d∧d≤4):(BitVec.ofNat 64 (2 ^ d - 1)).toNat < 2 ^ d∧(BitVec.ofNat 64 (2 ^ (d - 1) - 1)).toNat < 2 ^ d:=by
 rcases (show d=1 ∨ d=2 ∨ d=3 ∨ d=4 by omega) with rfl | rfl | rfl | rfl <;> decide
theorem W8 {M:Seat} (ok:OkHv M) (a:OkAx M) (k123:Ar M 123 KL=true) (k359:Ar M 359 IV=true) {m0:Mc} {p0:List (Dg × Pr)} (t:Tr) (ht:t.n < 32) (hp:Pts m0 p0 t.n t.ps) (d:Nat) (hd:1≤d∧d≤4) (G:Gs) (hD:G.D=d) (hn:G.n=1) (hps:(G.c 0).pos=1#64)
 (rt:Bool) (hrt:rt=true ↔ FH m0 p0 (BitVec.ofNat 64 (2 ^ d - 1) + 1#64)=(G.c 0).val) :
 ∃ t':Tr,t'.n≤t.n + 1∧Pts m0 p0 t'.n t'.ps ∧
  (Ae M 123 [.ptr 6 [],.ptr 0 [],.int .i64 0] (t.H d (FH m0 p0) ++ G.T) 10 (Q3 (Ag (.bool rt) .nili) (t'.H d (FH m0 p0) ++ G.T) 10) ∨
   Ae M 123 [.ptr 6 [],.ptr 0 [],.int .i64 0] (t.H d (FH m0 p0) ++ G.T) 10 (Q3 (Ag (.bool rt) .nili) (t'.Hp d (FH m0 p0) 10 ++ G.T) 11)):=by
 obtain ⟨t',h1,h2,hA⟩:=SY a t ht hp d Aa (BitVec.ofNat 64 (2 ^ d - 1)) (XT hd).1
 refine ⟨t',h1,h2,?_⟩
 cases rt with
 | true =>
   have e:=hrt.1 rfl
   rcases hA with hA | hA
   ·exact .inl (Lb ok k123 t t' d _ G hD hn (IB ok k359 t t' d hd _ G hD hn hps _ e hA))
   ·exact .inr (KP ok k123 t t' d _ G hD hn (I1 ok k359 t t' d hd _ G hD hn hps _ e hA))
 | false =>
   have e:=fun q=>Bool.false_ne_true (hrt.2 q)
   rcases hA with hA | hA
   ·exact .inl (KW ok k123 t t' d _ G hD hn (IA ok k359 t t' d hd _ G hD hn hps _ e hA))
   ·exact .inr (Li ok k123 t t' d _ G hD hn (ID ok k359 t t' d hd _ G hD hn hps _ e hA))
theorem Aes {M:Seat} (ok:OkEp M) (a:OkAx M) {m0:Mc} {p0:List (Dg × Pr)} (t:Tr) (ht:t.n < 31) (hp:Pts m0 p0 t.n t.ps) (d:Nat) (hd:1≤d∧d≤4) (G:Gs) (hD:G.D=d) (hn:G.n=1) (hps:(G.c 0).pos=1#64) (hr0:(G.c 0).par = -1) (hs0:(G.c 0).rs=false)
 (rt:Bool) (hrt:rt=true ↔ FH m0 p0 (BitVec.ofNat 64 (2 ^ d - 1) + 1#64)=(G.c 0).val) :
 (rt=true→Ae M 124 [.ptr 6 [],.ptr 0 []] (t.H d (FH m0 p0) ++ G.T) 10 (Q3 (Ag .nils .nili) G.T 10)) ∧
 (rt=false→Ae M 124 [.ptr 6 [],.ptr 0 []] (t.H d (FH m0 p0) ++ G.T) 10 (Q3 (Ag (.sl 10 [] 0 1 151) .nili) G.T 11)):=by
 obtain ⟨t',h1,h2,hA⟩:=SY a t Aa hp d Aa (BitVec.ofNat 64 (2 ^ d - 1)) (XT hd).1
 constructor
 ·rintro rfl
  have e:=hrt.1 rfl
  rcases hA with hA | hA
  ·exact OT ok t t' d hd _ G hD hn hps hr0 hs0 (IB ok.e.v ok.e.k359 t t' d hd _ G hD hn hps _ e hA)
  ·exact OY ok t t' d hd _ G hD hn hps hr0 hs0 (I1 ok.e.v ok.e.k359 t t' d hd _ G hD hn hps _ e hA)
 ·rintro rfl
  have e:=fun q=>Bool.false_ne_true (hrt.2 q)
  obtain ⟨u,g1,g2,hB⟩:=SY a t' Aa h2 d Aa (BitVec.ofNat 64 (2 ^ (d - 1) - 1)) (XT hd).2
  have hC:∃ C,Ae M 256 [.ptr 6 [],.ptr 8 [],(G.c 0).v] (t'.H d (FH m0 p0) ++ anH d (G.c 0)) 11 (Q3 (Ag (.bool true) .nili) [(8,N1 0 false false C Qk)] 11):=by
   rcases hB with hB | hB
   ·exact ⟨_,Rr ok.e t' u d hd _ (G.c 0) hps hr0 _ hB⟩
   ·exact ⟨_,Rd ok.e t' u d hd _ (G.c 0) hps hr0 _ hB⟩
  obtain ⟨C,hC⟩:=hC
  rcases hA with hA | hA
  ·exact NX ok t t' d hd _ G hD hn hps hr0 hs0 (IA ok.e.v ok.e.k359 t t' d hd _ G hD hn hps _ e hA) C hC
  ·exact OI ok t t' d hd _ G hD hn hps hr0 hs0 (ID ok.e.v ok.e.k359 t t' d hd _ G hD hn hps _ e hA) C hC
theorem Aky (d:Nat) (hd:1≤d∧d≤4) (st fi:Dg) (bv:Nat→BitVec 64) (sv:BitVec 64):(gB d st fi bv sv).ok:=Yl 5000#64 0#64 ⟨by decide,by decide,by decide⟩ d Aa st fi 1 Am 0#64 bv sv 0#64 0#64
theorem XW (d:Nat) (st fi:Dg) (bv:Nat→BitVec 64) (sv:BitVec 64):Dl (gB d st fi bv sv).c 0 1=none:=by
 simp [Dl,gB,Gs.new,RK]
theorem Ajt (d:Nat) (st fi:Dg) (bv:Nat→BitVec 64) (sv:BitVec 64):(gB d st fi bv sv).rE 0 (0#64 + 10000#64)=none:=by
 have h1:¬ ((0:Int) < 0 ∨ ((gB d st fi bv sv).n:Int)≤0):=by simp [gB,Gs.new]
 have h2:¬ ((gB d st fi bv sv).c (0:Int).toNat).rs=true:=by simp [gB,Gs.new,RK]
 have h3:¬ (gB d st fi bv sv).kidO 0:=by
  rintro ⟨j,-,hp,-⟩
  have hp:(-1:Int)=((0:Nat):Int):=hp
  simp at hp
 have h4:¬ Ng ((gB d st fi bv sv).c 0).us ((gB d st fi bv sv).c 0).at' (HL (gB d st fi bv sv).c ((gB d st fi bv sv).c 0)) (0#64 + 10000#64):=by
  show ¬ Ng 0#64 0#64 (HL _ (RK fi 1 0#64)) _
  rw [show HL (gB d st fi bv sv).c (RK fi 1 0#64)=0#64 from rfl]
  unfold Ng UX;decide
 have h5:(gB d st fi bv sv).l≤HL (gB d st fi bv sv).c ((gB d st fi bv sv).c 0) + (0#64 + 10000#64) - ((gB d st fi bv sv).c 0).at':=by
  show 5000#64≤HL _ (RK fi 1 0#64) + (0#64 + 10000#64) - 0#64
  rw [show HL (gB d st fi bv sv).c (RK fi 1 0#64)=0#64 from rfl]
  decide
 rw [Gs.rE,if_neg h1,if_neg h2,show (0:Int).toNat=0 from rfl,Gs.rsE,if_neg (by simpa using h3),if_neg h4,if_pos h5]
theorem Af6 (d:Nat) (st fi:Dg) (bv:Nat→BitVec 64) (sv:BitVec 64):((gB d st fi bv sv).rsv 0).n=1∧((gB d st fi bv sv).rsv 0).sta=1∧((gB d st fi bv sv).rsv 0).b 1=bv 1∧((gB d st fi bv sv).rsv 0).D=d:=by
 have hB:(gB d st fi bv sv).rsB 0=1:=by
  unfold Gs.rsB
  rw [show (gB d st fi bv sv).n=1 from rfl]
  have:=XW d st fi bv sv
  simp only [Int.natCast_zero] at *
  rw [this];rfl
 refine ⟨rfl,?_,?_,rfl⟩
 ·have:=XW d st fi bv sv
  unfold Gs.sta Gs.rsv Gs.rsC
  rw [show (gB d st fi bv sv).n=1 from rfl]
  simp only [if_true,Int.natCast_zero,this]
  simp [gB,Gs.new,RK]
 ·unfold Gs.rsv
  simp only [hB]
  show bv 1 - 1#64 + 1#64=bv 1
  exact BitVec.sub_add_cancel _ _
end Mv
