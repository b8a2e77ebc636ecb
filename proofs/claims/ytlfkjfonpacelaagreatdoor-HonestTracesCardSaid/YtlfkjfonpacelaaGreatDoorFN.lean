/- A part. -/
import Derived.Test.YtlfkjfonpacelaaGreatDoorFM
set_option linter.all false
set_option maxRecDepth 20000
set_option maxHeartbeats 8000000
namespace Mv
open Go
variable {M:Seat}
def K0 (h:Dg):V:=.mp 1 (fun _=>W 1#64) (fun _=>dg h)
theorem TA (z:Z) (hh:Bool) (k:BitVec 64) (H:Hp):CH .int z true hh U2 (W k) H=⟨hh=true,.tup (.fcons 0 (z.v 0) (.fcons 1 (.bool false) .fnil)),H⟩:=by
 simp [CH,U2,Hf,AI,W,V.solid]
theorem LJ (z:Z) (hh:Bool) (h:Dg) (H:Hp):CH .int z true hh (K0 h) (W 1#64) H=⟨hh=true,.tup (.fcons 0 (dg h) (.fcons 1 (.bool true) .fnil)),H⟩:=by
 simp [CH,K0,Hf,AI,AL,W,V.solid]
theorem Xa (hh:Bool) (h:Dg) (id:Nat) (H:Hp):GD .int hh U2 (W 1#64) (dg h) id H=⟨hh=true,.tup .fnil,Co H id (.mp 1 (fun j=>if j=0 then W 1#64 else W 0#64) (fun j=>if j=0 then dg h else dg Dg.zero))⟩:=by
 simp only [GD,U2,Hf,Dk,Nat.not_lt_zero,false_implies,implies_true,and_true,Option.getD_none,AI,W,Nat.zero_add]
 rw [show (V.int IntKind.u64 ((1#64:BitVec 64).toNat:Int)).solid=true from rfl]
 simp only [Gw]
 rfl
theorem Bx (m:List Nat) (c:Prop) [Decidable c] (a b:V):V.ren m (if c then a else b)=if c then V.ren m a else V.ren m b:=by split <;> rfl
structure OkHa (M:Seat):Prop where
 r:OkHr M
 k153:Av M 153 Abc=true
 k154:Av M 154 JA=true
def hL:List (Nat→BitVec 64):=oK B3.f [] 256
theorem OG (ok:OkHa M) (d:Int) :
 Af M 153 [.ptr 0 []] [(0,Ax (.sl 2 [] 0 1 3) d (.map 3) (.map 1)),(1,Ey []),(2,.ar 3 1 fun _=>B4 0#64 4 5),(4,B3.v)] 6
  (Q3 (Ah (dg B3.com) .nili) [(0,Ax (.sl 2 [] 0 1 3) d (.map 3) (.map 1)),(1,Ey hL),(2,.ar 3 1 fun _=>B4 0#64 4 5),(4,B3.v)] 6):=by
 have hO:=SZ ok.r.n.o B3.f B3.g B3.pc B3.hl B3.xt 1 d []
 rw [show BW (BP B3.f 13 0) (Eg B3.g B3.pc B3.hl B3.xt)=B3.com from rfl,show oK B3.f [] 256=hL from rfl] at hO
 generalize B3.com=C0 at *
 generalize hL=l0 at *
 simp only [Mc.v,B3,mach] at hO
 refine Ab ok.k153 rfl fun x hx=>?_
 refine es 2000 ?_;(simp only [Abc,Ag8,Ax,B4,Mc.v,B3,C7,seval])
 repeat refine sd ?_
 have zz:=Bc @Ax.eq_1 @Al;refine Df [0,1,2,3,4] [0,1,4] (hO) ?_
 (simp only [Dq,Ax,Ba,seval])
 have zz:=Vy @Ah.eq_1 @Ax.eq_1 @B4.eq_1 @Mc.v.eq_1 @B3.eq_1 @mach.eq_1 @Al @dg.eq_1;exact Bz hx [0,1,2,3,4,5] ⟨rfl,rfl,rfl⟩
theorem TJ (ok:OkHa M) (pres:List (Dg × Pr)) (l:List (Nat→BitVec 64)) :
 Af M 154 [.ptr 0 [],W 0#64] [(0,Ax (.sl 2 [] 0 1 3) 1 (.map 3) (.map 1)),(1,Ey l),(2,.ar 3 1 fun _=>B4 0#64 4 5),(3,U2),(4,B3.v),(5,CP 6 7 8),(6,Bd A9 Pr.zero pres)] 9
  (Q3 (Ah (dg BO.com) .nili) [(0,Ax (.sl 9 [] 0 2 3) 1 (.map 3) (.map 1)),(1,Ey (oK BO.f l 256)),(3,K0 BO.com),(4,B3.v),(5,CP 6 7 8),(6,Bd A9 Pr.zero pres),(9,.ar 3 2 pt2),(10,BO.v),(11,CP 12 7 13),(12,Bd A9 Pr.zero pres),(13,BD [])] 14):=by
 have hR:=OL ok.r pres 1
 have hO:=SZ ok.r.n.o BO.f BO.g BO.pc BO.hl BO.xt 2 1 l
 rw [show BW (BP BO.f 13 0) (Eg BO.g BO.pc BO.hl BO.xt)=BO.com from rfl] at hO
 have hk0:=fun z hh k H=>TA z hh k H
 have hku:=fun hh id H=>Xa hh BO.com id H
 generalize BO.com=C1 at *
 generalize oK BO.f l 256=l1 at *
 simp only [Mc.v,B3,BO,mach] at hO hR
 have hpt:pt2=fun j=>if j=0 then B4 0#64 4 5 else B4 1#64 10 11:=funext fun _=>rfl
 rw [hpt] at hR ⊢
 refine Ab ok.k154 rfl fun x hx=>?_
 refine es 2000 ?_;(simp only [JA,Oe,Ax,B4,Mc.v,B3,C7,seval])
 have zz:=F5 @Ax.eq_1 @B4.eq_1 @CP.eq_1 @Ce;refine Df [0,1,2,3,4,5,6,7,8] [0,2,4,5,6] (hR) ?_
 (simp only [Ax,B4,CP,Am,hk0,BA,seval])
 repeat refine sd ?_
 simp only [Bx,B4,LN,LP,V.ren,AM,A5,BJ,BT,seval]
 have zz:=Bc @Ax.eq_1 @Al;refine Df [0,1,265,3,266] [0,1,266] (hO) ?_
 (simp only [Dq,Ax,B4,CP,Ba,hku,seval])
 repeat refine sd ?_
 refine Ap.mk hx [0,1,2,3,4,5,6,7,8,265,266,267,268,269] [] (Ah (dg C1) .nili) _ 14 Aj (by (simp only [DS,seval])) (by simp only [LV,BV,seval,LY]) ?_ ⟨rfl,rfl,rfl⟩
 simp only [BO,K0,Al,DN,seval]
 refine ⟨fun i hi=>?_,fun j hj=>?_⟩
 ·obtain rfl:i=0:=Aa
  simp only [if_true,LY,seval]
 ·rcases (show j=0 ∨ j=1 by omega) with rfl | rfl <;> simp only [Nat.one_ne_zero,C2,LY,seval]
def hB (pres:List (Dg × Pr)) (l:List (Nat→BitVec 64)):Hp:=[(0,Ax (.sl 2 [] 0 2 3) 1 (.map 3) (.map 1)),(1,Ey l),(2,.ar 3 2 fun j=>if j=0 then B4 0#64 4 5 else B4 1#64 6 7),(3,K0 BO.com),(4,B3.v),(5,CP 8 9 10),(6,BO.v),(7,CP 11 9 12),(8,Bd A9 Pr.zero pres),(10,BD []),(11,Bd A9 Pr.zero pres),(12,BD [])]
theorem Rs (ok:OkHa M) (pres:List (Dg × Pr)) (l:List (Nat→BitVec 64)) :
 Af M 154 [.ptr 0 [],W 0#64] (hB pres l) 13 (Q3 (Ah (dg BO.com) .nili) (hB pres l) 13):=by
 have hR:=PG ok.r 1
 have hk:=fun z hh H=>LJ z hh BO.com H
 unfold hB
 generalize BO.com=C1 at *
 simp only [Mc.v,BO,mach] at hR
 refine Ab ok.k154 rfl fun x hx=>?_
 refine es 2000 ?_;(simp only [JA,Oe,Ax,B4,CP,Mc.v,B3,BO,C7,seval])
 refine PX [0,1,2,3,4,5,6,7] [0,2,6] (hR) (by constructor <;> (try simp only [Ax,B4,LY,seval]) <;> first | exact q1 | (intro j hj;rcases (show j=0 ∨ j=1 by omega) with rfl | rfl <;> simp only [Nat.one_ne_zero,C2,LY,seval])) ?_
 (simp only [Ax,B4,hk,Bx,BA,seval])
 repeat refine sd ?_
 refine Ap.mk hx [0,1,2,3,4,5,6,7,8,9,10,11,12] [] (Ah (dg C1) .nili) _ 13 Aj (by (simp only [DS,seval])) (by simp only [LV,BV,dg,seval,LY]) ?_ ⟨rfl,rfl,rfl⟩
 simp only [K0,DN,Bx,Al,seval]
 intro j hj
 rcases (show j=0 ∨ j=1 by omega) with rfl | rfl <;> simp only [Nat.one_ne_zero,C2,LN,LP,V.ren,AM,A5,BJ,BT,seval,LY]
theorem JG (ok:OkHa M) (pres:List (Dg × Pr)) (l:List (Nat→BitVec 64)) :
 Af M 154 [.ptr 0 [],W 1#64] (hB pres l) 13 (Q3 (Ah (dg BO.com) .nili) (hB pres l) 13):=by
 have hR:=Pb ok.r 1
 have hk:=fun z hh H=>LJ z hh BO.com H
 unfold hB
 generalize BO.com=C1 at *
 simp only [Mc.v,BO,mach] at hR
 refine Ab ok.k154 rfl fun x hx=>?_
 refine es 2000 ?_;(simp only [JA,Oe,Ax,B4,CP,Mc.v,B3,BO,C7,seval])
 refine PX [0,1,2,3,4,5,6,7] [0,2,6] (hR) (by constructor <;> (try simp only [Ax,B4,LY,seval]) <;> first | exact q1 | (intro j hj;rcases (show j=0 ∨ j=1 by omega) with rfl | rfl <;> simp only [Nat.one_ne_zero,C2,LY,seval])) ?_
 (simp only [Ax,B4,hk,Bx,BA,seval])
 repeat refine sd ?_
 refine Ap.mk hx [0,1,2,3,4,5,6,7,8,9,10,11,12] [] (Ah (dg C1) .nili) _ 13 Aj (by (simp only [DS,seval])) (by simp only [LV,BV,dg,seval,LY]) ?_ ⟨rfl,rfl,rfl⟩
 simp only [K0,DN,Bx,Al,seval]
 intro j hj
 rcases (show j=0 ∨ j=1 by omega) with rfl | rfl <;> simp only [Nat.one_ne_zero,C2,LN,LP,V.ren,AM,A5,BJ,BT,seval,LY]
def Ao5:LC:=(sr [bX 10 3,
 mI 14 0,mn 15] (sr [mt 20 0,mt 21 1,kl 22 246 [(.t 20),(.t 21)],mt 19 22,ee 23 19 0,ee 24 19 1,A1 16 (.alloc (.st (.cons (.int .i64) (.cons (.int .u64) (.cons (.ar 32 (.int .u8)) (.cons (.int .i64) (.cons (.int .i64) (.cons (.st (.cons (.int .u64) (.cons (.int .u64) .nil))) (.cons .bool (.cons .bool (.cons .bool (.cons (.int .i64) .nil)))))))))))),sb 42 16 23,mt 17 24] (.seq (sr [mt 25 17,A1 26 (.eq true true (.iface [74]) (.t 25) (.c .nili))] (.cond (.t 26) (sr [mt 27 17,
  mI 14 0,mt 15 27] .ret) .skip)) (sr [mt 29 0,mt 30 1,la 31 32 10,mt 32 4,mt 33 4,A1 34 (.build (.st (.cons (.int .i64) (.cons (.int .u64) (.cons (.ar 32 (.int .u8)) (.cons (.int .i64) (.cons (.int .i64) (.cons (.st (.cons (.int .u64) (.cons (.int .u64) .nil))) (.cons .bool (.cons .bool (.cons .bool (.cons (.int .i64) .nil))))))))))) [(.f 0,1,(.t 30)),(.f 2,32,(.t 31)),(.f 34,1,(.t 32)),(.f 41,1,(.t 33))]),la 35 42 16,mt 36 2,mt 37 5,mt 38 6,kl 39 247 [(.t 29),(.t 34),(.t 35),(.t 36),(.t 37),(.t 38)],mt 28 39,ee 40 28 0,ee 41 28 1,mt 18 40,mt 17 41] (sr [mt 42 18,mt 43 1,mt 44 17,kl 45 248 [(.t 43),(.t 44)],mt 14 42,mt 15 45] .ret)))))
def Amy:LF:=⟨Ao5,7,0,46,[.tmp 14,.tmp 15]⟩
def Akn:LC:=(sr [A1 4 (.alloc (.st (.cons (.int .i64) (.cons (.int .u64) (.cons (.ar 32 (.int .u8)) (.cons (.int .i64) (.cons (.int .i64) (.cons (.st (.cons (.int .u64) (.cons (.int .u64) .nil))) (.cons .bool (.cons .bool (.cons .bool (.cons (.int .i64) .nil)))))))))))),mn 5] (.seq (.block 0 (sr [mt 7 0,A1 8 (.eq false true .ptr (.t 7) (.c .nilp)),mt 6 8] (.cond (.t 6) (sr [A1 9 (.build (.st (.cons (.int .i64) (.cons (.int .u64) (.cons (.ar 32 (.int .u8)) (.cons (.int .i64) (.cons (.int .i64) (.cons (.st (.cons (.int .u64) (.cons (.int .u64) .nil))) (.cons .bool (.cons .bool (.cons .bool (.cons (.int .i64) .nil))))))))))) []),A1 10 (.mkif 74 (cI 1)),sb 42 4 9,mt 5 10] .ret) (sr [mt 12 1,aI 13 .lss 12 0,mt 14 13,mg 15 14 false 1,mg 16 14 false 0,A2 17 14 false (.nilc (.t 16)),A2 18 14 false (.fadr 36 (.t 17)),A2 19 14 false (.load false 1 (.t 18)),A2 20 14 false (.len 0 (.t 19)),A2 21 14 false (.ari .geq (.t 15) (.t 20)),
  DG 22 14 21,mt 11 22] (.cond (.t 11) (sr [A1 23 (.build (.st (.cons (.int .i64) (.cons (.int .u64) (.cons (.ar 32 (.int .u8)) (.cons (.int .i64) (.cons (.int .i64) (.cons (.st (.cons (.int .u64) (.cons (.int .u64) .nil))) (.cons .bool (.cons .bool (.cons .bool (.cons (.int .i64) .nil))))))))))) []),A1 24 (.mkif 74 (cI 4)),sb 42 4 23,mt 5 24] .ret) .skip))))) (sr [mt 25 0,nc 26 25,fa 27 36 26,lb 28 1 27,mt 29 1,ia 30 42 28 29,la 31 42 30,sb 42 4 31,mn 5] .ret)))
def Aj2:LF:=⟨Akn,2,0,32,[.cell 4 true 42,.tmp 5]⟩
def Amx:LC:=(sr [bX 5 0,
 bX 8 3,A1 10 (.mv (.c .nilp)),mn 11] (.seq (.block 0 (sr [mt 16 1,A1 17 (.eq false true .ptr (.t 16) (.c .nilp)),mt 15 17] (.cond (.t 15) (sr [A1 18 (.mkif 74 (cI 1)),A1 10 (.mv (.c .nilp)),mt 11 18] .ret) (sr [fa 20 0 5,lb 21 1 20,aI 22 .lss 21 1,mt 23 22,A2 24 23 false (.fadr 0 (.t 5)),A2 25 23 false (.load false 1 (.t 24)),A2 26 23 false (.ari .gtr (.t 25) (cI 20)),
  DG 27 23 26,mt 28 27,A2 29 28 false (.fadr 1 (.t 5)),A2 30 28 false (.load true 2 (.t 29)),⟨(some 31),.call 249 [(.t 30)],(some (28,false))⟩,A2 32 28 false (.eq true true (.iface [74]) (.t 31) (.c .nili)),
  DG 33 28 32,mt 34 33,mg 35 34 false 4,A2 36 34 false (.ari .gtr (.t 35) (cU 1099511627776)),
  DG 37 34 36,mt 19 37] (.cond (.t 19) (sr [A1 38 (.mkif 74 (cI 2)),A1 10 (.mv (.c .nilp)),mt 11 38] .ret) .skip))))) (sr [mt 40 1,mt 41 2,kl 42 120 [(cI 0)],kl 43 250 [(.t 40),(.t 41),(.t 42)],mt 39 43,ee 44 39 0,ee 45 39 1,mt 12 44,mt 13 45] (.seq (sr [mt 46 13,A1 47 (.eq true true (.iface [74]) (.t 46) (.c .nili))] (.cond (.t 47) (sr [mt 48 13,A1 10 (.mv (.c .nilp)),mt 11 48] .ret) .skip)) (sr [la 49 32 8,mt 50 2,mt 51 12,mt 52 4,A1 53 (.build (.st (.cons (.int .u64) (.cons (.int .u64) .nil))) [(.f 1,1,(.t 52))]),mt 54 2,A1 55 (.build (.st (.cons (.int .i64) (.cons (.int .u64) (.cons (.ar 32 (.int .u8)) (.cons (.int .i64) (.cons (.int .i64) (.cons (.st (.cons (.int .u64) (.cons (.int .u64) .nil))) (.cons .bool (.cons .bool (.cons .bool (.cons (.int .i64) .nil))))))))))) [(.f 0,1,(.c (.int .i64 (-1)))),(.f 1,1,(cU 1)),(.f 2,32,(.t 49)),(.f 34,1,(.t 50)),(.f 35,1,(.t 51)),(.f 36,2,(.t 53)),(.f 41,1,(.t 54))]),A1 14 (.alloc (.st (.cons (.int .i64) (.cons (.int .u64) (.cons (.ar 32 (.int .u8)) (.cons (.int .i64) (.cons (.int .i64) (.cons (.st (.cons (.int .u64) (.cons (.int .u64) .nil))) (.cons .bool (.cons .bool (.cons .bool (.cons (.int .i64) .nil)))))))))))),sb 42 14 55] (sr [la 56 35 5,mt 57 1,la 58 42 14,A1 59 (.bsl 42 1 (.st (.cons (.int .i64) (.cons (.int .u64) (.cons (.ar 32 (.int .u8)) (.cons (.int .i64) (.cons (.int .i64) (.cons (.st (.cons (.int .u64) (.cons (.int .u64) .nil))) (.cons .bool (.cons .bool (.cons .bool (.cons (.int .i64) .nil))))))))))) [(.i 42 0,42,(.t 58))]),A1 60 (.build (.st (.cons (.st (.cons (.int .i64) (.cons (.st (.cons (.int .u64) (.cons (.int .u64) .nil))) (.cons (.ar 32 (.int .u8)) .nil)))) (.cons .ptr (.cons .slice .nil)))) [(.f 0,35,(.t 56)),(.f 35,1,(.t 57)),(.f 36,1,(.t 59))]),
  bX 61 60,mt 10 61,mn 11] .ret))))))
def Akk:LF:=⟨Amx,5,0,62,[.tmp 10,.tmp 11]⟩
def Ank:LC:=(sr [mI 2 0] (.seq (sr [mt 3 0,A1 4 (.eq false true .ptr (.t 3) (.c .nilp))] (.cond (.t 4) (sr [mI 2 0] .ret) .skip)) (sr [mt 5 0,nc 6 5,fa 7 36 6,lb 8 1 7,
  lN 9 0 8,mt 2 9] .ret)))
def Ame:LF:=⟨Ank,1,0,10,[.tmp 2]⟩
def Anu:LC:=(sr [A1 2 (.alloc (.st (.cons (.int .i64) (.cons (.st (.cons (.int .u64) (.cons (.int .u64) .nil))) (.cons (.ar 32 (.int .u8)) .nil)))))] (.seq (sr [mt 3 0,A1 4 (.eq false true .ptr (.t 3) (.c .nilp))] (.cond (.t 4) (sr [A1 5 (.build (.st (.cons (.int .i64) (.cons (.st (.cons (.int .u64) (.cons (.int .u64) .nil))) (.cons (.ar 32 (.int .u8)) .nil)))) []),sb 35 2 5] .ret) .skip)) (sr [mt 6 0,nc 7 6,fa 8 0 7,la 9 35 8,sb 35 2 9] .ret)))
def Aml:LF:=⟨Anu,1,0,10,[.cell 2 true 35]⟩
def Aj7:LC:=(sr [mU 2 0] (.seq (sr [mt 3 0,aI 4 .lss 3 0] (.cond (.t 4) (sr [mU 2 0] .ret) .skip)) (sr [mt 5 0,
  Ep 6 .u64 5,
  aU 7 .add 6 1,mt 2 7] .ret)))
def Anj:LF:=⟨Aj7,1,0,8,[.tmp 2]⟩
def Ael:LC:=(sr [mI 2 0,
 mU 3 0,mn 4] (.seq (sr [mt 6 0,
  aU 7 .eql 6 0,mt 8 7,mg 9 8 false 0,A2 10 8 false (.ari .geq (.t 9) (cU 33554432)),
  DG 11 8 10] (.cond (.t 11) (sr [A1 12 (.mkif 74 (cI 2)),
  mI 2 0,
  mU 3 0,mt 4 12] .ret) .skip)) (sr [mt 13 0,kl 14 259 [(.t 13)],aI 15 .sub 14 1,mt 5 15] (.seq (.regd [⟨0,0,mt 16 5⟩,⟨1,0,mt 17 0⟩,⟨2,0,mt 18 5⟩,⟨3,4,aV 19 .shl 1 18⟩,⟨4,14,ak 20 .sub 17 19⟩,⟨5,1,mt 2 16⟩,⟨6,63,mt 3 20⟩,⟨7,127,mn 4⟩]) .ret))))
def Ae0:LF:=⟨Ael,1,0,21,[.tmp 2,.tmp 3,.tmp 4]⟩
def Aj8:LC:=(sr [mU 2 0,mn 3] (sr [mt 8 0,kl 9 130 [(.t 8)],mt 7 9,ee 10 7 0,ee 11 7 1,ee 12 7 2,mt 4 10,mt 5 11,mt 6 12] (.seq (sr [mt 13 6,A1 14 (.eq true true (.iface [74]) (.t 13) (.c .nili))] (.cond (.t 14) (sr [mt 15 6,
  mU 2 0,mt 3 15] .ret) .skip)) (sr [mt 16 4,aI 17 .add 16 1,mt 18 5,
  aV 19 .mul 2 18,kl 20 260 [(.t 17),(.t 19)],ee 21 20 0,ee 22 20 1,mt 2 21,mt 3 22] .ret))))
def Amr:LF:=⟨Aj8,1,0,23,[.tmp 2,.tmp 3]⟩
def Aof:LC:=(sr [mU 2 0,mn 3] (sr [mt 8 0,kl 9 130 [(.t 8)],mt 7 9,ee 10 7 0,ee 11 7 1,ee 12 7 2,mt 4 10,mt 5 11,mt 6 12] (.seq (.block 0 (sr [mt 14 6,A1 15 (.eq true true (.iface [74]) (.t 14) (.c .nili)),mt 13 15] (.cond (.t 13) (sr [mt 16 6,
  mU 2 0,mt 3 16] .ret) (sr [mt 18 4,aI 19 .eql 18 24,mt 17 19] (.cond (.t 17) (sr [A1 20 (.mkif 74 (cI 2)),
  mU 2 0,mt 3 20] .ret) (sr [mt 22 5,mt 23 4,
  aV 24 .shl 1 23,
  aU 25 .sub 24 1,ak 26 .eql 22 25,mt 21 26] (.cond (.t 21) (sr [A1 27 (.mkif 74 (cI 45)),
  mU 2 0,mt 3 27] .ret) .skip))))))) (sr [mt 28 4,aI 29 .add 28 1,mt 30 5,
  aV 31 .mul 2 30,
  aU 32 .add 31 2,kl 33 260 [(.t 29),(.t 32)],ee 34 33 0,ee 35 33 1,mt 2 34,mt 3 35] .ret))))
def Al6:LF:=⟨Aof,1,0,36,[.tmp 2,.tmp 3]⟩
def Aln:LC:=(sr [A1 0 (.mv (.c .nilp))] (sr [A1 1 (.build (.st (.cons (.ar 8 (.int .u64)) (.cons (.int .u64) (.cons (.int .u64) (.cons .slice (.cons (.int .u64) .nil)))))) []),
  bX 2 1,mt 0 2] .ret))
def Amg:LF:=⟨Aln,0,0,3,[.tmp 0]⟩
def Anq:LC:=(sr [mn 6] (.seq (sr [mt 8 0,mt 9 1,kl 10 258 [(.t 8),(.t 9)],mt 7 10] (sr [mt 11 7,A1 12 (.eq true true (.iface [74]) (.t 11) (.c .nili))] (.cond (.t 12) (sr [mt 13 7,mt 6 13] .ret) .skip))) (.seq (sr [mt 14 2,
  aU 15 .gtr 14 281474976710656,mt 16 15,mg 17 16 false 0,A2 18 16 false (.nilc (.t 17)),A2 19 16 false (.fadr 8 (.t 18)),A2 20 16 false (.load false 1 (.t 19)),mg 21 16 false 2,A2 22 16 false (.ari .add (.t 20) (.t 21)),A2 23 16 false (.ari .gtr (.t 22) (cU 281474976710656)),
  DG 24 16 23] (.cond (.t 24) (sr [A1 25 (.mkif 74 (cI 2)),mt 6 25] .ret) .skip)) (sr [mt 26 0,nc 27 26,fa 28 8 27,lb 29 1 28,mt 30 2,ak 31 .add 29 30,nc 32 26,fa 33 8 32,sb 1 33 31] (.seq (.regd [⟨0,0,mt 34 0⟩,⟨1,0,mt 35 1⟩,⟨2,1,nc 36 34⟩,⟨3,5,fa 37 0 36⟩,⟨4,15,ib 38 8 1 37 35⟩,⟨5,31,lb 39 1 38⟩,⟨6,0,mt 40 2⟩,⟨7,127,ak 41 .add 39 40⟩,⟨8,1,nc 42 34⟩,⟨9,257,fa 43 0 42⟩,⟨10,1023,ib 44 8 1 43 35⟩,⟨11,2047,sb 1 44 41⟩]) (sr [mn 6] .ret))))))
def Ao8:LF:=⟨Anq,3,0,45,[.tmp 6]⟩
def Amp:LC:=(sr [A1 4 (.alloc (.st (.cons (.int .i64) (.cons (.int .u64) (.cons (.ar 32 (.int .u8)) (.cons (.int .i64) (.cons (.int .i64) (.cons (.st (.cons (.int .u64) (.cons (.int .u64) .nil))) (.cons .bool (.cons .bool (.cons .bool (.cons (.int .i64) .nil)))))))))))),mn 5] (.seq (.block 0 (sr [mt 7 0,A1 8 (.eq false true .ptr (.t 7) (.c .nilp)),mt 6 8] (.cond (.t 6) (sr [A1 9 (.build (.st (.cons (.int .i64) (.cons (.int .u64) (.cons (.ar 32 (.int .u8)) (.cons (.int .i64) (.cons (.int .i64) (.cons (.st (.cons (.int .u64) (.cons (.int .u64) .nil))) (.cons .bool (.cons .bool (.cons .bool (.cons (.int .i64) .nil))))))))))) []),A1 10 (.mkif 74 (cI 1)),sb 42 4 9,mt 5 10] .ret) (sr [mt 12 1,aI 13 .lss 12 0,mt 14 13,mg 15 14 false 1,mg 16 14 false 0,A2 17 14 false (.nilc (.t 16)),A2 18 14 false (.fadr 36 (.t 17)),A2 19 14 false (.load false 1 (.t 18)),A2 20 14 false (.len 0 (.t 19)),A2 21 14 false (.ari .geq (.t 15) (.t 20)),
  DG 22 14 21,mt 11 22] (.cond (.t 11) (sr [A1 23 (.build (.st (.cons (.int .i64) (.cons (.int .u64) (.cons (.ar 32 (.int .u8)) (.cons (.int .i64) (.cons (.int .i64) (.cons (.st (.cons (.int .u64) (.cons (.int .u64) .nil))) (.cons .bool (.cons .bool (.cons .bool (.cons (.int .i64) .nil))))))))))) []),mt 24 1,A1 25 (.mkif 74 (cI 4)),kl 26 248 [(.t 24),(.t 25)],sb 42 4 23,mt 5 26] .ret) (sr [mt 28 0,nc 29 28,fa 30 36 29,lb 31 1 30,mt 32 1,ia 33 42 31 32,fa 34 39 33,lb 35 1 34,mt 27 35] (.cond (.t 27) (sr [A1 36 (.build (.st (.cons (.int .i64) (.cons (.int .u64) (.cons (.ar 32 (.int .u8)) (.cons (.int .i64) (.cons (.int .i64) (.cons (.st (.cons (.int .u64) (.cons (.int .u64) .nil))) (.cons .bool (.cons .bool (.cons .bool (.cons (.int .i64) .nil))))))))))) []),mt 37 1,A1 38 (.mkif 74 (cI 43)),kl 39 248 [(.t 37),(.t 38)],sb 42 4 36,mt 5 39] .ret) .skip))))))) (sr [mt 40 0,nc 41 40,fa 42 36 41,lb 43 1 42,mt 44 1,ia 45 42 43 44,la 46 42 45,sb 42 4 46,mn 5] .ret)))
def Ajt:LF:=⟨Amp,2,0,47,[.cell 4 true 42,.tmp 5]⟩
def Akv:LC:=(sr [bX 7 1,
 bX 8 2,
 mI 12 0,mn 13] (sr [mt 18 0,la 19 42 8,mt 20 3,kl 21 350 [(.t 18),(.t 19),(.t 20)],mt 17 21,ee 22 17 0,ee 23 17 1,ee 24 17 2,A1 14 (.alloc (.int .u64)),sb 1 14 22,mt 15 23,mt 16 24] (.seq (.block 0 (sr [mt 26 16,A1 27 (.eq true true (.iface [74]) (.t 26) (.c .nili)),mt 25 27] (.cond (.t 25) (sr [mt 28 16,
  mI 12 0,mt 13 28] .ret) (sr [mt 30 4,mt 31 15,kl 32 120 [(.t 31)],ak 33 .neq 30 32,mt 29 33] (.cond (.t 29) (sr [A1 34 (.mkif 74 (cI 40)),
  mI 12 0,mt 13 34] .ret) .skip))))) (sr [lb 35 1 14,fa 36 1 7,sb 1 36 35] (.seq (sr [mt 37 0,nc 38 37,fa 39 36 38,lb 40 1 39,A1 41 (.mkfn 352 [(.t 7),(.t 14)]),kl 42 351 [(.t 40),(.t 41)]] (.cond (.t 42) (sr [A1 43 (.mkif 74 (cI 41)),
  mI 12 0,mt 13 43] .ret) .skip)) (.seq (.seq (.regd [⟨7,0,mt 52 0⟩,⟨8,0,la 53 42 8⟩,⟨9,3,kl 54 354 [(.t 52),(.t 53)]⟩,⟨0,0,mt 45 0⟩,⟨1,8,nc 46 45⟩,⟨2,24,fa 47 0 46⟩,⟨3,56,fa 48 1 47⟩,⟨4,120,la 49 2 48⟩,⟨5,0,fa 50 36 8⟩,⟨6,256,la 51 2 50⟩,⟨10,0,mt 55 5⟩,⟨11,2047,kl 56 353 [(.t 49),(.t 51),(.t 54),(.t 55)]⟩,⟨12,4095,mt 44 56⟩,⟨13,8191,ee 57 44 0⟩,⟨15,16383,fa 59 36 7⟩,⟨16,32767,sb 2 59 57⟩,⟨14,8191,ee 58 44 1⟩,⟨17,131071,mt 16 58⟩]) (sr [mt 60 16,A1 61 (.eq true true (.iface [74]) (.t 60) (.c .nili))] (.cond (.t 61) (sr [mt 62 16,
  mI 12 0,mt 13 62] .ret) .skip))) (.seq (sr [mt 63 0,nc 64 63,fa 65 36 64,lb 66 1 65,
  lN 67 0 66,aI 68 .geq 67 64] (.cond (.t 68) (sr [A1 69 (.mkif 74 (cI 5)),
  mI 12 0,mt 13 69] .ret) .skip)) (.seq (.seq (.regd [⟨0,0,mt 71 0⟩,⟨1,1,nc 72 71⟩,⟨2,3,fa 73 35 72⟩,⟨3,7,lb 74 1 73⟩,⟨4,0,fa 75 34 7⟩,⟨5,16,lb 76 1 75⟩,⟨6,0,mt 77 4⟩,⟨7,127,kl 78 250 [(.t 74),(.t 76),(.t 77)]⟩,⟨8,255,mt 70 78⟩,⟨9,511,ee 79 70 0⟩,⟨11,1023,fa 81 35 7⟩,⟨12,2047,sb 1 81 79⟩,⟨10,511,ee 80 70 1⟩,⟨13,8191,mt 16 80⟩]) (sr [mt 82 16,A1 83 (.eq true true (.iface [74]) (.t 82) (.c .nili))] (.cond (.t 83) (sr [mt 84 16,
  mI 12 0,mt 13 84] .ret) .skip))) (.seq (.regd [⟨1,0,mt 86 0⟩,⟨2,1,nc 87 86⟩,⟨3,3,fa 88 36 87⟩,⟨4,7,lb 89 1 88⟩,⟨5,0,la 90 42 7⟩,⟨6,16,A1 91 (.bsl 42 1 (.st (.cons (.int .i64) (.cons (.int .u64) (.cons (.ar 32 (.int .u8)) (.cons (.int .i64) (.cons (.int .i64) (.cons (.st (.cons (.int .u64) (.cons (.int .u64) .nil))) (.cons .bool (.cons .bool (.cons .bool (.cons (.int .i64) .nil))))))))))) [(.i 42 0,42,(.t 90))])⟩,⟨7,63,aP 92 42 96 89 91⟩,⟨0,0,mt 85 0⟩,⟨8,255,nc 93 85⟩,⟨9,511,fa 94 36 93⟩,⟨10,1023,sb 1 94 92⟩]) (sr [mt 95 0,nc 96 95,fa 97 36 96,lb 98 1 97,
  lN 99 0 98,aI 100 .sub 99 1,mt 12 100,mn 13] .ret))))))))))
def Any:LF:=⟨Akv,6,0,101,[.tmp 12,.tmp 13]⟩
def Ajy:LC:=(sr [mn 4] (.seq (sr [mt 5 1,A1 6 (.eq false true (.iface [74]) (.t 5) (.c .nili))] (.cond (.t 6) (sr [mn 4] .ret) .skip)) (sr [mt 7 0,mt 8 1,A1 9 (.build (.st (.cons (.int .i64) (.cons .iface .nil))) [(.f 0,1,(.t 7)),(.f 1,1,(.t 8))]),
  bX 10 9,A1 11 (.mkif 145 (.t 10)),mt 4 11] .ret)))
def Amn:LF:=⟨Ajy,2,0,12,[.tmp 4]⟩
def Ak2:LC:=(sr [bX 1 0,mn 2] (.seq (sr [fa 3 0 1,lb 4 1 3,
  aU 5 .lss 4 1,mt 6 5,A2 7 6 false (.fadr 0 (.t 1)),A2 8 6 false (.load false 1 (.t 7)),A2 9 6 false (.ari .gtr (.t 8) (cU 1099511627776)),
  DG 10 6 9,mt 11 10,A2 12 11 false (.fadr 1 (.t 1)),A2 13 11 false (.load false 1 (.t 12)),A2 14 11 false (.fadr 0 (.t 1)),A2 15 11 false (.load false 1 (.t 14)),A2 16 11 false (.ari .gtr (.t 13) (.t 15)),
  DG 17 11 16] (.cond (.t 17) (sr [A1 18 (.mkif 74 (cI 2)),mt 2 18] .ret) .skip)) (sr [mn 2] .ret)))
def Ane:LF:=⟨Ak2,1,0,19,[.tmp 2]⟩
def Af1:LC:=(sr [mI 6 0,mn 7] (.seq (sr [mt 9 0,mt 10 1,mt 11 2,kl 12 355 [(.t 9),(.t 10),(.t 11)],mt 8 12] (sr [mt 13 8,A1 14 (.eq true true (.iface [74]) (.t 13) (.c .nili))] (.cond (.t 14) (sr [mt 15 8,
  mI 6 0,mt 7 15] .ret) .skip))) (.seq (sr [mt 16 0,nc 17 16,fa 18 10 17,lb 19 1 18,
  lN 20 0 19,aI 21 .geq 20 65536] (.cond (.t 21) (.seq (.regd [⟨0,0,mt 22 0⟩,⟨1,0,mt 23 1⟩,⟨2,1,nc 24 22⟩,⟨3,5,fa 25 0 24⟩,⟨4,15,ib 26 8 1 25 23⟩,⟨5,31,lb 27 1 26⟩,⟨6,0,mt 28 2⟩,⟨7,127,ak 29 .add 27 28⟩,⟨8,1,nc 30 22⟩,⟨9,257,fa 31 0 30⟩,⟨10,1023,ib 32 8 1 31 23⟩,⟨11,2047,sb 1 32 29⟩]) (sr [A1 33 (.mkif 74 (cI 5)),
  mI 6 0,mt 7 33] .ret)) .skip)) (sr [mt 34 0,mt 35 0,nc 36 35,fa 37 10 36,lb 38 1 37,mt 39 2,A1 40 (.build (.st (.cons (.int .u64) (.cons .bool .nil))) [(.f 0,1,(.t 39))]),A1 41 (.bsl 2 1 (.st (.cons (.int .u64) (.cons .bool .nil))) [(.i 2 0,2,(.t 40))]),
  aP 42 2 16 38 41,nc 43 34,fa 44 10 43,sb 1 44 42] (sr [mt 45 0,nc 46 45,fa 47 11 46,lb 48 1 47,mt 49 2,ak 50 .add 48 49,nc 51 45,fa 52 11 51,sb 1 52 50] (sr [mt 53 0,nc 54 53,fa 55 10 54,lb 56 1 55,
  lN 57 0 56,aI 58 .sub 57 1,mt 6 58,mn 7] .ret))))))
def Ah9:LF:=⟨Af1,3,0,59,[.tmp 6,.tmp 7]⟩
def Ake:LC:=(sr [mn 4] (.seq (.block 0 (sr [mt 6 0,A1 7 (.eq false true .ptr (.t 6) (.c .nilp)),mt 5 7] (.cond (.t 5) (sr [A1 8 (.mkif 74 (cI 1)),mt 4 8] .ret) (sr [mt 10 1,aI 11 .lss 10 0,mt 12 11,mg 13 12 false 1,A2 14 12 false (.ari .geq (.t 13) (cI 8)),
  DG 15 12 14,mt 9 15] (.cond (.t 9) (sr [A1 16 (.mkif 74 (cI 2)),mt 4 16] .ret) .skip))))) (sr [mn 4] .ret)))
def An8:LF:=⟨Ake,2,0,17,[.tmp 4]⟩
def Akg:LC:=(sr [mU 4 0,mn 5] (.seq (sr [mt 6 0,aI 7 .lss 6 0,mt 8 7,mg 9 8 false 0,A2 10 8 false (.ari .gtr (.t 9) (cI 24)),
  DG 11 8 10,mt 12 11,mg 13 12 false 1,mg 14 12 false 0,A2 15 12 false (.ari .shl (cU 1) (.t 14)),A2 16 12 false (.ari .geq (.t 13) (.t 15)),
  DG 17 12 16] (.cond (.t 17) (sr [A1 18 (.mkif 74 (cI 2)),
  mU 4 0,mt 5 18] .ret) .skip)) (sr [mt 19 0,
  aV 20 .shl 1 19,mt 21 1,ak 22 .add 20 21,mt 4 22,mn 5] .ret)))
def Al9:LF:=⟨Akg,2,0,23,[.tmp 4,.tmp 5]⟩
def Ah7:LC:=(sr [bX 4 1,
 mU 6 0,
 mI 7 0,mn 8] (sr [fa 15 1 4,lb 16 1 15,kl 17 130 [(.t 16)],mt 14 17,ee 18 14 0,ee 19 14 1,ee 20 14 2,mt 9 18,mt 10 19,mt 11 20] (.seq (sr [mt 21 9,mt 22 0,nc 23 22,fa 24 0 23,fa 25 0 24,lb 26 1 25,ak 27 .geq 21 26] (.cond (.t 27) (sr [A1 28 (.mkif 74 (cI 45)),
  mU 6 0,
  mI 7 0,mt 8 28] .ret) .skip)) (sr [fa 30 1 4,lb 31 1 30,kl 32 131 [(.t 31)],mt 29 32,ee 33 29 0,ee 34 29 1,mt 12 33,mt 13 34] (.seq (sr [mt 35 2] (.cond (.t 35) (.reg [fa 37 1 4,lb 38 1 37,kl 39 132 [(.t 38)],mt 36 39,ee 40 36 0,ee 41 36 1,mt 12 40,mt 13 41]) .skip)) (sr [mt 42 12,mt 43 9,aI 44 .add 43 1,mt 45 13,mt 6 42,mt 7 44,mt 8 45] .ret))))))
def Ad9:LF:=⟨Ah7,3,0,46,[.tmp 6,.tmp 7,.tmp 8]⟩
def Aoo:LC:=(sr [A1 4 (.mv (.c (.bool false)))] (sr [mt 5 0,mt 6 1,kl 7 452 [(.t 5),(.t 6)],aI 8 .geq 7 0,mt 4 8] .ret))
def Amf:LF:=⟨Aoo,2,0,9,[.tmp 4]⟩
def Yz:LC:=(sr [bX 3 0,A1 4 (.mv (.c (.bool false)))] (sr [fa 5 0 3,lb 6 1 5,fa 7 0 1,lb 8 1 7,ak 9 .eql 6 8,mt 10 9,A2 11 10 true (.fadr 1 (.t 3)),A2 12 10 true (.load false 1 (.t 11)),A2 13 10 true (.load false 1 (.t 2)),A2 14 10 true (.ari .eql (.t 12) (.t 13)),
  Ju 15 10 14,mt 16 15,A2 17 16 true (.fadr 2 (.t 3)),A2 18 16 true (.load true 32 (.t 17)),A2 19 16 true (.fadr 2 (.t 1)),A2 20 16 true (.load true 32 (.t 19)),A2 21 16 true (.eq false false (.ar 32 1 false .int) (.t 18) (.t 20)),
  Ju 22 16 21,mt 4 22] .ret))
def YQ:LF:=⟨Yz,1,2,23,[.tmp 4]⟩
def Ajo:LC:=(sr [bX 4 0,
 bX 5 1,A1 8 (.alloc (.st (.cons (.int .u64) (.cons (.int .u64) .nil)))),mn 9] (sr [la 13 2 4,la 14 2 5,mt 15 2,mt 16 3,kl 17 453 [(.t 13),(.t 14),(.t 15),(.t 16)],mt 12 17,ee 18 12 0,ee 19 12 1,mt 10 18,mt 11 19] (.seq (.block 0 (sr [mt 21 11,A1 22 (.eq true true (.iface [74]) (.t 21) (.c .nili)),mt 20 22] (.cond (.t 20) (sr [A1 23 (.build (.st (.cons (.int .u64) (.cons (.int .u64) .nil))) []),mt 24 11,sb 2 8 23,mt 9 24] .ret) (sr [mt 26 10,fa 27 0 4,lb 28 1 27,ak 29 .geq 26 28,mt 25 29] (.cond (.t 25) (sr [A1 30 (.build (.st (.cons (.int .u64) (.cons (.int .u64) .nil))) []),A1 31 (.mkif 74 (cI 42)),sb 2 8 30,mt 9 31] .ret) .skip))))) (sr [mt 32 10,fa 33 0 4,lb 34 1 33,fa 35 1 4,lb 36 1 35,ak 37 .sub 34 36,A1 38 (.mm false (.t 32) (.t 37)),mt 39 3,A1 40 (.build (.st (.cons (.int .u64) (.cons (.int .u64) .nil))) [(.f 0,1,(.t 38)),(.f 1,1,(.t 39))]),sb 2 8 40,mn 9] .ret))))
def Ajz:LF:=⟨Ajo,4,0,41,[.cell 8 true 2,.tmp 9]⟩
def Ai5:LC:=(sr [bX 3 1,
 mU 4 0] (.seq (sr [fa 5 0 3,lb 6 1 5,aI 7 .lss 6 0] (.cond (.t 7) (sr [mU 4 0] .ret) .skip)) (.seq (.regd [⟨0,0,mt 8 0⟩,⟨1,1,nc 9 8⟩,⟨2,3,fa 10 36 9⟩,⟨3,7,lb 11 1 10⟩,⟨4,0,fa 12 0 3⟩,⟨5,16,lb 13 1 12⟩,⟨6,63,ia 14 42 11 13⟩,⟨7,127,fa 15 36 14⟩,⟨8,255,fa 16 0 15⟩,⟨9,511,lb 17 1 16⟩,⟨10,1023,mt 4 17⟩]) .ret)))
def Ahn:LF:=⟨Ai5,2,0,18,[.tmp 4]⟩
def Ao0:LC:=(sr [mn 6] (.seq (sr [mt 8 0,mt 9 1,kl 10 258 [(.t 8),(.t 9)],mt 7 10] (sr [mt 11 7,A1 12 (.eq true true (.iface [74]) (.t 11) (.c .nili))] (.cond (.t 12) (sr [mt 13 7,mt 6 13] .ret) .skip))) (.seq (sr [mt 14 0,mt 15 1,nc 16 14,fa 17 0 16,ib 18 8 1 17 15,lb 19 1 18,mt 20 2,ak 21 .lss 19 20] (.cond (.t 21) (sr [A1 22 (.mkif 74 (cI 21)),mt 6 22] .ret) .skip)) (.seq (.regd [⟨0,0,mt 23 0⟩,⟨1,0,mt 24 1⟩,⟨2,1,nc 25 23⟩,⟨3,5,fa 26 0 25⟩,⟨4,15,ib 27 8 1 26 24⟩,⟨5,31,lb 28 1 27⟩,⟨6,0,mt 29 2⟩,⟨7,127,ak 30 .sub 28 29⟩,⟨8,1,nc 31 23⟩,⟨9,257,fa 32 0 31⟩,⟨10,1023,ib 33 8 1 32 24⟩,⟨11,2047,sb 1 33 30⟩]) (sr [mn 6] .ret)))))
def Aoy:LF:=⟨Ao0,3,0,34,[.tmp 6]⟩
def Amv:LC:=(sr [mI 4 0] (.seq (sr [mt 6 0,
  lN 7 0 6,
  mI 8 0] (.block 0 (.loop (sr [ak 9 .lss 8 7] (.seq (EQ 9 0) (.seq (.block 1 (sr [mt 10 8,mt 5 10] (sr [mt 11 1,mt 12 0,mt 13 5,ia 14 42 12 13,la 15 42 14,⟨(some 16),.dyn (.t 11) [(.t 15)],none⟩] (.cond (.t 16) (sr [mt 17 5,mt 4 17] .ret) .skip)))) (.reg [aI 18 .add 8 1,mt 8 18]))))))) (sr [A1 4 (.mv (.c (.int .i64 (-1))))] .ret)))
def Aj1:LF:=⟨Amv,2,0,19,[.tmp 4]⟩
def Anv:LC:=(sr [bX 4 0,
 bX 5 1,
 mU 8 0,mn 9] (.seq (sr [la 11 2 4,kl 12 249 [(.t 11)],mt 10 12] (sr [mt 13 10,A1 14 (.eq true true (.iface [74]) (.t 13) (.c .nili))] (.cond (.t 14) (sr [mt 15 10,
  mU 8 0,mt 9 15] .ret) .skip))) (sr [la 16 2 5,mt 17 2,mt 18 3,kl 19 487 [(.t 16),(.t 17),(.t 18)],ee 20 19 0,ee 21 19 1,mt 8 20,mt 9 21] .ret)))
def Alk:LF:=⟨Anv,4,0,22,[.tmp 8,.tmp 9]⟩
def Aoc:LC:=(sr [bX 3 0,
 mU 6 0,mn 7] (.seq (sr [mt 8 2,fa 9 1 3,lb 10 1 9,ak 11 .lss 8 10,mt 12 11,A2 13 12 false (.fadr 0 (.t 3)),A2 14 12 false (.load false 1 (.t 13)),A2 15 12 false (.fadr 1 (.t 3)),A2 16 12 false (.load false 1 (.t 15)),mg 17 12 false 1,mg 18 12 false 2,A2 19 12 false (.mm4 true (.t 14) (.t 16) (.t 17) (.t 18)),A2 20 12 false (.ari .gtr (.t 19) (cU 1099511627776)),
  DG 21 12 20] (.cond (.t 21) (sr [A1 22 (.mkif 74 (cI 2)),
  mU 6 0,mt 7 22] .ret) .skip)) (sr [mt 23 1,mt 24 2,ak 25 .add 23 24,fa 26 1 3,lb 27 1 26,ak 28 .sub 25 27,mt 6 28,mn 7] .ret)))
def Amh:LF:=⟨Aoc,3,0,29,[.tmp 6,.tmp 7]⟩
end Mv
