/- A part. -/
import Derived.Test.YtncipgmjhaiagaaGreatDoorFU
import Derived.KernelRfl
set_option linter.all false
set_option maxRecDepth 20000
set_option maxHeartbeats 64000000
namespace Mv
open Go
def c96:LC:=(sr [A1 0 (.mv (.c (.bool false)))]
 (sr [kl 12 74 [(.c .nils)],
  mt 11 12,
  A1 13 (.ext (.t 11) 0),
  A1 14 (.ext (.t 11) 1),
  mt 1 13,
  mt 2 14]
 (sr [kl 15 68 [],
  mt 3 15]
 (.seq (sr [mt 16 2,
  A1 17 (.eq true true (.iface [74]) (.t 16) (.c .nili)),
  mt 18 17,
  A2 19 18 false (.mv (.t 1)),
  A2 20 18 false (.eq false true .ptr (.t 19) (.c .nilp)),
  A1 21 (.pick (.t 18) (.c (.bool true)) (.t 20)),
  mt 22 21,
  A2 23 22 false (.mv (.t 3)),
  A2 24 22 false (.eq false true .ptr (.t 23) (.c .nilp)),
  A1 25 (.pick (.t 22) (.c (.bool true)) (.t 24))]
 (.cond (.t 25) (sr [A1 0 (.mv (.c (.bool false)))]
 (.ret)) (.skip)))
 (sr [mt 27 1,
  mt 28 3,
  kl 29 97 [(.t 27),(.t 28)],
  mt 26 29,
  A1 30 (.ext (.t 26) 0),
  A1 31 (.ext (.t 26) 1),
  A1 4 (.alloc (.st (.cons (.ar 32 (.int .u8)) (.cons (.st (.cons (.ar 16 (.int .u64)) (.cons (.int .u64) (.cons .bool (.cons (.int .u64) .nil))))) (.cons .slice (.cons (.ar 64 (.int .u8)) .nil)))))),
  A0 (.store 116 (.t 4) (.t 30)),
  mt 2 31]
 (sr [mt 33 1,
  kl 34 54 [(.t 33)],
  mt 32 34,
  A1 35 (.ext (.t 32) 0),
  A1 36 (.ext (.t 32) 1),
  A1 5 (.alloc (.ar 32 (.int .u8))),
  A0 (.store 32 (.t 5) (.t 35)),
  mt 6 36]
 (sr [A1 38 (.load true 32 (.t 5)),
  A1 39 (.load true 116 (.t 4)),
  kl 40 98 [(.t 38),(.t 39)],
  mt 37 40,
  A1 41 (.ext (.t 37) 0),
  A1 42 (.ext (.t 37) 1),
  A1 7 (.alloc (.ar 32 (.int .u8))),
  A0 (.store 32 (.t 7) (.t 41)),
  mt 8 42]
 (sr [mt 43 1,
  mt 44 3,
  kl 45 70 [(.t 43),(.t 44)]]
 (sr [mt 47 1,
  kl 48 54 [(.t 47)],
  mt 46 48,
  A1 49 (.ext (.t 46) 0),
  A1 50 (.ext (.t 46) 1),
  A1 9 (.alloc (.ar 32 (.int .u8))),
  A0 (.store 32 (.t 9) (.t 49)),
  mt 10 50]
 (sr [mt 51 2,
  A1 52 (.eq false true (.iface [74]) (.t 51) (.c .nili)),
  mt 53 52,
  A2 54 53 true (.mv (.t 6)),
  A2 55 53 true (.eq false true (.iface [74]) (.t 54) (.c .nili)),
  A1 56 (.pick (.t 53) (.t 55) (.c (.bool false))),
  mt 57 56,
  A2 58 57 true (.mv (.t 8)),
  A2 59 57 true (.eq false true (.iface [74]) (.t 58) (.c .nili)),
  A1 60 (.pick (.t 57) (.t 59) (.c (.bool false))),
  mt 61 60,
  A2 62 61 true (.mv (.t 10)),
  A2 63 61 true (.eq false true (.iface [74]) (.t 62) (.c .nili)),
  A1 64 (.pick (.t 61) (.t 63) (.c (.bool false))),
  mt 65 64,
  A2 66 65 true (.fadr 51 (.t 4)),
  A2 67 65 true (.load false 1 (.t 66)),
  A2 68 65 true (.len 0 (.t 67)),
  A2 69 65 true (.ari .eql (.t 68) (cI 1)),
  A1 70 (.pick (.t 65) (.t 69) (.c (.bool false))),
  mt 71 70,
  A2 72 71 true (.load true 32 (.t 7)),
  A2 73 71 true (.load true 32 (.t 9)),
  A2 74 71 true (.eq false false (.ar 32 1 false .int) (.t 72) (.t 73)),
  A1 75 (.pick (.t 71) (.t 74) (.c (.bool false))),
  mt 76 75,
  A2 77 76 true (.load true 32 (.t 7)),
  A2 78 76 true (.load true 32 (.t 5)),
  A2 79 76 true (.eq true false (.ar 32 1 false .int) (.t 77) (.t 78)),
  A1 80 (.pick (.t 76) (.t 79) (.c (.bool false))),
  mt 0 80]
 (.ret)))))))))))
def f96:LF:=⟨c96,0,0,81,[.tmp 0]⟩
def D2:Mc:=⟨fun _=>0#64,fun _=>0#64,0#64,false,0#64⟩
def LE:Mc:=⟨fun _=>0#64,fun _=>0#64,0#64,true,0#64⟩
theorem Anu:isI 0#64=true:=Ak
theorem Ale:AT 0#64=0:=Ak
theorem nx0 (pres:List (Dg × Pr)):nx (Fc pres) D2.h ⟨D2.f,[],Pr.zero⟩=(LE.h,none,⟨D2.f,[Bf D2.f 0#64],Pr.zero⟩):=by
 show Of (Fc pres) D2.h 0#64 ⟨D2.f,[Bf D2.f 0#64],Pr.zero⟩=_
 rw [Of,if_neg (by rw [Anu];simp),if_pos Ale]
 rfl
theorem Yj (pres:List (Dg × Pr)):Ei pres D2=(none,[Bf D2.f 0#64],Pr.zero):=by
 rw [Ei,if_neg (by simp [D2]),if_neg Ak,nx0]
theorem Ag7 (pres:List (Dg × Pr)):Tr pres D2=LE:=by
 rw [Tr,if_neg (by simp [D2]),if_neg Ak,nx0];rfl
theorem Kc:∀ n,JT (FK n).pres
 | 0=>fun h p hk=>by simp [FK,Dv] at hk
 | n + 1=>by rw [FK];exact QY _ _ (Kc n)
structure OkF15 (M:Seat):Prop where
 o:OkOs M
 k96:Al M 96 f96=true
theorem HW {M:Seat} (ok:OkF15 M) (hne:¬ LE.com=D2.com):Af M 96 [] [] 0 (Q3 (.bool true) [] 0):=by
 have hP:=Mz ok.o D2 (FK 16).pres 0
 rw [Yj] at hP
 have hV:=OT ok.o D2.com (Bm D2.f 13 0) D2.h [Bf D2.f 0#64] Pr.zero
 have hv:=Ajg (FK 16).pres (Kc 16) D2 (by rw [Yj])
 rw [Yj,Ag7] at hv
 rw [hv] at hV
 have hS:=Gu ok.o.q.ok.toOkV D2.f D2.g D2.pc D2.xt Ak 0#64 rfl Ale Ak
 have hO0:=Sv ok.o.q.okA ok.o.d D2.f D2.g D2.pc false D2.xt
 have hO1:=Sv ok.o.q.okA ok.o.d LE.f LE.g LE.pc true LE.xt
 have e0:Yo D2.f D2.g D2.pc false D2.xt=D2.com:=rfl
 have e1:Yo LE.f LE.g LE.pc true LE.xt=LE.com:=rfl
 rw [e0] at hO0
 rw [e1] at hO1
 have hpv:TO D2 none [Bf D2.f 0#64] Pr.zero=Ao (Vf (Bm D2.f 13 0) D2.h [Bf D2.f 0#64] Pr.zero) .nili:=rfl
 have hm0:D2.v=mach (fun _=>0#64) (fun _=>0#64) 0#64 false 0#64:=rfl
 have hm1:LE.v=mach (fun _=>0#64) (fun _=>0#64) 0#64 true 0#64:=rfl
 dsimp only at hP
 rw [hpv,hm0] at hP
 have hS:Af M 70 [.ptr 0 [],.ptr 1 []] [(0,mach (fun _=>0#64) (fun _=>0#64) 0#64 false 0#64)] 2 (Q3 .nili [(0,mach (fun _=>0#64) (fun _=>0#64) 0#64 true 0#64)] 2):=hS
 have hO0:Af M 54 [.imm (mach (fun _=>0#64) (fun _=>0#64) 0#64 false 0#64)] [] 0 (Q3 (Ao (dg D2.com) .nili) [] 0):=hO0
 have hO1:Af M 54 [.imm (mach (fun _=>0#64) (fun _=>0#64) 0#64 true 0#64)] [] 0 (Q3 (Ao (dg LE.com) .nili) [] 0):=hO1
 have hlen:([Bf D2.f 0#64]:List Pf).length=1:=rfl
 generalize D2.com=C0 at *
 generalize LE.com=C1 at *
 generalize Bm D2.f 13 0=R0 at *
 generalize hL:[Bf D2.f 0#64]=L0 at *
 have hsp:Vf R0 D2.h L0 Pr.zero = .st 116 (.fcons 0 (dg R0) (.fcons 32 (.st 19 (.fcons 0 (.ar 1 16 (fun _=>W 0#64)) (.fcons 16 (W 0#64) (.fcons 17 (.bool false) (.fcons 18 (W 0#64) .fnil))))) (.fcons 51 (.lst 2 L0.length (Dz L0)) (.fcons 52 (At Pr.zero) .fnil)))):=rfl
 rw [hsp,hlen] at hP hV
 clear hsp hpv hv hL hlen e0 e1
 refine Ac ok.k96 rfl fun x hx=>?_
 refine es 2000 ?_;(simp only [f96,c96,LZ,seval])
 have zz:=@mach.eq_1;refine El (Me ok.o.q.okA) ?_
 (simp only [Cb,Bp,seval])
 have zz:=aq5 @AF.eq_1 Nw @Bo @BV @C6;refine El (PC ok.o.q.okA ok.o.q.ok.toOkS) ?_
 (simp only [AF,Nw,AR,Bp,BA,seval])
 have zz:=aq3 @EA.eq_1 @mach.eq_1 @C6;refine IJ [16,112,113,114,116] [16,112,113] (hP) ?_
 (simp only [LW,EA,Bp,seval])
 have zz:=aq2 @mach.eq_1 @dg.eq_1;refine CI (hO0) ?_
 (simp only [Cb,seval])
 have zz:=aq3 @dg.eq_1 Mt @Bz;refine CI (hV) ?_
 (simp only [Cb,Bz,seval])
 have zz:=@mach.eq_1;refine JO [16,112] [16] (hS) ?_
 (simp only [Bp,LZ,seval])
 have zz:=aq2 @mach.eq_1 @dg.eq_1;refine CI (hO1) ?_
 (simp only [Gw,hne,seval])
 exact Aq.mkZ hx [] ⟨rfl,rfl,rfl⟩
def c25:LC:=(sr [A1 8 (.mv (.c (.bool false)))]
 (sr [mt 23 0,
  mt 24 1,
  mt 25 2,
  mt 26 3,
  kl 27 95 [(.t 23),(.t 24),(.t 25),(.t 26)],
  mt 22 27,
  A1 28 (.ext (.t 22) 0),
  A1 29 (.ext (.t 22) 1),
  A1 30 (.ext (.t 22) 2),
  mt 9 28,
  mt 10 29,
  mt 11 30]
 (.seq (sr [mt 31 9,
  A1 32 (.eq false true .ptr (.t 31) (.c .nilp)),
  mt 33 32,
  ⟨(some 34),.call 96 [],(some (33,false))⟩,
  A2 35 33 false (.un .not (.t 34)),
  A1 36 (.pick (.t 33) (.c (.bool true)) (.t 35))]
 (.cond (.t 36) (sr [A1 8 (.mv (.c (.bool false)))]
 (.ret)) (.skip)))
 (.seq (.regd [⟨3,0,mt 40 10⟩,
  ⟨4,1,kl 41 72 [(.t 40)]⟩,
  ⟨0,0,mt 37 9⟩,
  ⟨1,4,A1 38 (.nilc (.t 37))⟩,
  ⟨2,12,A1 39 (.load true 8211 (.t 38))⟩,
  ⟨5,0,A1 12 (.alloc (.st (.cons (.ar 8192 (.int .u64)) (.cons (.ar 16 (.int .u64)) (.cons (.int .u64) (.cons .bool (.cons (.int .u64) .nil)))))))⟩,
  ⟨6,63,A0 (.store 8211 (.t 12) (.t 39))⟩,
  ⟨7,127,mt 13 41⟩])
 (sr [mt 43 9,
  mt 44 10,
  kl 45 97 [(.t 43),(.t 44)],
  mt 42 45,
  A1 46 (.ext (.t 42) 0),
  A1 47 (.ext (.t 42) 1),
  A1 14 (.alloc (.st (.cons (.ar 32 (.int .u8)) (.cons (.st (.cons (.ar 16 (.int .u64)) (.cons (.int .u64) (.cons .bool (.cons (.int .u64) .nil))))) (.cons .slice (.cons (.ar 64 (.int .u8)) .nil)))))),
  A0 (.store 116 (.t 14) (.t 46)),
  mt 15 47]
 (sr [mt 49 9,
  kl 50 54 [(.t 49)],
  mt 48 50,
  A1 51 (.ext (.t 48) 0),
  A1 52 (.ext (.t 48) 1),
  A1 16 (.alloc (.ar 32 (.int .u8))),
  A0 (.store 32 (.t 16) (.t 51)),
  mt 17 52]
 (.seq (.seq (.regd [⟨0,0,mt 53 17⟩,
  ⟨1,1,A1 54 (.eq true true (.iface [74]) (.t 53) (.c .nili))⟩,
  ⟨2,3,mt 55 54⟩,
  ⟨3,7,A2 56 55 false (.mv (.t 9))⟩,
  ⟨4,15,A2 57 55 false (.nilc (.t 56))⟩,
  ⟨5,31,A2 58 55 false (.load true 8211 (.t 57))⟩,
  ⟨6,7,A2 59 55 false (.load true 8211 (.t 12))⟩,
  ⟨7,127,A2 60 55 false (.eq true false (.st (.cons 0 8192 true (.ar 8192 1 false .int) (.cons 8192 16 true (.ar 16 1 false .int) (.cons 8208 1 false .int (.cons 8209 1 false .bool (.cons 8210 1 false .int .nil)))))) (.t 58) (.t 59))⟩,
  ⟨8,255,A1 61 (.pick (.t 55) (.c (.bool true)) (.t 60))⟩,
  ⟨9,511,mt 62 61⟩,
  ⟨10,1023,A2 63 62 false (.mv (.t 10))⟩,
  ⟨11,2047,⟨(some 64),.call 72 [(.t 63)],(some (62,false))⟩⟩,
  ⟨12,1023,A2 65 62 false (.mv (.t 13))⟩,
  ⟨13,8191,A2 66 62 false (.ari .neq (.t 64) (.t 65))⟩,
  ⟨14,16383,A1 67 (.pick (.t 62) (.c (.bool true)) (.t 66))⟩])
 (.cond (.t 67) (sr [A1 8 (.mv (.c (.bool false)))]
 (.ret)) (.skip)))
 (sr [mt 69 11,
  kl 70 107 [(.t 69)],
  mt 68 70,
  A1 71 (.ext (.t 68) 0),
  A1 72 (.ext (.t 68) 1),
  mt 18 71,
  mt 19 72]
 (sr [mt 73 9,
  mt 74 10,
  kl 75 70 [(.t 73),(.t 74)]]
 (.seq (sr [mt 76 15,
  A1 77 (.eq true true (.iface [74]) (.t 76) (.c .nili))]
 (.cond (.t 77) (sr [mt 78 15,
  A1 79 (.mkif 74 (cI 14)),
  kl 80 63 [(.t 78),(.t 79)],
  mt 81 80,
  A2 82 81 true (.mv (.t 9)),
  A2 83 81 true (.nilc (.t 82)),
  A2 84 81 true (.fadr 8209 (.t 83)),
  A2 85 81 true (.load false 1 (.t 84)),
  A1 86 (.pick (.t 81) (.t 85) (.c (.bool false))),
  mt 87 86,
  A2 88 87 true (.mv (.t 9)),
  A2 89 87 true (.nilc (.t 88)),
  A2 90 87 true (.fadr 8210 (.t 89)),
  A2 91 87 true (.load false 1 (.t 90)),
  A2 92 87 true (.ari .eql (.t 91) (cU 18446744073709551615)),
  A1 93 (.pick (.t 87) (.t 92) (.c (.bool false))),
  mt 8 93]
 (.ret)) (.skip)))
 (.seq (.seq (.regd [⟨0,0,A1 94 (.fadr 51 (.t 14))⟩,
  ⟨1,1,A1 95 (.load false 1 (.t 94))⟩,
  ⟨2,3,A1 96 (.len 0 (.t 95))⟩,
  ⟨3,0,mt 97 18⟩,
  ⟨4,8,A1 98 (.len 0 (.t 97))⟩,
  ⟨5,31,A1 99 (.ari .neq (.t 96) (.t 98))⟩,
  ⟨6,63,mt 100 99⟩,
  ⟨7,127,A2 101 100 false (.fadr 51 (.t 14))⟩,
  ⟨8,255,A2 102 100 false (.load false 1 (.t 101))⟩,
  ⟨9,511,A2 103 100 false (.len 0 (.t 102))⟩,
  ⟨10,1023,A2 104 100 false (.ari .gtr (.t 103) (cI 0))⟩,
  ⟨11,2047,A2 105 100 false (.mv (.t 104))⟩,
  ⟨12,4095,A2 106 105 true (.fadr 51 (.t 14))⟩,
  ⟨13,8191,A2 107 105 true (.load false 1 (.t 106))⟩,
  ⟨14,16383,A2 108 105 true (.isl 2 (.t 107) (cI 0))⟩,
  ⟨15,32767,A2 109 105 true (.fadr 0 (.t 108))⟩,
  ⟨16,65535,A2 110 105 true (.load false 1 (.t 109))⟩,
  ⟨17,4095,A2 111 105 true (.mv (.t 11))⟩,
  ⟨18,135167,A2 112 105 true (.nilc (.t 111))⟩,
  ⟨19,397311,A2 113 105 true (.fadr 0 (.t 112))⟩,
  ⟨20,921599,A2 114 105 true (.load false 1 (.t 113))⟩,
  ⟨21,4095,A2 115 105 true (.mv (.t 18))⟩,
  ⟨22,2101247,A2 116 105 true (.isl 1 (.t 115) (cI 0))⟩,
  ⟨23,6295551,A2 117 105 true (.load false 1 (.t 116))⟩,
  ⟨24,16650239,A2 118 105 true (.isl 1 (.t 114) (.t 117))⟩,
  ⟨25,33427455,A2 119 105 true (.load false 1 (.t 118))⟩,
  ⟨26,67108863,A2 120 105 true (.ari .neq (.t 110) (.t 119))⟩,
  ⟨27,134217727,A2 121 100 false (.pick (.t 105) (.t 120) (.c (.bool false)))⟩,
  ⟨28,268435455,A1 122 (.pick (.t 100) (.c (.bool true)) (.t 121))⟩])
 (.cond (.t 122) (sr [A1 8 (.mv (.c (.bool false)))]
 (.ret)) (.skip)))
 (sr [A1 124 (.load true 32 (.t 16)),
  A1 125 (.load true 116 (.t 14)),
  kl 126 98 [(.t 124),(.t 125)],
  mt 123 126,
  A1 127 (.ext (.t 123) 0),
  A1 128 (.ext (.t 123) 1),
  A1 20 (.alloc (.ar 32 (.int .u8))),
  A0 (.store 32 (.t 20) (.t 127)),
  mt 15 128]
 (sr [mt 130 9,
  kl 131 54 [(.t 130)],
  mt 129 131,
  A1 132 (.ext (.t 129) 0),
  A1 133 (.ext (.t 129) 1),
  A1 21 (.alloc (.ar 32 (.int .u8))),
  A0 (.store 32 (.t 21) (.t 132)),
  mt 17 133]
 (sr [mt 134 15,
  A1 135 (.eq false true (.iface [74]) (.t 134) (.c .nili)),
  mt 136 135,
  A2 137 136 true (.mv (.t 17)),
  A2 138 136 true (.eq false true (.iface [74]) (.t 137) (.c .nili)),
  A1 139 (.pick (.t 136) (.t 138) (.c (.bool false))),
  mt 140 139,
  A2 141 140 true (.load true 32 (.t 20)),
  A2 142 140 true (.load true 32 (.t 21)),
  A2 143 140 true (.eq false false (.ar 32 1 false .int) (.t 141) (.t 142)),
  A1 144 (.pick (.t 140) (.t 143) (.c (.bool false))),
  mt 8 144]
 (.ret)))))))))))))))
def f25:LF:=⟨c25,4,0,145,[.tmp 8]⟩
structure OkSw (M:Seat):Prop where
 at_:OkAt M
 f:OkF15 M
 ac:OkAc M
 k25:Al M 25 f25=true
 k72:Al M 72 f72=true
 is:∀ a b:Int,Af M 63 [.ifc 74 (.int .i64 a),.ifc 74 (.int .i64 b)] [] 0 (Q3 (.bool (decide (a=b))) [] 0)
theorem Aqu (f g:Nat→BitVec 64) (pc:BitVec 64) (b:Bool) (xt:BitVec 64):AH false (ES.st (ES.cons 0 8192 true (ES.ar 8192 1 false ES.int) (ES.cons 8192 16 true (ES.ar 16 1 false ES.int) (ES.cons 8208 1 false ES.int (ES.cons 8209 1 false ES.bool (ES.cons 8210 1 false ES.int ES.nil)))))) (.st 8211 (.fcons 0 (.ar 1 8192 fun j=>W (f j)) (.fcons 8192 (.ar 1 16 fun j=>W (g j)) (.fcons 8208 (W pc) (.fcons 8209 (.bool b) (.fcons 8210 (W xt) .fnil)))))) (.st 8211 (.fcons 0 (.ar 1 8192 fun j=>W (f j)) (.fcons 8192 (.ar 1 16 fun j=>W (g j)) (.fcons 8208 (W pc) (.fcons 8209 (.bool b) (.fcons 8210 (W xt) .fnil))))))=True:=by
 simp [AH,W,V.fget,V.fhas]
 refine ⟨⟨⟨rfl,rfl,rfl⟩,fun _ _=>rfl⟩,⟨⟨rfl,rfl,rfl⟩,fun _ _=>rfl⟩,⟨rfl,rfl,rfl⟩,⟨rfl,rfl,rfl⟩,rfl,rfl,rfl⟩
theorem Ara (f g:Nat→BitVec 64) (pc:BitVec 64) (b:Bool) (xt:BitVec 64):AN (ES.st (ES.cons 0 8192 true (ES.ar 8192 1 false ES.int) (ES.cons 8192 16 true (ES.ar 16 1 false ES.int) (ES.cons 8208 1 false ES.int (ES.cons 8209 1 false ES.bool (ES.cons 8210 1 false ES.int ES.nil)))))) (.st 8211 (.fcons 0 (.ar 1 8192 fun j=>W (f j)) (.fcons 8192 (.ar 1 16 fun j=>W (g j)) (.fcons 8208 (W pc) (.fcons 8209 (.bool b) (.fcons 8210 (W xt) .fnil)))))) (.st 8211 (.fcons 0 (.ar 1 8192 fun j=>W (f j)) (.fcons 8192 (.ar 1 16 fun j=>W (g j)) (.fcons 8208 (W pc) (.fcons 8209 (.bool b) (.fcons 8210 (W xt) .fnil))))))=true:=by
 simp [AN,W,V.fget,V.fhas]
theorem Aq0 (pres:List (Dg × Pr)) (h:Hd) (s:Ps) (to:BitVec 64) (t:Nat) (p:Nat→BitVec 8) (n:Nat) (hw:YN n s):(GL (Fc pres) h s to t p).2.1=none:=by
 have:=Ade pres to (Vh p) t 0 s n hw
 unfold GL
 generalize Ph (Fc pres) to (Vh p) t 0 s=R at *
 obtain ⟨e,s'⟩:=R
 obtain ⟨rfl,h3⟩:=this
 rfl
theorem Arj (pres:List (Dg × Pr)) (op:Nat) (h:Hd) (s:Ps) (a b:BitVec 64) (hw:YN 1 s) (ho:op=34 ∨ op=35):(MX (Fc pres) op h s a b).2.1=none ∨ (MX (Fc pres) op h s a b).2.1=some 14:=by
 rcases ho with rfl | rfl
 ·unfold MX
  simp only [show ¬ (34:Nat)=35 by decide,CD]
  by_cases hc:(wi a 8#64 && wi b 4#64)=false
  ·rw [if_pos hc];exact .inl rfl
  ·rw [if_neg hc]
   have:=Y4 pres a 8 0 s [] 1 hw
   generalize Jy (Fc pres) a 8 0 s []=R at *
   obtain ⟨e,s',l⟩:=R
   obtain ⟨rfl,h3⟩:=this
   exact .inl (Aq0 pres h s' b 4 _ 9 h3)
 ·unfold MX
  simp only [show ¬ (35:Nat)=34 by decide,CD]
  by_cases hc:(wi a 4#64 && wi b 8#64)=false
  ·rw [if_pos hc];exact .inl rfl
  ·rw [if_neg hc]
   have:=Y4 pres a 4 0 s [] 1 hw
   generalize Jy (Fc pres) a 4 0 s []=R at *
   obtain ⟨e,s',l⟩:=R
   obtain ⟨rfl,h3⟩:=this
   dsimp only at h3 ⊢
   unfold QC
   cases hl:Dv (Dg.mk' (CS l)) pres with
   | none =>
     have hp:(Fc pres).pi s' (Dg.mk' (CS l))=(Pr.zero,some 14,⟨s'.f,s'.l,Pr.zero⟩):=by
      show OP pres s' _=_
      unfold OP;rw [hl]
     rw [hp]
     exact .inr rfl
   | some p =>
     have hp:(Fc pres).pi s' (Dg.mk' (CS l))=(p,none,⟨s'.f,s'.l,p⟩):=by
      show OP pres s' _=_
      unfold OP;rw [hl]
     rw [hp]
     exact .inl (Aq0 pres h ⟨s'.f,s'.l,p⟩ b 8 p.at 5 h3)
theorem Ark (pres:List (Dg × Pr)) (h:Hd) (w:BitVec 64) (s:Ps) (hw:YN 1 s):(Of (Fc pres) h w s).2.1=none ∨ (Of (Fc pres) h w s).2.1=some 14:=by
 by_cases q0:isI w=false
 ·rw [Of,if_pos q0];exact .inl rfl
 obtain ⟨h35,-⟩:=(Nm w).1 (by simpa using q0)
 rw [Of,if_neg q0]
 by_cases q1:AT w=0
 ·rw [if_pos q1];exact .inl rfl
 rw [if_neg q1]
 by_cases q2:AT w < 26
 ·rw [if_pos q2];exact .inl rfl
 rw [if_neg q2]
 by_cases q3:AT w=26
 ·rw [if_pos q3];exact .inl rfl
 rw [if_neg q3]
 by_cases q4:AT w=27 ∨ AT w=28
 ·rw [if_pos q4]
  by_cases hwh:8192#64≤h.g (pF w 48) + BitVec.ofInt 64 (pN w)
  ·rw [if_pos hwh];exact .inl rfl
  ·rw [if_neg hwh]
   by_cases q5:AT w=27
   ·rw [if_pos q5];exact .inl rfl
   ·rw [if_neg q5];exact .inl rfl
 rw [if_neg q4]
 by_cases q7:AT w < 34
 ·rw [if_pos q7];exact .inl rfl
 rw [if_neg q7]
 exact Arj pres (AT w) h s _ _ hw Aa
theorem Ari (pres:List (Dg × Pr)) (m:Mc) (c:Int) (he:(Ei pres m).1=some c):c=14∧Tr pres m=⟨m.f,m.g,m.pc,true,Kq⟩:=by
 obtain ⟨f,g,pc,hl,xt⟩:=m
 unfold Ei at he
 cases hl with
 | true=>simp at he
 | false =>
   dsimp only [Mc.h] at he
   simp only [TJ] at he
   by_cases hpc:8192#64≤pc
   ·simp [hpc] at he
   ·simp only [hpc,if_false] at he
    have e:nx (Fc pres) ⟨g,pc,false,xt⟩ ⟨f,[],Pr.zero⟩=Of (Fc pres) ⟨g,pc,false,xt⟩ (f pc.toNat) ⟨f,[Bf f pc],Pr.zero⟩:=rfl
    have h14:=Ark pres ⟨g,pc,false,xt⟩ (f pc.toNat) ⟨f,[Bf f pc],Pr.zero⟩ ⟨rfl,fun p hp=>by rw [List.mem_singleton.1 hp];exact EW _ _⟩
    rw [← e,he] at h14
    refine ⟨by rcases h14 with h | h <;> cases h;rfl,?_⟩
    rw [Tr,if_neg Bu,if_neg hpc,An8]
    dsimp only [Mc.h]
    rw [he]
theorem Aqe {M:Seat} (ok:OkSw M) (hne:¬ LE.com=D2.com) (v rv pv:V) (hvv:∀ H m z,Bd H m z v v) (hrr:∀ H m z,Bd H m z rv rv) (hpp:∀ H m z,Bd H m z pv pv) (k:Int) (s:SM) (t:RD) (hm:s.m=t.m) (hpk:JT s.w.pres) (s':SM) (hst:S7 M s s') (hm':s'.m=Tr s.w.pres s.m)
 (hA:Af M 95 [v,rv,pv,.int .i64 k] [] 0 (Q3 (BD (.ptr 5 []) (.ptr 0 []) (.ptr 7 [])) (atH s t.m) 14)) :
 Af M 25 [v,rv,pv,.int .i64 k] [] 0 (Q3 (.bool true) [] 0):=by
 have hF:=HW ok.f hne
 have hFv:∀ m:Mc,m.v=mach m.f m.g m.pc m.hl m.xt:=fun _=>rfl
 have hO:=Sv ok.f.o.q.okA ok.f.o.d s.m.f s.m.g s.m.pc s.m.hl s.m.xt
 have hLN:=Aqq ok.at_.t.ok ok.k72 s.w
 have hLS:=Aqp ok.at_.t.ok ok.k72 s.w s.n
 have hPN:=Mz ok.f.o s.m s.w.pres 0
 have hPS:=UY ok.f.o s.m s.w.pres s.n
 have hAc:=Arq ok.ac t.m
 rw [← hm] at hAc hA
 have he0:=Arh s.w.pres s.m
 have he1:=Ari s.w.pres s.m
 have hv:=Ajg s.w.pres hpk s.m
 have hV:=fun C=>OT ok.f.o C (Bm s.m.f 13 0) s.m.h (Ei s.w.pres s.m).2.1 (Ei s.w.pres s.m).2.2
 rw [← hm'] at hv
 simp only [← hm'] at he1
 clear hm' hpk
 generalize Ei s.w.pres s.m=R at *
 obtain ⟨e,L,P⟩:=R
 obtain ⟨w,sl,nn,qq,⟨f,g,pc,hl,xt⟩⟩:=s
 clear hm
 dsimp only at hv hPN hPS hV he0 he1
 generalize hC:(⟨f,g,pc,hl,xt⟩:Mc).com=C at *
 have hO:Af M 54 [.imm (mach f g pc hl xt)] [] 0 (Q3 (Ao (dg C) .nili) [] 0):=by rw [← hC];exact hO
 simp only [Vf,Mc.h,Hd.v,AU] at hV
 dsimp only at hLN hLS hAc
 rw [atH] at hA
 refine Ac ok.k25 rfl fun x hx=>?_
 by_cases hz:nn=0
 all_goals
  first | rw [show ZJ ⟨w,sl,nn,qq,⟨f,g,pc,hl,xt⟩⟩=Nh ⟨w,sl,nn,qq,⟨f,g,pc,hl,xt⟩⟩ from if_pos hz] at hA | rw [show ZJ ⟨w,sl,nn,qq,⟨f,g,pc,hl,xt⟩⟩=Sh 6 ⟨w,sl,nn,qq,⟨f,g,pc,hl,xt⟩⟩ from if_neg hz] at hA
  refine es 2000 ?_;(simp only [f25,c25,LZ,seval,reduceCtorEq])
  have zz:=aq7 SB hFv @BD.eq_1 GM hvv hrr hpp;refine El (hA) ?_
  (simp only [Qg,hFv,dm,Fj,BD,AR,LM,seval,reduceCtorEq])
  refine Ah (hF) ?_
  (simp only [Qg,hFv,dm,Fj,BD,LM,seval,reduceCtorEq])
  first
  | (have zz:=aq2 @QI.eq_1 @C6;refine onY [80,81,82,83,84] [80,81] (hLN) ?_)
  | (have zz:=aq2 @QI.eq_1 @C6;refine onY [80,81,82,83,84,86] [80,81] (hLS) ?_)
  (simp only [QI,hFv,BA,seval,reduceCtorEq])
  cases e with
  | some e =>
    simp only [Lbm] at hPN hPS
    first
    | (have zz:=aq6 @EA.eq_1 hFv @mach.eq_1 @Ao.eq_1 Mt @Av;refine IJ [85,80,81,82,84] [85,80,81] (hPN) ?_)
    | (have zz:=aq6 @EA.eq_1 hFv @mach.eq_1 @Ao.eq_1 Mt @Av;refine IJ [85,80,81,82,84,86] [85,80,81] (hPS) ?_)
    (simp only [EA,hFv,mach,LW,Av,seval,reduceCtorEq])
    have zz:=aq2 @mach.eq_1 @dg.eq_1;refine CI (hO) ?_
    (simp only [Cb,Aqu,Ara,seval,reduceCtorEq])
    repeat refine sd ?_
    first
    | (have zz:=aq2 @QI.eq_1 @C6;refine onY [80,81,82,83,84] [80,81] (hLN) ?_)
    | (have zz:=aq2 @QI.eq_1 @C6;refine onY [80,81,82,83,84,86] [80,81] (hLS) ?_)
    (simp only [QI,hFv,BA,seval,reduceCtorEq])
    obtain ⟨h14,hs14⟩:=he1 e rfl
    have e2:s'.m.hl=true:=by rw [hs14]
    have e3:s'.m.xt=18446744073709551615#64:=by rw [hs14]
    clear hs14 he1 he0 hv hPN hPS
    subst h14
    rcases hAc with ⟨hN0,hAc⟩ | ⟨hN0,c,Pl,hP0,hp,hAc⟩
    all_goals rcases hst.1 with ⟨h,hw⟩ | ⟨h0,h1',h6⟩ | ⟨h0,h1',h62⟩ | ⟨h0,h1',h6⟩ | ⟨h0,h1',h62⟩
    all_goals try (dsimp only at h0;exact absurd h0 Aa)
    all_goals
     have zz:=aq5 @Fx.eq_1 @Cc.eq_1 @Ba.eq_1 @Ao.eq_1 Vl;refine Fl [87,88,89] (hAc) ?_
     (simp only [Fx,Cc,Ba,Cb,Vl,seval,reduceCtorEq])
     first
     | (first | have hm := h6 | have hm := h62
        simp only [Nh,Sh,hFv] at hm
        first
        | (have hm : Af M 70 [.ptr 5 [], .ptr 0 []] _ 6 _ := hm
           (have zz:=aq3 @Qg hFv GM;refine Fl [80,81,82,83,84,85] (hm) ?_))
        | (have hm : Af M 70 [.ptr 5 [], .ptr 0 []] _ 7 _ := hm
           (have zz:=aq3 @Qg hFv GM;refine Fl [80,81,82,83,84,85,86] (hm) ?_)))
     | (have hm : Af M 70 [.ptr 0 [], .ptr 1 []] [(0, (⟨f, g, pc, hl, xt⟩ : Mc).v)] 2 _ := h
        rw [hFv] at hm
        clear hw
        (have zz:=aq2 @mach.eq_1 hFv;refine JO [85,80] [85] (hm) ?_))
     (simp only [Qg,hFv,e2,e3,AR,BA,seval,reduceCtorEq])
     refine Ah (ok.is 14 14) ?_
     (simp only [e2,e3,decide_true,LZ,seval,reduceCtorEq])
     repeat refine sd ?_
     exact Aq.mkZ hx [] ⟨rfl,rfl,rfl⟩
  | none =>
    simp only [Lbm] at hPN hPS
    have hv:vfy C (Bm f 13 0) ⟨g,pc,hl,xt⟩ L P=(s'.m.com,none):=hv rfl
    obtain ⟨hL,hL0⟩:=he0 rfl
    rw [← hL] at hAc hL0
    have hV1:=hV C
    rw [hv] at hV1
    have hO':Af M 54 [.imm (mach s'.m.f s'.m.g s'.m.pc s'.m.hl s'.m.xt)] [] 0 (Q3 (Ao (dg s'.m.com) .nili) [] 0):=Sv ok.f.o.q.okA ok.f.o.d s'.m.f s'.m.g s'.m.pc s'.m.hl s'.m.xt
    clear hV hv he0 he1
    generalize Bm f 13 0=R0 at *
    first
    | (have zz:=aq6 @EA.eq_1 hFv @mach.eq_1 @Ao.eq_1 Mt @Bz;refine IJ [85,80,81,82,84] [85,80,81] (hPN) ?_)
    | (have zz:=aq6 @EA.eq_1 hFv @mach.eq_1 @Ao.eq_1 Mt @Bz;refine IJ [85,80,81,82,84,86] [85,80,81] (hPS) ?_)
    (simp only [EA,hFv,mach,LW,Bz,seval,reduceCtorEq])
    have zz:=aq2 @mach.eq_1 @dg.eq_1;refine CI (hO) ?_
    (simp only [Cb,Aqu,Ara,seval,reduceCtorEq])
    repeat refine sd ?_
    first
    | (have zz:=aq2 @QI.eq_1 @C6;refine onY [80,81,82,83,84] [80,81] (hLN) ?_)
    | (have zz:=aq2 @QI.eq_1 @C6;refine onY [80,81,82,83,84,86] [80,81] (hLS) ?_)
    (simp only [QI,hFv,BA,seval,reduceCtorEq])
    clear hPN hPS
    rcases hAc with ⟨hN0,hAc⟩ | ⟨hN0,c,Pl,hP0,hp,hAc⟩
    all_goals rcases hst.1 with ⟨h,hw⟩ | ⟨h0,h1',h6⟩ | ⟨h0,h1',h62⟩ | ⟨h0,h1',h6⟩ | ⟨h0,h1',h62⟩
    all_goals try (dsimp only at h0;exact absurd h0 Aa)
    all_goals
     have zz:=aq5 @Fx.eq_1 @Cc.eq_1 @Ba.eq_1 @Ao.eq_1 Vl;refine Fl [87,88,89] (hAc) ?_
     (simp only [Fx,Cc,Ba,Cb,Vl,seval,reduceCtorEq])
     first
     | (first | have hm := h6 | have hm := h62
        simp only [Nh,Sh,hFv] at hm
        first
        | (have hm : Af M 70 [.ptr 5 [], .ptr 0 []] _ 6 _ := hm
           (have zz:=aq3 @Qg hFv GM;refine Fl [80,81,82,83,84,85] (hm) ?_))
        | (have hm : Af M 70 [.ptr 5 [], .ptr 0 []] _ 7 _ := hm
           (have zz:=aq3 @Qg hFv GM;refine Fl [80,81,82,83,84,85,86] (hm) ?_)))
     | (have hm : Af M 70 [.ptr 0 [], .ptr 1 []] [(0, (⟨f, g, pc, hl, xt⟩ : Mc).v)] 2 _ := h
        rw [hFv] at hm
        clear hw
        (have zz:=aq2 @mach.eq_1 hFv;refine JO [85,80] [85] (hm) ?_))
     first
     | (have q0 : ((L.length : Int) = 0) = True := eq_true Aa
        have q1:(0 < (L.length:Int))=False:=eq_false Aa
        (simp only [Qg,hFv,Bz,AR,BA,q0,q1,seval,reduceCtorEq]))
     | (have q1 : (0 < (L.length : Int)) = True := eq_true Aa
        have q2:=hL0 hN0
        have q3:(0 < L.length)=True:=eq_true Aa
        obtain ⟨X,hX⟩:∃ X,Dz L 0 = .st 2 (.fcons 0 (W (f pc.toNat)) (.fcons 1 X .fnil)):=⟨_,by rw [Dz,Ir,q2]⟩
        (simp only [Qg,hFv,Bz,AR,BA,q1,q3,hX,hP0,seval,reduceCtorEq])
        repeat refine sd ?_)
     have zz:=aq3 @dg.eq_1 Mt @Bz;refine CI (hV1) ?_
     (simp only [LW,Bz,seval,reduceCtorEq])
     have zz:=aq2 @mach.eq_1 @dg.eq_1;refine CI (hO') ?_
     (simp only [Gw,seval,reduceCtorEq])
     repeat refine sd ?_
     exact Aq.mkZ hx [] ⟨rfl,rfl,rfl⟩
theorem Apv {M:Seat} (ok:OkSw M) (hne:¬ LE.com=D2.com) (l:List In) (v:V) (hv:Aer l v) (hl:l.length < 9223372036854775808) (rs:List (BitVec 64)) (rv:V) (hr:rv=Bn rs ∨ (rv = .nils∧rs=[])) (hrl:rs.length < 9223372036854775808) (np:Nat) (hnp:np < 9223372036854775808) (pf:Nat→Pr) (pv:V) (hpv:Ao9 np pf pv) (k:Int) :
 Af M 25 [v,rv,pv,.int .i64 k] [] 0 (Q3 (.bool true) [] 0):=by
 have hvv:∀ H m z,Bd H m z v v:=by
  intro H m z
  rcases hv with rfl | ⟨rfl,-⟩ <;> simp only [MK,LY,seval,reduceCtorEq]
 have hrr:∀ H m z,Bd H m z rv rv:=by
  intro H m z
  rcases hr with rfl | ⟨rfl,-⟩ <;> simp only [Bn,ws,LY,seval,reduceCtorEq]
 have hpp:∀ H m z,Bd H m z pv pv:=by
  intro H m z
  rcases hpv with rfl | ⟨rfl,-⟩ <;> simp only [CF,seval,reduceCtorEq]
 have hA:=Aqv ok.at_ l v hv hl rs rv hr hrl np hnp pf pv hpv k
 have h60:=RL k
 obtain ⟨a1,-,-,-,a2⟩:=Aqs ok.at_ l rs np pf (Ya k) Aa
 exact Aqe ok hne v rv pv hvv hrr hpp k _ _ a1.m a1.p _ a2.hs a2.x hA
theorem Gj:∀ h q,Bm (fun _=>0#64) h q=Am h
 | 0,q=>by simp only [Bm,show B5 0#64=Dg.zero from Sa,ite_self];rfl
 | h + 1,q=>by rw [Bm,Gj h,Gj h];rfl
theorem Y2 (w:Nat→BitVec 64) (hw:∀ j,j < 4→w j=0#64):Kb (AP w)=0:=by
 have h:Kb (AP w)=Cq 8 (fun _=>0) 32:=Ce 8 32 (fun k hk=>by
  rw [AP,Dg.at_mk' _ _ hk,A6,hw _ Aa]
  have:∀ k,k < 32→(V7 (0#64) (k % 8)).toNat=0:=Ak
  exact this k hk)
 rw [h];decide
theorem Ajx:Kb (AP (w4 0#64 1#64 0#64 0#64))=1 <<< 120:=by
 have h:Kb (AP (w4 0#64 1#64 0#64 0#64))=Cq 8 (fun k=>if k=15 then 1 else 0) 32:=Ce 8 32 (fun k hk=>by
  rw [AP,Dg.at_mk' _ _ hk]
  have:∀ k,k < 32→(A6 (w4 0#64 1#64 0#64 0#64) k).toNat=if k=15 then 1 else 0:=Ak
  exact this k hk)
 rw [h];decide
def Amv:Nat:=II (II 0 0) (II 0 0)
def ZX (x:Nat):Nat:=II (Hz 13) (II Amv x)
theorem Ai4:Kb D2.com=ZX 0:=by
 show Kb (B2 (Bm (fun _=>0#64) 13 0) (B2 (B2 (B2 (AP fun _=>0#64) (AP fun _=>0#64)) (B2 (AP fun _=>0#64) (AP fun _=>0#64))) (AP (w4 0#64 0#64 0#64 0#64))))=_
 rw [EO,Gj,KV,EO,EO,EO,Y2 _ (fun _ _=>rfl),Y2 _ Ak];rfl
theorem Ag6:Kb LE.com=ZX (1 <<< 120):=by
 show Kb (B2 (Bm (fun _=>0#64) 13 0) (B2 (B2 (B2 (AP fun _=>0#64) (AP fun _=>0#64)) (B2 (AP fun _=>0#64) (AP fun _=>0#64))) (AP (w4 0#64 1#64 0#64 0#64))))=_
 rw [EO,Gj,KV,EO,EO,EO,Y2 _ (fun _ _=>rfl),Ajx];rfl
theorem RG:Nat.beq (ZX (1 <<< 120)) (ZX 0)=false:=by kernel_rfl
theorem Agc:¬ LE.com=D2.com:=by
 intro h
 have h2:=RG
 rw [← Ag6,← Ai4,h,Nat.beq_refl] at h2
 cases h2
end Mv
