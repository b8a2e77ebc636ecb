/- A part. -/
import Derived.Test.YtlfkjfonpacelaaGreatDoorJO
import Derived.KernelRfl
set_option linter.all false
set_option maxRecDepth 20000
set_option maxHeartbeats 8000000
namespace Mv
open Go
theorem GV:∀ h q,Cd (fun _=>0#64) h q=A4 h
 | 0,q=>by simp only [Cd,show BN 0#64=Dg.zero from Ux,ite_self];rfl
 | h + 1,q=>by rw [Cd,GV h,GV h];rfl
theorem Abb (w:Nat→BitVec 64) (hw:∀ j,j < 4→w j=0#64):K1 (Bl w)=0:=by
 have h:K1 (Bl w)=CN 8 (fun _=>0) 32:=C8 8 32 (fun k hk=>by
  rw [Bl,Dg.at_mk' _ _ hk,Bo,hw _ Aa];have:∀ k,k < 32→(X5 (0#64) (k % 8)).toNat=0:=Al
  exact this k hk)
 rw [h];decide
theorem Asd:K1 (Bl (w4 0#64 1#64 0#64 0#64))=1 <<< 120:=by
 have h:K1 (Bl (w4 0#64 1#64 0#64 0#64))=CN 8 (fun k=>if k=15 then 1 else 0) 32:=C8 8 32 (fun k hk=>by
  rw [Bl,Dg.at_mk' _ _ hk];have:∀ k,k < 32→(Bo (w4 0#64 1#64 0#64 0#64) k).toNat=if k=15 then 1 else 0:=Al
  exact this k hk)
 rw [h];decide
def Avl:Nat:=J5 (J5 0 0) (J5 0 0)
def Aa6 (x:Nat):Nat:=J5 (Iy 13) (J5 Avl x)
theorem Anq:K1 BL.com=Aa6 0:=by
 show K1 (BP (Cd (fun _=>0#64) 13 0) (BP (BP (BP (Bl fun _=>0#64) (Bl fun _=>0#64)) (BP (Bl fun _=>0#64) (Bl fun _=>0#64))) (Bl (w4 0#64 0#64 0#64 0#64))))=_;rw [FN,GV,Mp,FN,FN,FN,Abb _ (fun _ _=>rfl),Abb _ Al];rfl
theorem ZQ:K1 Cb.com=Aa6 (1 <<< 120):=by
 show K1 (BP (Cd (fun _=>0#64) 13 0) (BP (BP (BP (Bl fun _=>0#64) (Bl fun _=>0#64)) (BP (Bl fun _=>0#64) (Bl fun _=>0#64))) (Bl (w4 0#64 1#64 0#64 0#64))))=_;rw [FN,GV,Mp,FN,FN,FN,Abb _ (fun _ _=>rfl),Asd];rfl
theorem SH:Nat.beq (Aa6 (1 <<< 120)) (Aa6 0)=false:=by kernel_rfl
theorem Aji:¬ Cb.com=BL.com:=by
 intro h;have h2:=SH;rw [← ZQ,← Anq,h,Nat.beq_refl] at h2;cases h2
def Aq3:LC:=(sr [A1 0 (.mv (.c (.bool false)))] (sr [kl 13 151 [(.c .nils)],mt 1 13] (sr [kl 14 156 [(cU 50)],mt 2 14] (.seq (sr [mt 15 1,A1 16 (.eq false true .ptr (.t 15) (.c .nilp)),mt 17 16,mg 18 17 false 2,A2 19 17 false (.eq false true .ptr (.t 18) (.c .nilp)),
  CQ 20 17 19] (.cond (.t 20) (sr [A1 0 (.mv (.c (.bool false)))] .ret) .skip)) (sr [mt 22 1,kl 23 68 [],kl 24 152 [(.t 22),(.t 23),(cI 1)],mt 21 24,ee 25 21 0,ee 26 21 1,mt 3 25,mt 4 26] (.seq (sr [mt 27 4,A1 28 (.eq true true (.iface [74]) (.t 27) (.c .nili)),mt 29 28,mg 30 29 false 3,A2 31 29 false (.eq false true .ptr (.t 30) (.c .nilp)),
  CQ 32 29 31] (.cond (.t 32) (sr [A1 0 (.mv (.c (.bool false)))] .ret) .skip)) (sr [mt 34 3,kl 35 153 [(.t 34)],mt 33 35,ee 36 33 0,ee 37 33 1,
  aB 5 32,sb 32 5 36,mt 4 37] (sr [mt 39 3,kl 40 154 [(.t 39),(cU 0)],mt 38 40,ee 41 38 0,ee 42 38 1,
  aB 6 32,sb 32 6 41,mt 7 42] (.seq (sr [mt 43 4,A1 44 (.eq true true (.iface [74]) (.t 43) (.c .nili)),mt 45 44,mg 46 45 false 7,A2 47 45 false (.eq true true (.iface [74]) (.t 46) (.c .nili)),
  CQ 48 45 47,mt 49 48,A2 50 49 false (.load true 32 (.t 5)),A2 51 49 false (.load true 32 (.t 6)),A2 52 49 false (.eq false false (.ar 32 1 false .int) (.t 50) (.t 51)),
  CQ 53 49 52] (.cond (.t 53) (sr [A1 0 (.mv (.c (.bool false)))] .ret) .skip)) (.seq (.regd [⟨0,0,la 55 32 5⟩,⟨1,1,kl 56 157 [(cI 1),(cU 10),(.t 55)]⟩,⟨2,0,mt 57 2⟩,⟨3,0,la 58 32 6⟩,⟨4,15,kl 59 112 [(.t 56),(.t 57),(cI 0),(.t 58),(cU 0)]⟩,⟨5,31,mt 54 59⟩,⟨6,63,ee 60 54 0⟩,⟨7,63,ee 61 54 1⟩,⟨8,127,mt 8 60⟩,⟨9,511,mt 4 61⟩]) (.seq (sr [mt 62 4,A1 63 (.eq true true (.iface [74]) (.t 62) (.c .nili)),mt 64 63,mg 65 64 false 8,A2 66 64 false (.eq false true .ptr (.t 65) (.c .nilp)),
  CQ 67 64 66] (.cond (.t 67) (sr [A1 0 (.mv (.c (.bool false)))] .ret) .skip)) (sr [mt 69 8,mt 70 3,kl 71 124 [(.t 69),(.t 70)],mt 68 71,ee 72 68 0,ee 73 68 1,mt 9 72,mt 4 73] (sr [mt 75 8,A1 76 (.build zD [(.i 1 0,1,(.c (.int .u8 1)))]),kl 77 110 [(.t 75),(cI 0),(.c (.bool false)),(.t 76),(cI 1),(cU 2),(cU 1)],mt 74 77,ee 78 74 0,ee 79 74 1,mt 10 78,mt 7 79] (sr [mt 81 8,mt 82 3,kl 83 124 [(.t 81),(.t 82)],mt 80 83,ee 84 80 0,ee 85 80 1,mt 11 84,mt 12 85] (sr [mt 86 4,A1 87 (.eq false true (.iface [74]) (.t 86) (.c .nili)),mt 88 87,mg 89 88 true 7,A2 90 88 true (.eq false true (.iface [74]) (.t 89) (.c .nili)),
  HR 91 88 90,mt 92 91,mg 93 92 true 12,A2 94 92 true (.eq false true (.iface [74]) (.t 93) (.c .nili)),
  HR 95 92 94,mt 96 95,mg 97 96 true 10,A2 98 96 true (.ari .eql (.t 97) (cI 1)),
  HR 99 96 98,mt 100 99,mg 101 100 true 9,A2 102 100 true (.len 0 (.t 101)),A2 103 100 true (.ari .eql (.t 102) (cI 0)),
  HR 104 100 103,mt 105 104,mg 106 105 true 11,A2 107 105 true (.len 0 (.t 106)),A2 108 105 true (.ari .eql (.t 107) (cI 1)),
  HR 109 105 108,mt 110 109,mg 111 110 true 11,A2 112 110 true (.isl 151 (.t 111) (cI 0)),A2 113 110 true (.fadr 0 (.t 112)),A2 114 110 true (.load false 1 (.t 113)),A2 115 110 true (.ari .eql (.t 114) (cI 1)),
  HR 116 110 115,mt 117 116,mg 118 117 true 11,A2 119 117 true (.isl 151 (.t 118) (cI 0)),A2 120 117 true (.fadr 1 (.t 119)),A2 121 117 true (.load false 1 (.t 120)),
  HR 122 117 121,mt 123 122,mg 124 123 true 11,A2 125 123 true (.isl 151 (.t 124) (cI 0)),A2 126 123 true (.fadr 2 (.t 125)),A2 127 123 true (.load false 1 (.t 126)),A2 128 123 true (.un .not (.t 127)),
  HR 129 123 128,mt 0 129] .ret)))))))))))))))
def App:LF:=⟨Aq3,0,0,130,[.tmp 0]⟩
def Aog:LC:=(sr [A1 6 (.mv (.c (.bool false))),mn 7] (sr [mt 13 0,mt 14 1,kl 15 254 [(.t 13),(.t 14)],mt 12 15,ee 16 12 0,ee 17 12 1,mt 8 16,mt 9 17] (.seq (sr [mt 18 9,A1 19 (.eq true true (.iface [74]) (.t 18) (.c .nili))] (.cond (.t 19) (sr [mt 20 9,A1 6 (.mv (.c (.bool false))),mt 7 20] .ret) .skip)) (.seq (sr [mt 22 0,mt 23 2,kl 24 111 [(.t 22),(.t 23)],mt 21 24,ee 25 21 0,ee 26 21 1,A1 10 (.alloc zC),sb 42 10 25,mt 11 26] (sr [mt 27 11,A1 28 (.eq true true (.iface [74]) (.t 27) (.c .nili))] (.cond (.t 28) (sr [mt 29 11,A1 6 (.mv (.c (.bool false))),mt 7 29] .ret) .skip))) (sr [mt 30 8,nc 31 30,fa 32 3 31,lb 33 1 32,mt 34 2,ia 35 1 33 34,lb 36 1 35,mt 6 36,mn 7] .ret)))))
def Xd:LF:=⟨Aog,3,0,37,[.tmp 6,.tmp 7]⟩
def Ae9:LC:=(sr [A1 4 (.mv (.c .nils)),mn 5] (sr [mt 19 0,mt 20 1,kl 21 254 [(.t 19),(.t 20)],mt 18 21,ee 22 18 0,ee 23 18 1,mt 6 22,mt 7 23] (.seq (sr [mt 24 7,A1 25 (.eq true true (.iface [74]) (.t 24) (.c .nili))] (.cond (.t 25) (sr [mt 26 7,A1 4 (.mv (.c .nils)),mt 5 26] .ret) .skip)) (sr [A1 8 (.mv (.c .nils))] (.seq (sr [mt 27 6,nc 28 27,fa 29 2 28,lb 30 1 29,
  lN 31 0 30,
  mI 32 0] (.block 0 (.loop (sr [ak 33 .lss 32 31] (.seq (DJ 33 0) (.seq (.block 1 (sr [mt 34 32,ia 35 42 30 32,la 36 42 35,A1 10 (.alloc zC),mt 9 34,sb 42 10 36] (sr [fa 38 1 10,lb 39 1 38,kl 40 130 [(.t 39)],mt 37 40,ee 41 37 0,ee 42 37 1,ee 43 37 2,mt 11 41,mt 12 42,mt 13 43] (.seq (sr [mt 44 11,aI 45 .rem 44 2,mt 46 6,nc 47 46,fa 48 4 47,lb 49 1 48,ak 50 .eql 45 49,mt 51 50,A2 52 51 false (.fadr 39 (.t 10)),A2 53 51 false (.load false 1 (.t 52)),
  CQ 54 51 53,mt 55 54,mg 56 55 false 6,A2 57 55 false (.fadr 0 (.t 10)),A2 58 55 false (.load false 1 (.t 57)),⟨(some 59),.call 255 [(.t 56),(.t 58)],(some (55,false))⟩,A2 60 55 false (.un .not (.t 59)),
  CQ 61 55 60] (.cond (.t 61) (.exit 1) .skip)) (.seq (.regd [⟨0,0,mt 62 9⟩,⟨1,0,mt 63 11⟩,⟨2,0,mt 64 1⟩,⟨3,4,nc 65 64⟩,⟨4,12,fa 66 1 65⟩,⟨5,28,lb 67 1 66⟩,⟨6,62,ak 68 .eql 63 67⟩,⟨7,0,mt 69 6⟩,⟨8,128,nc 70 69⟩,⟨9,384,fa 71 3 70⟩,⟨10,896,lb 72 1 71⟩,⟨11,0,mt 73 9⟩,⟨12,3968,ia 74 1 72 73⟩,⟨13,8064,lb 75 1 74⟩,⟨14,16383,A1 76 (.build (.st (.cons zI (.cons .bool (.cons .bool (.cons zD (.cons zS .nil)))))) [(.f 0,1,(.t 62)),(.f 1,1,(.t 68)),(.f 2,1,(.t 75))])⟩,⟨15,0,A1 14 (.alloc (.st (.cons zI (.cons .bool (.cons .bool (.cons zD (.cons zS .nil)))))))⟩,⟨16,65535,sb 151 14 76⟩]) (sr [mt 77 6,A1 78 (.mkfn 2000256 [(.t 77)]),mt 15 78] (.seq (sr [fa 79 1 14,lb 80 1 79] (.cond (.t 80) (.reg [mt 81 6,A1 82 (.mkfn 2000257 [(.t 81)]),mt 15 82]) .skip)) (sr [mt 84 15,la 85 42 10,⟨(some 86),.dyn (.t 84) [(.t 14),(.t 85)],none⟩,mt 83 86,ee 87 83 0,ee 88 83 1,mt 16 87,mt 17 88] (.seq (sr [mt 89 17,A1 90 (.eq true true (.iface [74]) (.t 89) (.c .nili))] (.cond (.t 90) (sr [mt 91 17,A1 4 (.mv (.c .nils)),mt 5 91] .ret) .skip)) (sr [mt 92 16] (.cond (.t 92) (.reg [mt 93 8,la 94 151 14,A1 95 (.bsl 151 1 (.st (.cons zI (.cons .bool (.cons .bool (.cons zD (.cons zS .nil)))))) [(.i 151 0,151,(.t 94))]),
  aP 96 151 320 93 95,mt 8 96]) .skip))))))))))) (.reg [aI 97 .add 32 1,mt 32 97]))))))) (sr [mt 98 8,mt 4 98,mn 5] .ret))))))
def f124:LF:=⟨Ae9,2,0,99,[.tmp 4,.tmp 5]⟩
variable {M:Seat}
structure OkHi (M:Seat):Prop where
 v:OkHv M
 k75:Ar M 75 f75=true
 k123:Ar M 123 Xd=true
 k124:Ar M 124 f124=true
 k151:Ar M 151 Ym=true
 k156:Ar M 156 Ape=true
 k157:Ar M 157 Aq0=true
theorem MJ (ok:OkHi M):Ae M 151 [.nils] [] 0 (Q3 (.ptr 0 []) [(0,BL.v)] 1):=by
 have hW:Ae M 75 [.nils] [] 0 (Q3 .nils [] 0):=by
  refine Ab ok.k75 rfl fun x hx=>?_;refine eX ?_;simp only [f75,c75,LZ,seval];refine A5 ?_;refine eX ?_;simp only [LZ,seval];exact Ap.mkZ hx [] ⟨rfl,rfl,rfl⟩
 have hL:=N2 ok.v.o.q.okA;refine Ab ok.k151 rfl fun x hx=>?_;refine eX ?_;simp only [Ym,Ah9,LZ,seval];refine Aj (hW) ?_;simp only [LZ,seval];have zz:=@c7;refine Jp (hL) ?_;simp only [Bb,mach,seval];have zz:=Cv @x7 @BL.eq_1 @c7;exact AI hx [48] ⟨rfl,rfl,rfl⟩
theorem JZ (ok:OkHi M) (d:Int) (l:BitVec 64) (s:Dg):Ae M 157 [.int .i64 d,W l,dg s] [] 0 (Q3 (Av d l 0#64 s) [] 0):=by
 refine Ab ok.k157 rfl fun x hx=>?_;refine eX ?_;simp only [Aq0,Arn,LZ,seval];have zz:=Cv @c8 @b9 @b7;exact AI hx [] ⟨rfl,rfl,rfl⟩
theorem Mz (ok:OkHi M) (v:BitVec 64) (hv:¬ 281474976710656#64 < v) (hs:∀ n,n < 8→¬ 281474976710656#64 < Xl v n + v):Ae M 156 [W v] [] 0 (Q3 (.ptr 0 []) [(0,A6 (IE v 8) (Xl v 8) 0#64 .nils 0#64)] 1):=by
 have okL:=ok.v.g.t.s.v.g.l;refine Ab ok.k156 rfl fun x hx=>?_;refine eX ?_;simp only [Ape,Arz,LZ,seval];have zz:=@j4;refine Jp (PZ okL) ?_;simp only [A6,LZ,seval];refine Am (σ:=Nat) (fun n=>n≤8) (fun n=>fr 20 [(0,W v),(3,.ptr 0 []),(6,.int .i64 n)]) (fun n=>[(0,A6 (IE v n) (Xl v n) 0#64 .nils 0#64)]) (fun _=>1) (fun n=>8 - n) 0 Aa ?_ ?_
 ·refine Ak.fr [16] [] hx AG Al ?_ ?_
  ·simp only [Int.natCast_zero,LY,seval]
  ·simp only [A6,Xl,IE,Nat.not_lt_zero,if_false,LY,seval]
 ·intro n h8;refine eX ?_;by_cases hn:n=8
  ·subst hn;have d0:(((8:Nat):Int) < 8)=False:=eq_false Aa;simp only [A6,d0,LZ,seval];have zz:=@j4;exact AI hx [0] ⟨rfl,rfl,rfl⟩
  ·have hn:n < 8:=Aa;have d0:((n:Int) < 8)=True:=eq_true Aa;have w0:IntKind.i64.wrap ((n:Int) + 1)=((n + 1:Nat):Int):=AW;have hp:=Uj okL (IE v n) (Xl v n) 0#64 0#64 n hn v hv (hs n hn);simp only [A6,d0,LZ,seval];have zz:=@j4;refine GY [0] (hp) ?_;simp only [A6,w0,LZ,seval];refine ⟨n + 1,by omega,by omega,?_⟩;refine Ak.fr [0] [] hx AG Al ?_ ?_
   ·simp only [LY,seval]
   ·simp only [A6,Xl,LY,seval];intro j hj;unfold IE;by_cases h:j=n
    ·rw [if_pos h,if_neg (show ¬ n < n by omega),if_pos (show j < n + 1 by omega),BitVec.zero_add]
    ·rw [if_neg h];by_cases h2:j < n
     ·rw [if_pos h2,if_pos (show j < n + 1 by omega)]
     ·rw [if_neg h2,if_neg (show ¬ j < n + 1 by omega)]
def Ari:LC:=(sr [A1 6 (.mv (.c .nilp))] (sr [mt 20 0,kl 21 151 [(.t 20)],kl 22 68 [],mt 7 21,mt 8 22] (sr [kl 23 156 [(cU 1000)],mt 9 23] (.seq (sr [mt 24 7,A1 25 (.eq false true .ptr (.t 24) (.c .nilp)),mt 26 25,mg 27 26 false 8,A2 28 26 false (.eq false true .ptr (.t 27) (.c .nilp)),
  CQ 29 26 28,mt 30 29,mg 31 30 false 9,A2 32 30 false (.eq false true .ptr (.t 31) (.c .nilp)),
  CQ 33 30 32] (.cond (.t 33) (sr [A1 6 (.mv (.c .nilp))] .ret) .skip)) (sr [mt 35 7,mt 36 8,mt 37 1,kl 38 152 [(.t 35),(.t 36),(.t 37)],mt 34 38,ee 39 34 0,ee 40 34 1,mt 10 39,mt 11 40] (.seq (sr [mt 41 11,A1 42 (.eq true true (.iface [74]) (.t 41) (.c .nili)),mt 43 42,mg 44 43 false 10,A2 45 43 false (.eq false true .ptr (.t 44) (.c .nilp)),
  CQ 46 43 45] (.cond (.t 46) (sr [A1 6 (.mv (.c .nilp))] .ret) .skip)) (sr [mt 47 10,mt 48 9,A1 49 (.build (.st (.cons .ptr (.cons .ptr (.cons .ptr (.cons .slice (.cons zU .nil)))))) [(.f 0,1,(.t 47)),(.f 2,1,(.t 48))]),
  bX 50 49,mt 12 50] (.seq (sr [mt 51 1,
  DL 52 .u64 51,
  aV 53 .shl 1 52,
  mU 54 0] (.block 0 (.loop (sr [ak 55 .lss 54 53] (.seq (DJ 55 0) (.seq (.block 1 (sr [mt 56 54,mt 13 56] (sr [mt 58 10,mt 59 13,kl 60 154 [(.t 58),(.t 59)],mt 57 60,ee 61 57 0,ee 62 57 1,
  aB 14 32,sb 32 14 61,mt 15 62] (.seq (sr [mt 63 15,A1 64 (.eq true true (.iface [74]) (.t 63) (.c .nili))] (.cond (.t 64) (sr [A1 6 (.mv (.c .nilp))] .ret) .skip))
 (.regd [⟨1,0,mt 66 12⟩,⟨2,1,nc 67 66⟩,⟨3,3,fa 68 3 67⟩,⟨4,7,lb 69 1 68⟩,⟨5,0,la 70 32 14⟩,⟨6,16,A1 71 (.bsl 32 1 zD [(.i 32 0,32,(.t 70))])⟩,⟨7,63,aP 72 32 32 69 71⟩,⟨0,0,mt 65 12⟩,⟨8,255,nc 73 65⟩,⟨9,511,fa 74 3 73⟩,⟨10,1023,sb 1 74 72⟩]))))) (.reg [aU 75 .add 54 1,mt 54 75]))))))) (sr [mt 77 10,kl 78 153 [(.t 77)],mt 76 78,ee 79 76 0,ee 80 76 1,
  aB 16 32,sb 32 16 79,mt 11 80] (.seq (.regd [⟨0,0,mt 81 12⟩,⟨1,1,nc 82 81⟩,⟨2,3,fa 83 3 82⟩,⟨3,7,lb 84 1 83⟩,⟨4,0,mt 85 12⟩,⟨5,16,nc 86 85⟩,⟨6,48,fa 87 3 86⟩,⟨7,112,lb 88 1 87⟩,⟨8,240,lN 89 0 88⟩,⟨9,496,aI 90 .sub 89 1⟩,⟨10,1023,ia 91 32 84 90⟩,⟨11,2047,la 92 32 91⟩,⟨12,0,aB 17 32⟩,⟨13,8191,sb 32 17 92⟩]) (.seq (sr [mt 93 2,aI 94 .geq 93 0] (.cond (.t 94) (.reg [mt 95 12,mt 96 2,aI 97 .rem 96 20,kl 98 253 [(.t 95),(.t 97)],sb 32 17 98]) .skip)) (.seq (.regd [⟨0,0,mt 100 1⟩,⟨1,0,la 101 32 16⟩,⟨2,3,kl 102 157 [(.t 100),(cU 5000),(.t 101)]⟩,⟨3,0,mt 103 9⟩,⟨4,0,la 104 32 17⟩,⟨5,31,kl 105 112 [(.t 102),(.t 103),(cI 1),(.t 104),(cU 0)]⟩,⟨6,63,mt 99 105⟩,⟨7,127,ee 106 99 0⟩,⟨8,127,ee 107 99 1⟩,⟨9,255,mt 18 106⟩,⟨10,1023,mt 19 107⟩]) (.seq (sr [mt 108 11,A1 109 (.eq true true (.iface [74]) (.t 108) (.c .nili)),mt 110 109,mg 111 110 false 19,A2 112 110 false (.eq true true (.iface [74]) (.t 111) (.c .nili)),
  CQ 113 110 112,mt 114 113,mg 115 114 false 18,A2 116 114 false (.eq false true .ptr (.t 115) (.c .nilp)),
  CQ 117 114 116] (.cond (.t 117) (sr [A1 6 (.mv (.c .nilp))] .ret) .skip)) (sr [mt 118 12,mt 119 18,nc 120 118,fa 121 1 120,sb 1 121 119] (sr [mt 122 12,mt 6 122] .ret)))))))))))))))
def Aqh:LF:=⟨Ari,3,0,123,[.tmp 6]⟩
def Y6:LC:=(sr [aB 4 32] (.seq (sr [mt 5 1,aI 6 .geq 5 0,mt 7 6,mg 8 7 true 1,mg 9 7 true 0,A2 10 7 true (.nilc (.t 9)),A2 11 7 true (.fadr 3 (.t 10)),A2 12 7 true (.load false 1 (.t 11)),A2 13 7 true (.len 0 (.t 12)),A2 14 7 true (.ari .lss (.t 8) (.t 13)),
  HR 15 7 14] (.cond (.t 15) (sr [mt 16 0,nc 17 16,fa 18 3 17,lb 19 1 18,mt 20 1,ia 21 32 19 20,la 22 32 21,sb 32 4 22] .ret) .skip)) (sr [mt 23 1,
  DL 24 .u8 23,A1 25 (.build zD [(.i 1 0,1,(.t 24)),(.i 1 1,1,(.c (.int .u8 3)))]),sb 32 4 25] .ret)))
def R8:LF:=⟨Y6,2,0,26,[.cell 4 true 32]⟩
def Do (t g l:V) (vs:V) (now:BitVec 64):V:=.st 5 (.fcons 0 t (.fcons 1 g (.fcons 2 l (.fcons 3 vs (.fcons 4 (W now) .fnil)))))
structure OkBg (M:Seat):Prop where
 s:OkAs M
 i:OkHi M
 pI:OkI M
 k77:Ar M 77 f77=true
 k121:Ar M 121 Aqh=true
 k253:Ar M 253 R8=true
 g:OkMv M
theorem Jn:∀ n,Cx (Gh n).pres
 | 0=>fun h p hk=>by simp [Gh,En] at hk
 | n + 1=>by rw [Gh];exact HM _ _ (Jn n)
theorem Zt (H:Hp) (m z:List Nat) (cm:BitVec 64→Dg) (ks vs:Nat→V):Ay H m z (IS cm []) (.mp 0 ks vs)=True:=by
 simp only [IS,Ay,List.length_nil,Nat.not_lt_zero,false_implies,implies_true,and_self]
noncomputable def X3 (m0:Mc) (p0:List (Dg × Pr)) (d:Nat) (bv:Nat→BitVec 64) (sv:BitVec 64) (i:Nat) (t:Tr):Hp :=
 [(0,Do (.ptr 1 []) .nilp (.ptr 7 []) (if i=0 then .nils else .sl 8 [] 0 i 32) 0#64),(1,Aw (.sl 3 [] 0 t.n 3) d (.map 4) (.map 2)),(2,Et t.l),(3,.ar 3 t.n fun j=>C5 5 (t.ps j)),(4,IS (Ct m0 p0) t.knl),(5,Aq 6 t.w.a t.w.b t.w.met),(6,BG AL Pr.zero t.w.ever),(7,A6 bv sv 0#64 .nils 0#64)] ++ (if i=0 then [] else [(8,.ar 32 i fun j=>dg (Ct m0 p0 (BitVec.ofNat 64 (j + 1))))])
theorem C4 (m:List Nat) (h:m[4]?=some 5) (P:Pt):(C5 4 P).ren m=C5 5 P:=Kx 4 5 m h P
theorem YE (m:List Nat) (h:m[5]?=some 5) (P:Pt):(C5 5 P).ren m=C5 5 P:=Kx 5 5 m h P
theorem Cp (H:Hp) (m z:List Nat) (h:m[4]?=some 5) (P:Pt):Ay H m z (C5 4 P) (C5 5 P)=True:=eq_true (Ea H m z 4 5 h P)
theorem AH (H:Hp) (m z:List Nat) (h:m[5]?=some 5) (P:Pt):Ay H m z (C5 5 P) (C5 5 P)=True:=eq_true (Ea H m z 5 5 h P)
theorem An3 {M:Seat} (k253:Ar M 253 R8=true) (n:Nat) (f:Nat→Dg) (i:Nat) (hi:i < 1000):∃ D:Dg,
 Ae M 253 [.ptr 0 [],.int .i64 i] [(0,.st 5 (.fcons 0 (.ptr 2 []) (.fcons 1 .nilp (.fcons 2 (.ptr 3 []) (.fcons 3 (.sl 1 [] 0 n 32) (.fcons 4 (W 0#64) .fnil)))))),(1,.ar 32 n fun j=>dg (f j))] 4
  (Q3 (dg D) [(0,.st 5 (.fcons 0 (.ptr 2 []) (.fcons 1 .nilp (.fcons 2 (.ptr 3 []) (.fcons 3 (.sl 1 [] 0 n 32) (.fcons 4 (W 0#64) .fnil)))))),(1,.ar 32 n fun j=>dg (f j))] 4):=by
 have d0:(0≤(i:Int))=True:=eq_true Aa;by_cases h:i < n
 ·have d1:((i:Int) < (n:Int))=True:=eq_true Aa;refine ⟨f i,?_⟩;refine Ab k253 rfl fun x hx=>?_;refine eX ?_;simp only [R8,Y6,d0,d1,LZ,seval];refine ⟨by omega,?_⟩;have zz:=@b7;exact AI hx [0,1,2,3] ⟨rfl,rfl,rfl⟩
 ·have d1:((i:Int) < (n:Int))=False:=eq_false Aa;refine ⟨Dg.mk' fun j=>if j=0 then BitVec.ofNat 8 i else if j=1 then 3#8 else 0#8,?_⟩;refine Ab k253 rfl fun x hx=>?_;refine eX ?_;simp only [R8,Y6,d0,d1,LZ,seval];refine Ap.mk hx [0,1,2,3] [] (dg (Dg.mk' fun j=>if j=0 then BitVec.ofNat 8 i else if j=1 then 3#8 else 0#8)) _ 4 Al (by (simp only [Di,seval])) ?_ ?_ ⟨rfl,rfl,rfl⟩
  ·simp only [KR,dg,seval];intro j hj;rw [Dg.at_mk' _ _ hj];by_cases h1:j=1
   ·subst h1;rw [if_pos rfl,if_neg Al,if_pos rfl];simp [Ay,B]
   ·rw [if_neg h1];by_cases h0:j=0
    ·subst h0;simp [Ay,B]
    ·simp [Ay,B,h0,h1]
  ·simp only [dg,LY,seval]
def gB (d:Nat) (st fi:Dg) (bv:Nat→BitVec 64) (sv:BitVec 64):Gs:=Gs.new d 5000#64 0#64 st fi 1 0#64 bv sv 0#64 0#64
noncomputable def DF (m0:Mc) (p0:List (Dg × Pr)) (d:Nat) (now:BitVec 64) (t:Tr) (G:Gs):Hp :=
 [(0,Do (.ptr 1 []) (.ptr 7 []) (.ptr 9 []) (.sl 11 [] 0 (2 ^ d) 32) now),(1,Aw (.sl 3 [] 0 t.n 3) d (.map 4) (.map 2)),(2,Et t.l),(3,.ar 3 t.n fun j=>C5 5 (t.ps j)),(4,IS (Ct m0 p0) t.knl),(5,Aq 6 t.w.a t.w.b t.w.met),(6,BG AL Pr.zero t.w.ever),
  (7,As G.D G.l G.g G.s (.ptr 9 []) (.sl 8 [] 0 G.n 42)),(8,Au G.n G.c),(9,A6 G.b G.i G.o (.sl 10 [] 0 G.n 2) G.k),(10,AQ G.n G.v G.gv),(11,.ar 32 (2 ^ d) fun j=>dg (Ct m0 p0 (BitVec.ofNat 64 (j + 1))))]
def Gs.T (G:Gs):Hp:=[(6,As G.D G.l G.g G.s (.ptr 8 []) (.sl 7 [] 0 G.n 42)),(7,Au G.n G.c),(8,A6 G.b G.i G.o (.sl 9 [] 0 G.n 2) G.k),(9,AQ G.n G.v G.gv)]
def Tr.Hp (t:Tr) (d:Nat) (cm:BitVec 64→Dg) (p:Nat):Hp:=[(0,Aw (.sl p [] 0 t.n 3) d (.map 3) (.map 1)),(1,Et t.l),(3,IS cm t.knl),(4,Aq 5 t.w.a t.w.b t.w.met),(5,BG AL Pr.zero t.w.ever),(p,.ar 3 t.n fun j=>C5 4 (t.ps j))]
def Sg (d:Nat) (p:BitVec 64):Nat:=E3 d (Gg p) (N4 p)
def Fv (cm:BitVec 64→Dg) (d:Nat) (c:Cl):Bool:=decide (cm (BitVec.ofNat 64 (Sg d c.pos) + 1#64)=c.val)
theorem Ou {D k i:Nat} (hk:k≤D) (hi:i < 2 ^ k):E3 D k i < 2 ^ D:=by
 unfold E3;have e:2 ^ D=2 ^ k * 2 ^ (D - k):=WK;have h1:(i + 1) * 2 ^ (D - k)≤2 ^ k * 2 ^ (D - k):=Nat.mul_le_mul_right _ hi;have h2:0 < (i + 1) * 2 ^ (D - k):=Nat.mul_pos Aa (Nat.two_pow_pos _);omega
def vwI (cm:BitVec 64→Dg) (d:Nat) (c:Nat→Cl) (own:Nat) (i:Nat):Hp :=
 [(10,.st 5 (.fcons 0 (.ptr 6 []) (.fcons 1 (.ptr 0 []) (.fcons 2 (if i=0 then .nils else .sl 11 [] 0 i 42) (.fcons 3 (if i=0 then .nils else .sl 12 [] 0 i 1) (.fcons 4 (.int .i64 own) .fnil))))))] ++ (if i=0 then [] else [(11,Au i c),(12,.ar 1 i fun j=>.bool (Fv cm d (c j)))])
theorem Jz {M:Seat} (ok:OkHv M) (k359:Ar M 359 M2=true) (a:OkAx M) {m0:Mc} {p0:List (Dg × Pr)} (t:Tr) (d:Nat) (hd:1≤d∧d≤4) (hF:Full m0 p0 d t) (G:Gs) (hG:G.ok) (hD:G.D=d) :
 Ae M 254 [.ptr 6 [],.ptr 0 []] (t.H d (Ct m0 p0) ++ G.T) 10 (Q3 (Ai (.ptr 10 []) .nili) (t.H d (Ct m0 p0) ++ G.T ++ vwI (Ct m0 p0) d G.c (if Fv (Ct m0 p0) d (G.c 0) then 0 else 1) G.n) 13):=by
 have hRu:=EW ok.g G.D G.l G.g G.s G.n;have hLn:=E4 ok.g G.D G.l G.g G.s G.n;have hn64:=hG.w.hn;have hn0:=hG.n0;rw [hD] at hRu hLn;unfold Tr.H Gs.T at *
 refine Ab ok.k254 rfl fun x hx=>?_;refine eX ?_;simp only [Agb,Agt,hD,As,Av,Ad,Au,Cl.v,A6,AQ,AM,Aw,Aq,B3,LZ,seval];have zz:=D0 @c9 @c8 @b9 @b7;refine G6 [6,7,8] [6] (hRu) ?_;simp only [As,Av,Ad,Au,Cl.v,A6,AQ,AM,Aw,Bn,seval];have zz:=D0 @c9 @c8 @b9 @b7;refine By [6,7,8] [6] (hLn) ?_;simp only [As,Av,Ad,Au,Cl.v,A6,AQ,AM,Aw,Bn,seval];refine Am (σ:=Nat) (fun i=>i≤G.n) (fun i=>fr 103 [(0,.ptr 6 []),(1,.ptr 0 []),(6,.ptr 10 []),(36,.int .i64 G.n),(37,.int .i64 i)]) (fun i=>t.H d (Ct m0 p0) ++ G.T ++ vwI (Ct m0 p0) d G.c 0 i) (fun _=>13) (fun i=>G.n - i) 0 Aa ?_ ?_
 ·unfold Tr.H Gs.T vwI;refine Ak.fr [0,1,2,3,4,5,6,7,8,9,490,500,501] [] hx AG Al ?_ ?_
  ·simp only [Int.natCast_zero,LY,seval]
  ·simp only [hD,As,Av,Ad,Au,Cl.v,A6,AQ,AM,Aw,Aq,if_true,B3,Ah,Ao,Ax,BI,dg,seval]
 ·intro i hi;by_cases hin:i=G.n
  ·subst hin;have d0:((G.n:Int) < (G.n:Int))=False:=eq_false Aa;have hz:(G.n=0)=False:=eq_false Aa;refine eX ?_;cases hr0:Fv (Ct m0 p0) d (G.c 0);all_goals
    simp only [d0,Tr.H,Gs.T,vwI,hz,hD,hr0,As,Av,Ad,Au,Cl.v,A6,AQ,AM,Aw,Aq,B3,B4,LZ,seval];repeat refine sd ?_
    have zz:=Em Qu @Ah @Ao @Ax @b7;exact AI hx [0,1,2,3,4,5,6,7,8,9,10,11,12] ⟨rfl,rfl,rfl⟩
  have d0:((i:Int) < (G.n:Int))=True:=eq_true Aa;have wI:IntKind.i64.wrap ((i:Int) + 1)=((i + 1:Nat):Int):=AW;have hCl:=CS ok.g G.D G.l G.g G.s G.n G.c i Aa;obtain ⟨k,q,hk,hq,hpos⟩:=hG.w.pls i Aa;rw [hD] at hk hCl;have hT:=Cy ok.g.t.s.v.g.p k359 (D:=d) Aa hk hq;have hlt:=Ou hk hq;have h16:2 ^ d≤2 ^ 4:=Nat.pow_le_pow_right Al hd.2;have e1:(BitVec.ofNat 64 (E3 d k q)).toNat=E3 d k q:=Oo;have hA:=PM a t d hF Aa (BitVec.ofNat 64 (E3 d k q)) Aa;have hrt:∀ b:Bool,decide (Ct m0 p0 (BitVec.ofNat 64 (E3 d k q) + 1#64)=(G.c i).val)=Fv (Ct m0 p0) d (G.c i):=fun _=>by
   unfold Fv Sg;rw [hpos,BR Aa hq,CI Aa hq]
  have hrt:=hrt true;generalize Ct m0 p0 (BitVec.ofNat 64 (E3 d k q) + 1#64)=C at *
  simp only [Tr.H,Aw,Aq] at hA;have hs1:(i + 1=0)=False:=eq_false Aa;refine eX ?_;by_cases h0:i=0
  ·have h0':=eq_true h0;simp only [d0,Tr.H,Gs.T,vwI,h0',hD,As,Av,Ad,Au,Cl.v,A6,AQ,AM,Aw,Aq,B3,if_true,LZ,seval];have zz:=Gb @c9 @c8 @b9 @f7 @b8 @b7;refine By [6,7,8] [6,7] (hCl) ?_;simp only [Cz,hpos,As,Av,Ad,Au,Cl.v,A6,AQ,AM,Aw,seval];refine AO (hT) ?_;simp only [Bb,As,Av,Ad,Au,Cl.v,A6,AQ,AM,Aw,seval];have zz:=Em @Ah @Ao @Ax @Cg @b7;refine By [0,1,2,3,4,5] [0,1,2,3,4,5] (hA) ?_;simp only [Cz,AE,B7,B5,Bt,hrt,wI,Nat.testBit,List.map_nil,List.map_cons,B3,As,Av,Ad,Au,Cl.v,A6,AQ,AM,Aw,seval];refine ⟨i + 1,by omega,by omega,?_⟩;refine Ak.fr [0,1,2,3,4,5,6,7,8,9,10,1293,1453] [] hx AG Al ?_ ?_
   ·simp only [LY,seval]
   ·simp only [hs1,if_false,As,Av,Ad,Au,Cl.v,A6,AQ,AM,Aw,Ah,Ao,Ax,BI,dg,seval];refine ⟨h0,⟨h0,fun j hj=>?_⟩,h0,fun j hj=>?_⟩;all_goals
     obtain rfl:j=i:=Aa;simp only [h0',if_true,hpos,dg,LY,seval]
  ·have h0':=eq_false h0;simp only [d0,Tr.H,Gs.T,vwI,h0',hD,As,Av,Ad,Au,Cl.v,A6,AQ,AM,Aw,Aq,B3,if_false,LZ,seval];have zz:=Gb @c9 @c8 @b9 @f7 @b8 @b7;refine By [6,7,8] [6,7] (hCl) ?_;simp only [Cz,hpos,As,Av,Ad,Au,Cl.v,A6,AQ,AM,Aw,seval];refine AO (hT) ?_;simp only [Bb,As,Av,Ad,Au,Cl.v,A6,AQ,AM,Aw,seval];have zz:=Em @Ah @Ao @Ax @Cg @b7;refine By [0,1,2,3,4,5] [0,1,2,3,4,5] (hA) ?_;simp only [Cz,AE,B7,B5,Bt,hrt,wI,Nat.testBit,List.map_nil,List.map_cons,B3,As,Av,Ad,Au,Cl.v,A6,AQ,AM,Aw,seval];refine ⟨by omega,by omega,i + 1,by omega,by omega,?_⟩;refine Ak.fr [0,1,2,3,4,5,6,7,8,9,10,1293,1453] [] hx AG Al ?_ ?_
   ·simp only [LY,seval]
   ·simp only [hs1,if_false,As,Av,Ad,Au,Cl.v,A6,AQ,AM,Aw,Ah,Ao,Ax,BI,dg,seval];refine ⟨fun j hj=>?_,fun j hj=>?_⟩;all_goals
     by_cases hji:j < i
     ·simp only [hji,if_true,dg,LY,seval]
     ·obtain rfl:j=i:=Aa;simp only [Nat.sub_self,hji,B4,hpos,dg,LY,seval]
theorem R4 {M:Seat} (ok:OkHv M) (k123:Ar M 123 Xd=true) (k359:Ar M 359 M2=true) (a:OkAx M) {m0:Mc} {p0:List (Dg × Pr)} (t:Tr) (d:Nat) (hd:1≤d∧d≤4) (hF:Full m0 p0 d t) (G:Gs) (hG:G.ok) (hD:G.D=d) (j:Nat) (hj:j < G.n) :
 Ae M 123 [.ptr 6 [],.ptr 0 [],.int .i64 j] (t.H d (Ct m0 p0) ++ G.T) 10 (Q3 (Ai (.bool (Fv (Ct m0 p0) d (G.c j))) .nili) (t.H d (Ct m0 p0) ++ G.T) 10):=by
 have hS:=Jz ok k359 a t d hd hF G hG hD;have hCl:=CS ok.g G.D G.l G.g G.s G.n G.c j hj;have hz:(G.n=0)=False:=eq_false Aa;have d0:(0≤(j:Int))=True:=eq_true Aa;have d1:((j:Int) < (G.n:Int))=True:=eq_true Aa;generalize (if Fv (Ct m0 p0) d (G.c 0) then 0 else 1)=own at hS;simp only [Tr.H,Gs.T,vwI,hz,if_false,hD,As,Av,Ad,Au,Cl.v,A6,AQ,AM,Aw,Aq,B3] at hS hCl ⊢;refine Ab k123 rfl fun x hx=>?_;refine eX ?_;simp only [Xd,Aog,LZ,seval];have zz:=Em @Ah @Ao @Ax @Cg @b7;refine By [0,1,2,3,4,5,6,7,8,9] [0,1,2,3,4,5,6,7,8,9] (hS) ?_;simp only [Cz,AE,B7,B5,Bt,seval];have zz:=Gb @c9 @c8 @b9 @f7 @b8 @b7;refine By [6,7,8] [6,7] (hCl) ?_;simp only [Cz,d0,d1,seval];repeat refine sd ?_
 have zz:=Em Qu @Ah @Ao @Ax @b7;exact AI hx [0,1,2,3,4,5,6,7,8,9] ⟨rfl,rfl,rfl⟩
theorem RL {M:Seat} (ok:OkHv M) (k123:Ar M 123 Xd=true) (k359:Ar M 359 M2=true) (a:OkAx M) {m0:Mc} {p0:List (Dg × Pr)} (t:Tr) (d:Nat) (hd:1≤d∧d≤4) (hF:Full m0 p0 d t) (G:Gs) (hG:G.ok) (hD:G.D=d) (j:Int) (hj:(G.n:Int)≤j) :
 Ae M 123 [.ptr 6 [],.ptr 0 [],.int .i64 j] (t.H d (Ct m0 p0) ++ G.T) 10 (Q3 (Ai (.bool false) (er 4)) (t.H d (Ct m0 p0) ++ G.T) 10):=by
 have hS:=Jz ok k359 a t d hd hF G hG hD;have hn0:=hG.n0;have hCl:=R9 ok.g G.D G.l G.g G.s G.n j (.inr hj);have hz:(G.n=0)=False:=eq_false Aa;generalize (if Fv (Ct m0 p0) d (G.c 0) then 0 else 1)=own at hS;simp only [Tr.H,Gs.T,vwI,hz,if_false,hD,As,Av,Ad,Au,Cl.v,Cl.zero,A6,AQ,AM,Aw,Aq,B3] at hS hCl ⊢;refine Ab k123 rfl fun x hx=>?_;refine eX ?_;simp only [Xd,Aog,LZ,seval];have zz:=Em @Ah @Ao @Ax @Cg @b7;refine By [0,1,2,3,4,5,6,7,8,9] [0,1,2,3,4,5,6,7,8,9] (hS) ?_;simp only [Cz,AE,B7,B5,Bt,seval];have zz:=Gb @c9 @c8 @b9 @f7 @b8 @b7;refine By [6,7,8] [6] (hCl) ?_;simp only [Cz,er,seval];have zz:=Gb Qu @er.eq_1 @Ah @Ao @Ax @b7;exact AI hx [0,1,2,3,4,5,6,7,8,9] ⟨rfl,rfl,rfl⟩
structure OkHj (M:Seat):Prop where
 i:OkHi M
 k255:Ar M 255 Zg=true
 k257:Ar M 257 f257=true
 k359:Ar M 359 M2=true
def XF (g t c r n:Nat) (own:Int):V:=.st 5 (.fcons 0 (.ptr g []) (.fcons 1 (.ptr t []) (.fcons 2 (.sl c [] 0 n 42) (.fcons 3 (.sl r [] 0 n 1) (.fcons 4 (.int .i64 own) .fnil)))))
def He (c:Int) (st df:Bool) (v:Dg) (p:V):V:=.st 151 (.fcons 0 (.int .i64 c) (.fcons 1 (.bool st) (.fcons 2 (.bool df) (.fcons 3 (dg v) (.fcons 35 p .fnil)))))
theorem OL {M:Seat} (ok:OkHj M) (n:Nat) (hn:0 < n) (own:Int) (c:Nat→Cl) (rt:Nat→Bool) (hp:(c 0).par = -1) (hr:rt 0=true) :
 Ae M 255 [.ptr 0 [],.int .i64 0] [(0,XF 1 2 3 4 n own),(3,Au n c),(4,.ar 1 n fun j=>.bool (rt j))] 5 (Q3 (.bool true) [(0,XF 1 2 3 4 n own),(3,Au n c),(4,.ar 1 n fun j=>.bool (rt j))] 5):=by
 have d0:((0:Int) < (n:Int))=True:=eq_true Aa;have d1:(0 < n)=True:=eq_true hn;have d2:((n:Int)≤0)=False:=eq_false Aa;refine Ab ok.k255 rfl fun x hx=>?_;refine eX ?_;simp only [Zg,Amh,XF,Au,Cl.v,Ad,LZ,seval];refine A5 ?_;refine eX ?_;simp only [XF,Au,Cl.v,Ad,d0,d1,d2,hp,hr,LZ,seval];repeat refine sd ?_
 have zz:=@b7;exact AI hx [0,1,2,3,4] ⟨rfl,rfl,rfl⟩
theorem Qt {M:Seat} (ok:OkHj M) (pres:List (Dg × Pr)) (l:List (Nat→BitVec 64)) (n:Nat) (own cl:Int) (c:Cl) (hst:c.st=false) (hpos:c.pos=2#64) :
 Ae M 257 [.ptr 13 [],.ptr 17 [],c.v] (hB pres l ++ [(13,XF 14 0 15 16 n own),(17,He cl true false Dg.zero F5)]) 18 (Q3 (Ai (.bool true) .nili) (hB pres l ++ [(13,XF 14 0 15 16 n own),(17,He cl true false Dg.zero (DG (Cd BL.f 13 0) BL.h [BD BL.f 0#64] Pr.zero))]) 18):=by
 have hT:=Cy ok.i.v.g.t.s.v.g.p ok.k359 (D:=1) (k:=1) (i:=0) Al Al Al;rw [show pw 1 0=2#64 by decide,show BitVec.ofNat 64 (E3 1 1 0)=0#64 by decide] at hT;have hP:=Pi ok.i.v pres l;unfold hB at *
 generalize Cb.com=C1 at *
 generalize Cd BL.f 13 0=R0 at *
 generalize [BD BL.f 0#64]=L0 at *
 simp only [Mc.v,Mc.h,BL,Cb,mach,DG,Hd.v,Ba,Aw,BM,Dn] at hP ⊢;refine Ab ok.k257 rfl fun x hx=>?_;refine eX ?_;simp only [f257,Aak,Cl.v,Ad,hst,hpos,XF,He,F5,Aw,BM,Dn,Mc.v,BL,Cb,CP,B3,seval];refine AO (hT) ?_;simp only [Bb,XF,He,F5,Aw,BM,Dn,seval];refine RZ [0,1,2,3,4,5,6,7,8,9,10,11,12] [0,1,2,3,4,5,6,7,8,10,11,12] (hP) (by constructor <;> (try simp only [LA,Ah,Fh,seval]) <;> first | exact q1 | (intro j hj;rcases (show j=0 ∨ j=1 by omega) with rfl | rfl <;> simp only [Nat.one_ne_zero,B4,LY,seval])) ?_;simp only [Je,BF,AE,A3,LA,XF,He,F5,Aw,BM,Dn,seval];refine Ap.mk hx [0,1,2,3,4,5,6,7,8,9,10,11,12,13,14,15,16,17] [] (Ai (.bool true) .nili) _ 18 Al (by (simp only [Di,seval])) (by simp only [LV,Bb,seval,LY]) ?_ ⟨rfl,rfl,rfl⟩;simp only [LA,Fh,BF,Ah,BW,XF,He,Aw,BM,Dn,seval];intro j hj;rcases (show j=0 ∨ j=1 by omega) with rfl | rfl <;> simp only [Nat.one_ne_zero,B4,LN,LP,V.ren,AU,AB,BZ,Ch,seval,LY]
structure OkEo (M:Seat):Prop where
 v:OkHv M
 k256:Ar M 256 Akw=true
 k359:Ar M 359 M2=true
structure OkEp (M:Seat):Prop where
 e:OkEo M
 k124:Ar M 124 f124=true
 k255:Ar M 255 Zg=true
 fn:Gf M 256
end Mv
