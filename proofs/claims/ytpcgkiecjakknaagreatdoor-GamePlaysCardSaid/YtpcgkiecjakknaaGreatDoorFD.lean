/- A part. -/
import Derived.Test.YtpcgkiecjakknaaGreatDoorEZ
import Derived.Test.YtpcgkiecjakknaaGreatDoorFC
set_option linter.all false
set_option maxRecDepth 20000
set_option maxHeartbeats 8000000
namespace Mv
open Go
theorem QK (w:BitVec 64):isI w=true ↔ (CP w≤35∧w >>> 32 &&& 255#64=0#64):=by simp [isI]
structure OkOs (M:Seat):Prop where
 q:OkQ M
 d:OkD M
 c:OkCk M
 p:OkPr M
 k97:Au M 97 f97=true
 k98:Au M 98 f98=true
def BI (root:Dg) (h:Hd) (l:List Pf) (pre:Pr):V:=.st 116 (.fcons 0 (dg root) (.fcons 32 h.v (.fcons 51 (.lst 2 l.length (HC l)) (.fcons 52 (Bk pre) .fnil))))
def Mc.h (m:Mc):Hd:=⟨m.g,m.pc,m.hl,m.xt⟩
def Yb (m:Mc) (e:Option Int) (l:List Pf) (pre:Pr):V:=match e with
 | none=>Ah (BI (Dp m.f 13 0) m.h l pre) .nili
 | some n=>Ah (BI Dg.zero ⟨fun _=>0#64,0#64,false,0#64⟩ [] Pr.zero) (.ifc 74 (.int .i64 n))
def Lbm:=(Db @Hd.v.eq_1 @Mc.h.eq_1 @AM.eq_1 @Yb.eq_1 @Yb.eq_2 @BI.eq_1)
def Kt (va:V):V:=.st 4 (.fcons 0 (.map 2) (.fcons 1 (.ptr 3 []) (.fcons 2 (.map 4) (.fcons 3 va .fnil))))
def vfE (c:Ck) (h:Hd):Dg × Option Int:=if c.l=[] then (Ch c.root (DT h.g h.pc h.hl h.xt),none) else (Dg.zero,some 3)
def vfX (e:Option Int) (c:Ck) (h:Hd):Dg × Option Int:=match e with
 | some n=>(Dg.zero,some n)
 | none=>vfE c h
def vfy (claim root:Dg) (h:Hd) (l:List Pf) (pre:Pr):Dg × Option Int :=
 if ¬ Ch root (DT h.g h.pc h.hl h.xt)=claim then (Dg.zero,some 31)
 else if h.hl=true then vfE ⟨root,l,pre⟩ h
 else if 8192#64≤h.pc then vfE ⟨root,l,pre⟩ (h.stop Bn)
 else vfX (nx ckM h ⟨root,l,pre⟩).2.1 (nx ckM h ⟨root,l,pre⟩).2.2 (nx ckM h ⟨root,l,pre⟩).1
theorem Pt {M:Seat} (ok:OkOs M) (claim root:Dg) (g:Nat→BitVec 64) (pc:BitVec 64) (hl:Bool) (xt:BitVec 64) (l:List Pf) (pre:Pr) (hc:¬ Ch root (DT g pc hl xt)=claim) :
 Ag M 98 [dg claim,BI root ⟨g,pc,hl,xt⟩ l pre] [] 0 (Q3 (Ah (dg Dg.zero) (B7 (some 31))) [] 0):=by
 refine Ab ok.k98 rfl fun x hx=>?_
 refine es 2000 ?_;(simp only [f98,c98,BI,Hd.v,AM,EE,seval])
 have zz:=Bb @dg.eq_1 @AM.eq_1;refine G0 (Dj ok.q.okA ok.d root g pc hl xt) ?_
 (simp only [eq_false hc,EE,Ws,seval])
 have zz:=C4 @Aw @dg.eq_1 @LM;exact Bf hx [] ⟨rfl,rfl,rfl⟩
theorem Jq {M:Seat} (ok:OkOs M) (root:Dg) (g:Nat→BitVec 64) (pc:BitVec 64) (hl:Bool) (xt:BitVec 64) (l:List Pf) (pre:Pr) (g1:Nat→BitVec 64) (pc1:BitVec 64) (hl1:Bool) (xt1:BitVec 64) (e:Option Int) (c1:Ck)
 (hN:Ag M 241 [AM g pc hl xt,.ifc 426 (.ptr 0 [])] [(0,(⟨root,l,pre⟩:Ck).vv)] 1 (Q3 (Ah (AM g1 pc1 hl1 xt1) (B7 e)) [(0,c1.vv)] 2)) (q:Dg × Option Int) (hq:vfX e c1 ⟨g1,pc1,hl1,xt1⟩=q) :
 Ag M 98 [dg (Ch root (DT g pc hl xt)),BI root ⟨g,pc,hl,xt⟩ l pre] [] 0 (Q3 (Ah (dg q.1) (B7 q.2)) [] 0):=by
 refine Ab ok.k98 rfl fun x hx=>?_
 obtain ⟨root1,l1,pre1⟩:=c1
 cases e with
 | some n =>
   have hq:(Dg.zero,some n)=q:=hq
   subst hq
   refine es 2000 ?_;(simp only [f98,c98,BI,Hd.v,AM,EE,seval])
   have zz:=Bb @dg.eq_1 @AM.eq_1;refine G0 (Dj ok.q.okA ok.d root g pc hl xt) ?_
   (simp only [EE,seval])
   have zz:=Ka @Ck.vv.eq_1 @AM.eq_1 @dg.eq_1 Fs;refine Bw [400] [400] (hN) ?_
   (simp only [Ck.vv,Oh,AM,Aw,Ws,seval])
   have zz:=C4 @Aw @dg.eq_1 @LM;exact Bf hx [] ⟨rfl,rfl,rfl⟩
 | none =>
   have hq:vfE ⟨root1,l1,pre1⟩ ⟨g1,pc1,hl1,xt1⟩=q:=hq
   cases l1 with
   | nil =>
     rw [vfE,if_pos rfl] at hq
     subst hq
     refine es 2000 ?_;(simp only [f98,c98,BI,Hd.v,AM,EE,seval])
     have zz:=Bb @dg.eq_1 @AM.eq_1;refine G0 (Dj ok.q.okA ok.d root g pc hl xt) ?_
     (simp only [EE,seval])
     have zz:=Ka @Ck.vv.eq_1 @AM.eq_1 @dg.eq_1 Fs;refine Bw [400] [400] (hN) ?_
     (simp only [Ck.vv,Oh,AM,B0,Ws,List.length_nil,seval])
     have zz:=Bb @dg.eq_1 @AM.eq_1;refine G0 (Dj ok.q.okA ok.d root1 g1 pc1 hl1 xt1) ?_
     (simp only [EE,seval])
     have zz:=C4 @B0 @dg.eq_1 @LM;exact Bf hx [] ⟨rfl,rfl,rfl⟩
   | cons p l1 =>
     rw [vfE,if_neg B5] at hq
     subst hq
     have h0:((0:Int) < ((l1.length + 1:Nat):Int))=True:=eq_true Aa
     refine es 2000 ?_;(simp only [f98,c98,BI,Hd.v,AM,EE,seval])
     have zz:=Bb @dg.eq_1 @AM.eq_1;refine G0 (Dj ok.q.okA ok.d root g pc hl xt) ?_
     (simp only [EE,seval])
     have zz:=Ka @Ck.vv.eq_1 @AM.eq_1 @dg.eq_1 Fs;refine Bw [400] [400] (hN) ?_
     (simp only [Ck.vv,Oh,AM,B0,Ws,List.length_cons,h0,seval])
     have zz:=C4 @Aw @dg.eq_1 @LM;exact Bf hx [] ⟨rfl,rfl,rfl⟩
def Agv:LC:=(sr [mI 2 0,
 mI 3 0] (.seq (sr [mt 6 0,A1 7 (.eq false true (.iface [74]) (.t 6) (.c .nili))] (.cond (.t 7) (sr [mI 2 0,A1 3 (.mv (.c (.int .i64 (-1))))] .ret) .skip)) (sr [A1 4 (.alloc (.int .i64))] (.seq (sr [mt 8 0,A1 9 (.mkif 394 (.t 4)),kl 10 93 [(.t 8),(.t 9)],A1 11 (.un .not (.t 10))] (.cond (.t 11) (sr [A1 2 (.mv (.c (.int .i64 (-1)))),A1 3 (.mv (.c (.int .i64 (-1))))] .ret) .skip)) (sr [A1 5 (.alloc .ptr)] (.seq (sr [mt 12 0,A1 13 (.mkif 147 (.t 5)),kl 14 93 [(.t 12),(.t 13)],mt 15 14,A2 16 15 true (.load false 1 (.t 5)),A2 17 15 true (.eq true true .ptr (.t 16) (.c .nilp)),
  Fq 18 15 17] (.cond (.t 18) (.seq (.regd [⟨0,0,lb 19 1 4⟩,⟨1,0,lb 20 1 5⟩,⟨2,2,nc 21 20⟩,⟨3,6,fa 22 0 21⟩,⟨4,14,lb 23 1 22⟩,⟨5,1,mt 2 19⟩,⟨6,63,mt 3 23⟩]) .ret) .skip)) (sr [lb 24 1 4,mt 2 24,A1 3 (.mv (.c (.int .i64 (-1))))] .ret)))))))
def Afx:LF:=⟨Agv,1,0,25,[.tmp 2,.tmp 3]⟩
abbrev erN (a:Int):V:=.ifc 74 (.int .i64 a)
structure OkN (M:Seat):Prop where
 k140:Au M 140 Afx=true
 as1:∀ a b:Int,Ag M 93 [erN a,.ifc 394 (.ptr 0 [])] [(0,.int .i64 b)] 1 (Q3 (.bool true) [(0,.int .i64 a)] 1)
 as2:∀ a:Int,Ag M 93 [erN a,.ifc 147 (.ptr 0 [])] [(0,.nilp)] 1 (Q3 (.bool false) [(0,.nilp)] 1)
theorem Als {M:Seat} (ok:OkN M):Ag M 140 [.nili] [] 0 (Q3 (Ah (.int .i64 0) (.int .i64 (-1))) [] 0):=by
 refine Ab ok.k140 rfl fun x hx=>?_
 refine es 2000 ?_;(simp only [Afx,Agv,LZ,seval])
 exact Ar.mkZ hx [] ⟨rfl,rfl,rfl⟩
theorem Ana {M:Seat} (ok:OkN M) (a:Int):Ag M 140 [erN a] [] 0 (Q3 (Ah (.int .i64 a) (.int .i64 (-1))) [] 0):=by
 refine Ab ok.k140 rfl fun x hx=>?_
 refine es 2000 ?_;(simp only [Afx,Agv,LZ,seval])
 refine HY [64] (ok.as1 a 0) ?_
 (simp only [LZ,seval])
 refine HY [144] (ok.as2 a) ?_
 (simp only [LZ,seval])
 exact Ar.mkZ hx [] ⟨rfl,rfl,rfl⟩
def c78:LC:=(sr [A1 2 (.mv (.c .nils)),
 mU 3 0,A1 4 (.mv (.c (.bool false)))] (sr [mt 7 0,
  aU 8 .shr 7 56,
  D0 9 .i64 8,mt 5 9] (.seq (sr [mt 10 5,aI 11 .gtr 10 35,mt 12 11,mg 13 12 false 0,A2 14 12 false (.ari .shr (.t 13) (cU 32)),A2 15 12 false (.ari .and (.t 14) (cU 255)),A2 16 12 false (.ari .neq (.t 15) (cU 0)),
  BV 17 12 16] (.cond (.t 17) (sr [A1 18 (.bsl 1 5 (.int .i64) [(.i 1 0,1,(cI 0)),(.i 1 1,1,(cI 0)),(.i 1 2,1,(cI 0)),(.i 1 3,1,(cI 0)),(.i 1 4,1,(cI 0))]),mt 2 18,
  mU 3 0,A1 4 (.mv (.c (.bool false)))] .ret) .skip)) (sr [mt 19 0,
  aU 20 .and 19 4294967295,mt 6 20] (.seq (sr [mt 21 6,
  aU 22 .geq 21 2147483648] (.cond (.t 22) (.reg [mt 23 6,
  aU 24 .add 23 18446744069414584320,mt 6 24]) .skip)) (sr [mt 25 5,mt 26 0,
  aU 27 .shr 26 52,
  aU 28 .and 27 15,
  D0 29 .i64 28,mt 30 0,
  aU 31 .shr 30 48,
  aU 32 .and 31 15,
  D0 33 .i64 32,mt 34 0,
  aU 35 .shr 34 44,
  aU 36 .and 35 15,
  D0 37 .i64 36,mt 38 0,
  aU 39 .shr 38 40,
  aU 40 .and 39 15,
  D0 41 .i64 40,A1 42 (.bsl 1 5 (.int .i64) [(.i 1 0,1,(.t 25)),(.i 1 1,1,(.t 29)),(.i 1 2,1,(.t 33)),(.i 1 3,1,(.t 37)),(.i 1 4,1,(.t 41))]),mt 43 6,mt 2 42,mt 3 43,A1 4 (.mv (.c (.bool true)))] .ret))))))
def f78:LF:=⟨c78,1,0,44,[.tmp 2,.tmp 3,.tmp 4]⟩
structure OkRP (M:Seat):Prop where
 k78:Au M 78 f78=true
def Amj (w:BitVec 64):Bool:=decide (CP w≤35∧w >>> 32 &&& 255#64=0#64)
def rpt (w:BitVec 64) (i:Nat):Int:=if i=0 then (CP w:Nat) else if i=1 then (pF w 52:Nat) else if i=2 then (pF w 48:Nat) else if i=3 then (pF w 44:Nat) else (pF w 40:Nat)
theorem Aph (w:BitVec 64) (h:2147483648#64≤w &&& 4294967295#64):(w &&& 4294967295#64) + 18446744069414584320#64=BitVec.ofInt 64 (pN w):=by
 have e:(w &&& 4294967295#64).toNat=w.toNat % 4294967296:=by
  rw [BitVec.toNat_and,show (4294967295#64).toNat=2 ^ 32 - 1 from rfl,Nat.and_two_pow_sub_one_eq_mod]
 have h':2147483648≤w.toNat % 4294967296:=by rw [← e];exact h
 apply BitVec.eq_of_toNat_eq
 rw [BitVec.toNat_add,e,show (18446744069414584320#64).toNat=18446744069414584320 from rfl,BitVec.toNat_ofInt,Ao7,if_neg Aa]
 omega
theorem Amp (w:BitVec 64) (h:¬ 2147483648#64≤w &&& 4294967295#64):(w &&& 4294967295#64)=BitVec.ofInt 64 (pN w):=by
 have e:(w &&& 4294967295#64).toNat=w.toNat % 4294967296:=by
  rw [BitVec.toNat_and,show (4294967295#64).toNat=2 ^ 32 - 1 from rfl,Nat.and_two_pow_sub_one_eq_mod]
 have h':¬ 2147483648≤w.toNat % 4294967296:=by rw [← e];exact h
 apply BitVec.eq_of_toNat_eq
 rw [e,BitVec.toNat_ofInt,Ao7,if_pos Aa]
 omega
theorem Akd {M:Seat} (ok:OkRP M) (w:BitVec 64) (h:Amj w=true) :
 Ag M 78 [W w] [] 0 (Q3 (AS (.sl 0 [] 0 5 1) (W (BitVec.ofInt 64 (pN w))) (.bool true)) [(0,.ar 1 5 fun i=>.int .i64 (rpt w i))] 1):=by
 simp only [Amj,decide_eq_true_eq] at h
 refine Ab ok.k78 rfl fun x hx=>?_
 have e1:((35:Int) < (CP w:Int))=False:=eq_false Aa
 have h2:=h.2
 by_cases hb:2147483648#64≤w &&& 4294967295#64
 ·refine es 2000 ?_;(simp only [f78,c78,Lw,Ab7,e1,h2,eq_true hb,Aph w hb,LZ,seval])
  repeat refine sd ?_
  refine Rv hx [640] (AS (.sl 0 [] 0 5 1) (W (BitVec.ofInt 64 (pN w))) (.bool true)) ([(0,.ar 1 5 fun i=>.int .i64 (rpt w i))]) 1 ?_
  simp only [LY,seval]
  intro i hi
  have:i=0 ∨ i=1 ∨ i=2 ∨ i=3 ∨ i=4:=Aa
  rcases this with rfl | rfl | rfl | rfl | rfl <;> rfl
 ·have hb':(2147483648#64≤BitVec.ofInt 64 (pN w))=False:=by rw [← Amp w hb];exact eq_false hb
  refine es 2000 ?_;(simp only [f78,c78,Lw,Ab7,e1,h2,eq_false hb,hb',Amp w hb,LZ,seval])
  repeat refine sd ?_
  refine Rv hx [592] (AS (.sl 0 [] 0 5 1) (W (BitVec.ofInt 64 (pN w))) (.bool true)) ([(0,.ar 1 5 fun i=>.int .i64 (rpt w i))]) 1 ?_
  simp only [LY,seval]
  intro i hi
  have:i=0 ∨ i=1 ∨ i=2 ∨ i=3 ∨ i=4:=Aa
  rcases this with rfl | rfl | rfl | rfl | rfl <;> rfl
def c90:LC:=(sr [mU 8 0,
 mI 9 0] (.seq (sr [mt 18 0] (.block 0 (sr [aI 20 .eql 18 1,mt 19 20] (.cond (.t 19) (sr [mt 21 1,mt 22 2,ak 23 .add 21 22,mt 8 23,
  mI 9 0] .ret) (sr [aI 25 .eql 18 2,mt 24 25] (.cond (.t 24) (sr [mt 26 1,mt 27 2,ak 28 .sub 26 27,mt 8 28,
  mI 9 0] .ret) (sr [aI 30 .eql 18 3,mt 29 30] (.cond (.t 29) (sr [mt 32 1,mt 33 2,kl 34 226 [(.t 32),(.t 33)],mt 31 34,ee 35 31 0,ee 36 31 1,mt 10 35,mt 11 36] (sr [mt 37 11,mt 8 37,
  mI 9 0] .ret)) (.seq (sr [aI 39 .eql 18 4,mt 38 39] (.cond (.t 38) .skip (sr [aI 40 .eql 18 5,mt 38 40] (.cond (.t 38) .skip (sr [aI 41 .eql 18 6,mt 38 41] (.cond (.t 38) .skip (.reg [aI 42 .eql 18 7,mt 38 42]))))))) (.cond (.t 38) (sr [mt 43 0,mt 44 1,mt 45 2,kl 46 227 [(.t 43),(.t 44),(.t 45)],mt 8 46,
  mI 9 0] .ret) (.seq (sr [aI 48 .eql 18 8,mt 47 48] (.cond (.t 47) .skip (.reg [aI 49 .eql 18 9,mt 47 49]))) (.cond (.t 47) (.seq (sr [mt 50 3,
  aU 51 .eql 50 0] (.cond (.t 51) (sr [mU 8 0,
  mI 9 0] .ret) .skip)) (sr [mt 53 1,mt 54 2,kl 55 226 [(.t 53),(.t 54)],mt 52 55,ee 56 52 0,ee 57 52 1,mt 12 56,mt 13 57] (.seq (sr [mt 58 0,aI 59 .eql 58 8] (.cond (.t 59) (sr [mt 60 1,mt 61 2,ak 62 .add 60 61,mt 13 62] (.reg [mt 63 13,mt 64 1,ak 65 .lss 63 64,kl 66 228 [(.t 65)],mt 12 66])) .skip)) (sr [mt 68 12,mt 69 13,mt 70 3,kl 71 229 [(.t 68),(.t 69),(.t 70)],mt 67 71,ee 72 67 0,ee 73 67 1,mt 14 72,mt 15 73] (sr [mt 74 15,mt 8 74,
  mI 9 0] .ret))))) (sr [aI 76 .eql 18 10,mt 75 76] (.cond (.t 75) (sr [mU 16 1] (.seq (sr [mI 17 63] (.block 1 (.loop (.seq (sr [mt 77 17,aI 78 .geq 77 0]
 (Dd 78 1)) (.seq (.block 2 (sr [mt 81 16,mt 82 16,ak 83 .mul 81 82,mt 16 83] (sr [mt 84 2,mt 85 17,
  D0 86 .u64 85,ak 87 .shr 84 86,
  aU 88 .and 87 1,
  aU 89 .eql 88 1] (.cond (.t 89) (.reg [mt 90 16,mt 91 1,ak 92 .mul 90 91,mt 16 92]) .skip)))) (.reg [mt 79 17,aI 80 .sub 79 1,mt 17 80])))))) (sr [mt 93 16,mt 8 93,
  mI 9 0] .ret))) (.seq (sr [aI 95 .eql 18 11,mt 94 95] (.cond (.t 94) .skip (sr [aI 96 .eql 18 12,mt 94 96] (.cond (.t 94) .skip (sr [aI 97 .eql 18 13,mt 94 97] (.cond (.t 94) .skip (sr [aI 98 .eql 18 14,mt 94 98] (.cond (.t 94) .skip (.reg [aI 99 .eql 18 15,mt 94 99]))))))))) (.cond (.t 94) (sr [mt 100 0,mt 101 1,mt 102 2,kl 103 230 [(.t 100),(.t 101),(.t 102)],mt 8 103,
  mI 9 0] .ret) (sr [aI 105 .eql 18 16,mt 104 105] (.cond (.t 104) (sr [mt 106 1,mt 107 2,ak 108 .lss 106 107,kl 109 228 [(.t 108)],mt 8 109,
  mI 9 0] .ret) (sr [aI 111 .eql 18 17,mt 110 111] (.cond (.t 110) (sr [mt 112 1,mt 113 2,ak 114 .gtr 112 113,kl 115 228 [(.t 114)],mt 8 115,
  mI 9 0] .ret) (sr [aI 117 .eql 18 18,mt 116 117] (.cond (.t 116) (sr [mt 118 1,
  aU 119 .xor 118 9223372036854775808,mt 120 2,
  aU 121 .xor 120 9223372036854775808,ak 122 .lss 119 121,kl 123 228 [(.t 122)],mt 8 123,
  mI 9 0] .ret) (sr [aI 125 .eql 18 19,mt 124 125] (.cond (.t 124) (sr [mt 126 1,
  aU 127 .xor 126 9223372036854775808,mt 128 2,
  aU 129 .xor 128 9223372036854775808,ak 130 .gtr 127 129,kl 131 228 [(.t 130)],mt 8 131,
  mI 9 0] .ret) (sr [aI 133 .eql 18 20,mt 132 133] (.cond (.t 132) (sr [mt 134 1,mt 135 2,ak 136 .eql 134 135,kl 137 228 [(.t 136)],mt 8 137,
  mI 9 0] .ret) (sr [aI 139 .eql 18 21,mt 138 139] (.cond (.t 138) (sr [mt 140 1,
  aU 141 .eql 140 0,kl 142 228 [(.t 141)],mt 8 142,
  mI 9 0] .ret) (sr [aI 144 .eql 18 22,mt 143 144] (.cond (.t 143) (sr [mt 145 1,mt 146 2,ak 147 .and 145 146,mt 8 147,
  mI 9 0] .ret) (sr [aI 149 .eql 18 23,mt 148 149] (.cond (.t 148) (sr [mt 150 1,mt 151 2,ak 152 .or 150 151,mt 8 152,
  mI 9 0] .ret) (sr [aI 154 .eql 18 24,mt 153 154] (.cond (.t 153) (sr [mt 155 1,mt 156 2,ak 157 .xor 155 156,mt 8 157,
  mI 9 0] .ret) (sr [aI 159 .eql 18 25,mt 158 159] (.cond (.t 158) (sr [mt 160 1,
  aU 161 .xor 160 18446744073709551615,mt 8 161,
  mI 9 0] .ret) .skip)))))))))))))))))))))))))))))))))))) (sr [mU 8 0,
  mI 9 10] .ret)))
def f90:LF:=⟨c90,4,0,162,[.tmp 8,.tmp 9]⟩
structure OkX (M:Seat):Prop where
 k90:Au M 90 f90=true
def Atb (r n b:BitVec 64):Prop:=r >>> 63=1#64 ∨ n≤(r <<< 1 ||| b)
instance (r n b:BitVec 64):Decidable (Atb r n b):=inferInstanceAs (Decidable (_ ∨ _))
structure OkRM (M:Seat):Prop where
 rp:OkRP M
 x:OkX M
theorem As0 (w:BitVec 64):rpt w 0=(CP w:Nat):=rfl
theorem As4 (w:BitVec 64):rpt w 1=(pF w 52:Nat):=rfl
theorem As6 (w:BitVec 64):rpt w 2=(pF w 48:Nat):=rfl
theorem As8 (w:BitVec 64):rpt w 3=(pF w 44:Nat):=rfl
def La9:=(GM @As0 @As4 @As6 @As8 @AS.eq_1)
theorem Amk (w:BitVec 64):rpt w 4=(pF w 40:Nat):=rfl
def rp (l:List (Dg × Pr)) (i:Nat):Pr:=(l.getD i (Dg.zero,Pr.zero)).2
variable {M:Seat}
theorem Alf (ok:OkW2 M) (i:Nat) (v:Dg) (p:List Dg) (hp:p.length≤16) (hi:i < 2 ^ p.length) :
 Ag M 65 [.int .i64 i,dg v,row p] [] 0 (Q3 (Ah (dg (C1 i v p p.length)) (.int .i64 0)) [] 0):=by
 refine Ab ok.k65 rfl fun x hx=>?_
 have h16:(2:Nat) ^ p.length≤2 ^ 16:=Nat.pow_le_pow_right Aa hp
 have hi':i < 65536:=Aa
 have e0:((16:Int) < (p.length:Int))=False:=eq_false Aa
 have e1:((i:Int) < 0)=False:=eq_false Aa
 have e2:(BitVec.ofInt 64 (p.length:Int)).toNat=p.length:=by rw [OP _ Aa Aa];rfl
 have e3:IntKind.i64.wrap (1 * 2 ^ min p.length 64)=((2 ^ p.length:Nat):Int):=by
  rw [Nat.min_eq_left Aa,Int.one_mul,Acv,AY Aa]
 have e4:(((2 ^ p.length:Nat):Int)≤(i:Int))=False:=eq_false Aa
 refine es 2000 ?_;(simp only [f65,c65,row,e0,e1,e2,e3,e4,LZ,seval])
 refine An (σ:=Nat) (fun q=>q≤p.length) (fun q=>fr 50 [(0,.int .i64 i),(2,.lst 32 p.length (Fk p)),(4,.ptr 0 []),(6,.ptr 1 []),(8,.int .i64 q)])
  (fun q=>[(0,dg (C1 i v p q)),(1,dg Dg.zero)]) (fun _=>2) (fun q=>p.length - q) 0 Aa ?_ ?_
 ·refine Ao.fr [0,16] [] hx AQ Am ?_ ?_
  ·simp only [LY,seval]
  ·simp only [C1,dg,LY,seval]
 ·intro q hq
  refine es 2000 ?_
  by_cases h13:q=p.length
  ·subst h13
   have d0:((p.length:Int) < (p.length:Int))=False:=eq_false Aa
   (simp only [d0,LZ,seval])
   refine Ar.mk hx [] [] (Ah (dg (C1 i v p p.length)) (.int .i64 0)) [] 0 Am (by (simp only [CU,seval])) (by (try simp only [OJ,seval]) <;> exact q2) trivial ⟨rfl,rfl,rfl⟩
  ·have d0:((q:Int) < (p.length:Int))=True:=eq_true Aa
   have f0:(i:Int).fdiv (2 ^ min q 64)=((i / 2 ^ q:Nat):Int):=by rw [Nat.min_eq_left Aa];exact Aou i q
   have f1:(BitVec.ofInt 64 (q:Int)).toNat=q:=by rw [OP _ Aa Aa];rfl
   have f2:((i / 2 ^ q:Nat):Int).tmod 2=((i / 2 ^ q % 2:Nat):Int):=Aqe _ 2
   have w0:IntKind.i64.wrap ((q:Int) + 1)=((q + 1:Nat):Int):=AZ
   by_cases h2:i / 2 ^ q % 2=0
   ·have d1:(((i / 2 ^ q % 2:Nat):Int)=0)=True:=eq_true Aa
    (simp only [d0,f0,f1,f2,d1,LZ,seval])
    repeat refine sd ?_
    refine Bq (Akb ok.b (C1 i v p q) (p.getD q Dg.zero)) ?_
    (simp only [w0,LZ,seval])
    repeat refine sd ?_
    refine ⟨q + 1,by omega,by omega,?_⟩
    refine Ao.fr [0,1] [] hx AQ Am ?_ ?_
    ·simp only [LY,seval]
    ·simp only [LY,seval]
     rw [C1,if_pos h2]
   ·have d1:(((i / 2 ^ q % 2:Nat):Int)=0)=False:=eq_false Aa
    (simp only [d0,f0,f1,f2,d1,LZ,seval])
    repeat refine sd ?_
    refine Bq (Akb ok.b (p.getD q Dg.zero) (C1 i v p q)) ?_
    (simp only [w0,LZ,seval])
    repeat refine sd ?_
    refine ⟨q + 1,by omega,by omega,?_⟩
    refine Ao.fr [0,1] [] hx AQ Am ?_ ?_
    ·simp only [LY,seval]
    ·simp only [LY,seval]
     rw [C1,if_neg h2]
structure OkRS (M:Seat):Prop where
 w:OkW2 M
 r:OkRM M
 k349:Au M 349 Am4=true
 k449:Au M 449 Ar6=true
 k450:Au M 450 Aq5=true
 k451:Au M 451 Ap9=true
def ckD (c:Ck):V:=.st 34 (.fcons 0 (dg c.root) (.fcons 32 (.lst 2 c.l.length (HC c.l)) (.fcons 33 (.int .i64 0) .fnil)))
theorem Ala (ok:OkRS M) (pc:BitVec 64) (hl:Bool) (xt e:BitVec 64) :
 Ag M 449 [hdR (.sl 0 [] 0 16 1) pc hl xt,W e] [] 1 (Q3 (hdR (.sl 0 [] 0 16 1) pc true e) [] 1):=by
 refine Ab ok.k449 rfl fun x hx=>?_
 refine es 2000 ?_;(simp only [Ar6,Asv,hdR,LZ,seval])
 have zz:=@hdR.eq_1;exact Bf hx [0] ⟨rfl,rfl,rfl⟩
theorem Alp (ok:OkRS M) (root:Dg) (p:Pf) (l:List Pf) (pre:Pr) (a v:BitVec 64) (ha:¬ 8192#64≤a) (hp:p.p.length=13) (hf:C1 a.toNat (BC p.v) p.p 13=root) (b:Bool) :
 Ag M 451 [.ptr 0 [],W a,W v,.bool b] [(0,ckD ⟨root,p :: l,pre⟩)] 1 (Q3 (W p.v) [(0,ckD ⟨if b then C1 a.toNat (BC v) p.p 13 else root,l,pre⟩)] 1):=by
 refine Ab ok.k451 rfl fun x hx=>?_
 have e0:(((l.length + 1:Nat):Int)=0)=False:=eq_false Aa
 have e1:HC (p :: l) 0=Il p:=rfl
 have e2:l.length + 1 - 1=l.length:=rfl
 have e3:∀ i,HC (p :: l) (1 + i)=HC l i:=fun i=>by rw [Nat.add_comm];rfl
 have ha':=pfl a ha
 have w0:a.toInt=(a.toNat:Int):=BitVec.toInt_eq_toNat_of_lt Aa
 have hF:=fun u=>Alf ok.w a.toNat (BC u) p.p Aa (by rw [hp];omega)
 simp only [hp,row] at hF
 have hF1:=hF p.v
 rw [hf] at hF1
 refine es 2000 ?_;(simp only [Ap9,Aqj,ckD,List.length_cons,e0,e1,e2,e3,QF hp,LZ,seval])
 repeat refine sd ?_
 refine Bq (Akt ok.w p.v) ?_
 (simp only [w0,LZ,seval])
 have zz:=Bb @Fk.eq_1 @dg.eq_1;refine G0 (hF1) ?_
 (simp only [AH,seval])
 cases b with
 | false =>
   (simp only [LZ,seval])
   have zz:=Bb VS @Fk.eq_1;exact Bf hx [0] ⟨rfl,rfl,rfl⟩
 | true =>
   (simp only [LZ,seval])
   refine Bq (Akt ok.w v) ?_
   (simp only [w0,LZ,seval])
   have zz:=Bb @Fk.eq_1 @dg.eq_1;refine G0 (hF v) ?_
   (simp only [AH,seval])
   have zz:=Bb VS @Fk.eq_1;exact Bf hx [0] ⟨rfl,rfl,rfl⟩
theorem Anz (ok:OkRS M) (root:Dg) (p:Pf) (l:List Pf) (pre:Pr) (a:BitVec 64) (ha:¬ 8192#64≤a) (hp:p.p.length=13) (hf:C1 a.toNat (BC p.v) p.p 13=root) :
 Ag M 450 [.ptr 0 [],W a] [(0,ckD ⟨root,p :: l,pre⟩)] 1 (Q3 (W p.v) [(0,ckD ⟨root,l,pre⟩)] 1):=by
 refine Ab ok.k450 rfl fun x hx=>?_
 have h:=Alp ok root p l pre a 0#64 ha hp hf false
 simp only [SR] at h
 refine es 2000 ?_;(simp only [Aq5,Aq3,LZ,seval])
 have zz:=C4 @ckD.eq_1 @dg.eq_1 @Be;refine Bw [0] [0] (h) ?_
 (simp only [ckD,Ake,EE,seval])
 have zz:=Bb @Be @dg.eq_1;exact Bf hx [0] ⟨rfl,rfl,rfl⟩
variable {M:Seat}
def dsH (c:Ck) (g:Nat→BitVec 64):Hp:=[(0,ckD c),(1,.ar 1 16 fun j=>W (g j))]
abbrev hdS (pc:BitVec 64) (hl:Bool) (xt:BitVec 64):V:=hdR (.sl 1 [] 0 16 1) pc hl xt
abbrev RdR (M:Seat) (c:Ck) (a w:BitVec 64) (c1:Ck):Prop:=Ag M 450 [.ptr 0 [],W a] [(0,ckD c)] 1 (Q3 (W w) [(0,ckD c1)] 1)
abbrev WrR (M:Seat) (c:Ck) (a v w:BitVec 64) (c1:Ck):Prop:=Ag M 451 [.ptr 0 [],W a,W v,.bool true] [(0,ckD c)] 1 (Q3 (W w) [(0,ckD c1)] 1)
abbrev DsR (M:Seat) (g:Nat→BitVec 64) (pc:BitVec 64) (hl:Bool) (xt:BitVec 64) (pre:Pr) (c:Ck) (g1:Nat→BitVec 64) (pc1:BitVec 64) (hl1:Bool) (xt1:BitVec 64) (c1:Ck):Prop :=
 Ag M 349 [.ptr 0 [],hdS pc hl xt,Bk pre] (dsH c g) 2 (Q3 (hdS pc1 hl1 xt1) (dsH c1 g1) 2)
theorem Aom (ok:OkRS M) (g:Nat→BitVec 64) (pc xt:BitVec 64) (pre:Pr) (c:Ck) (hpc:8192#64≤pc):DsR M g pc false xt pre c g pc true Bn c:=by
 refine Ab ok.k349 rfl fun x hx=>?_
 refine es 2000 ?_;(simp only [Am4,Amu,hdR,Bk,dsH,eq_true hpc,LZ,seval])
 have zz:=@hdR.eq_1;refine Om [1] [] (Ala ok pc false xt Bn) ?_
 (simp only [hdR,LZ,seval])
 have zz:=Ka @hdR.eq_1 @ckD.eq_1 @Be @dg.eq_1;exact Bf hx [0,1] ⟨rfl,rfl,rfl⟩
theorem Aow (ok:OkRS M) (g:Nat→BitVec 64) (pc xt:BitVec 64) (pre:Pr) (c:Ck) (hpc:¬ 8192#64≤pc) (c1:Ck) (w:BitVec 64) (hR:RdR M c pc w c1) (h:Amj w=true) (hop:CP w=26):DsR M g pc false xt pre c (FI g (pF w 52) (BitVec.ofInt 64 (pN w))) (pc + 1#64) false xt c1:=by
 refine Ab ok.k349 rfl fun x hx=>?_
 have a1:=A5 w 52
 have a2:=A5 w 48
 have a3:=A5 w 44
 have a4:=A5 w 40
 refine es 2000 ?_;(simp only [Am4,Amu,hdR,Bk,dsH,hpc,LZ,seval])
 have zz:=C4 @ckD.eq_1 @dg.eq_1 Fs;refine Bw [0] [0] (hR) ?_
 (simp only [ckD,Ake,EE,seval])
 have zz:=La9;refine Kb (Akd ok.r.rp w h) ?_
 (simp only [La9,Amk,ckD,dg,hop,LZ,seval])
 repeat refine sd ?_
 have zz:=GM @hdR.eq_1 @ckD.eq_1 @Be @dg.eq_1 Zh;exact Bf hx [0,1] ⟨rfl,rfl,rfl⟩
theorem Alk (ok:OkRS M) (g:Nat→BitVec 64) (pc xt:BitVec 64) (pre:Pr) (c:Ck) (hpc:¬ 8192#64≤pc) (c1:Ck) (w:BitVec 64) (hR:RdR M c pc w c1) (h:Amj w=true) (hop:CP w=28) (hx2:8192#64≤g (pF w 48) + BitVec.ofInt 64 (pN w)):DsR M g pc false xt pre c g pc true Bn c1:=by
 refine Ab ok.k349 rfl fun x hx=>?_
 have a1:=A5 w 52
 have a2:=A5 w 48
 have a3:=A5 w 44
 have a4:=A5 w 40
 refine es 2000 ?_;(simp only [Am4,Amu,hdR,Bk,dsH,hpc,LZ,seval])
 have zz:=C4 @ckD.eq_1 @dg.eq_1 Fs;refine Bw [0] [0] (hR) ?_
 (simp only [ckD,Ake,EE,seval])
 have zz:=La9;refine Kb (Akd ok.r.rp w h) ?_
 (simp only [La9,Amk,ckD,dg,hop,eq_true hx2,LZ,seval])
 repeat refine sd ?_
 have zz:=@hdR.eq_1;refine Om [1] [] (Ala ok pc false xt Bn) ?_
 (simp only [hdR,LZ,seval])
 have zz:=GM @hdR.eq_1 @ckD.eq_1 @Be @dg.eq_1 Zh;exact Bf hx [0,1] ⟨rfl,rfl,rfl⟩
theorem Ano (ok:OkRS M) (g:Nat→BitVec 64) (pc xt:BitVec 64) (pre:Pr) (c:Ck) (hpc:¬ 8192#64≤pc) (c1:Ck) (w:BitVec 64) (hR:RdR M c pc w c1) (h:Amj w=true) (hop:CP w=28) (hx2:¬ 8192#64≤g (pF w 48) + BitVec.ofInt 64 (pN w)) (v:BitVec 64) (c2:Ck) (hR2:WrR M c1 (g (pF w 48) + BitVec.ofInt 64 (pN w)) (g (pF w 44)) v c2):DsR M g pc false xt pre c g (pc + 1#64) false xt c2:=by
 refine Ab ok.k349 rfl fun x hx=>?_
 have a1:=A5 w 52
 have a2:=A5 w 48
 have a3:=A5 w 44
 have a4:=A5 w 40
 refine es 2000 ?_;(simp only [Am4,Amu,hdR,Bk,dsH,hpc,LZ,seval])
 have zz:=C4 @ckD.eq_1 @dg.eq_1 Fs;refine Bw [0] [0] (hR) ?_
 (simp only [ckD,Ake,EE,seval])
 have zz:=La9;refine Kb (Akd ok.r.rp w h) ?_
 (simp only [La9,Amk,ckD,dg,hop,eq_false hx2,LZ,seval])
 repeat refine sd ?_
 have zz:=C4 @ckD.eq_1 @dg.eq_1 Fs;refine Bw [0] [0] (hR2) ?_
 (simp only [ckD,Ake,EE,La9,Amk,seval])
 repeat refine sd ?_
 have zz:=GM @hdR.eq_1 @ckD.eq_1 @Be @dg.eq_1 Zh;exact Bf hx [0,1] ⟨rfl,rfl,rfl⟩
theorem Anm {M:Seat} (ok:OkRS M) (g:Nat→BitVec 64) (pc xt:BitVec 64) (pre:Pr) (c:Ck) (hpc:¬ 8192#64≤pc) (c1:Ck) (w:BitVec 64) (hR:RdR M c pc w c1) (h:Amj w=true) (to ga:BitVec 64) (hto:BitVec.ofInt 64 (pN w)=to) (hga:g (pF w 48)=ga)
 (ho:(CP w=29∧8192#64≤to) ∨ (CP w=30∧ga=0#64∧8192#64≤to) ∨ (CP w=31∧¬ ga=0#64∧8192#64≤to) ∨ (CP w=32∧8192#64≤to) ∨ (CP w=33∧8192#64≤ga)):DsR M g pc false xt pre c g pc true Bn c1:=by
 refine Ab ok.k349 rfl fun x hx=>?_
 have a1:=A5 w 52
 have a2:=A5 w 48
 have a3:=A5 w 44
 have a4:=A5 w 40
 rcases ho with ⟨hop,h1⟩ | ⟨hop,h0,h1⟩ | ⟨hop,h0,h1⟩ | ⟨hop,h1⟩ | ⟨hop,h1⟩
 all_goals try simp only [h0] at hga
 all_goals
  refine es 2000 ?_;(simp only [Am4,Amu,hdR,Bk,dsH,hpc,LZ,seval])
  have zz:=C4 @ckD.eq_1 @dg.eq_1 Fs;refine Bw [0] [0] (hR) ?_
  (simp only [ckD,Ake,EE,seval])
  have zz:=La9;refine Kb (Akd ok.r.rp w h) ?_
  first | (have hh0:=h0;(simp only [La9,Amk,ckD,dg,hh0,hop,hga,hto,(eq_true h1),LZ,seval])) | (simp only [La9,Amk,ckD,dg,hop,hga,hto,(eq_true h1),LZ,seval])
  repeat refine sd ?_
  have zz:=@hdR.eq_1;refine Om [1] [] (Ala ok pc false xt Bn) ?_
  (simp only [hdR,LZ,seval])
  have zz:=GM @hdR.eq_1 @ckD.eq_1 @Be @dg.eq_1 Zh;exact Bf hx [0,1] ⟨rfl,rfl,rfl⟩
theorem An0 {M:Seat} (ok:OkRS M) (g:Nat→BitVec 64) (pc xt:BitVec 64) (pre:Pr) (c:Ck) (hpc:¬ 8192#64≤pc) (c1:Ck) (w:BitVec 64) (hR:RdR M c pc w c1) (h:Amj w=true) (to ga nx:BitVec 64) (hto:BitVec.ofInt 64 (pN w)=to) (hga:g (pF w 48)=ga) (hnx:¬ 8192#64≤nx)
 (ho:(CP w=29∧to=nx) ∨ (CP w=30∧ga=0#64∧to=nx) ∨ (CP w=31∧¬ ga=0#64∧to=nx) ∨ (CP w=33∧ga=nx)):DsR M g pc false xt pre c g nx false xt c1:=by
 refine Ab ok.k349 rfl fun x hx=>?_
 have a1:=A5 w 52
 have a2:=A5 w 48
 have a3:=A5 w 44
 have a4:=A5 w 40
 rcases ho with ⟨hop,rfl⟩ | ⟨hop,h0,rfl⟩ | ⟨hop,h0,rfl⟩ | ⟨hop,rfl⟩
 all_goals try simp only [h0] at hga
 all_goals
  refine es 2000 ?_;(simp only [Am4,Amu,hdR,Bk,dsH,hpc,LZ,seval])
  have zz:=C4 @ckD.eq_1 @dg.eq_1 Fs;refine Bw [0] [0] (hR) ?_
  (simp only [ckD,Ake,EE,seval])
  have zz:=La9;refine Kb (Akd ok.r.rp w h) ?_
  first | (have hh0:=h0;(simp only [La9,Amk,ckD,dg,hh0,hop,hga,hto,hnx,LZ,seval])) | (simp only [La9,Amk,ckD,dg,hop,hga,hto,hnx,LZ,seval])
  repeat refine sd ?_
  have zz:=GM @hdR.eq_1 @ckD.eq_1 @Be @dg.eq_1 Zh;exact Bf hx [0,1] ⟨rfl,rfl,rfl⟩
end Mv
