/- A part. -/
import Derived.Test.YtpcgkiecjakknaaGreatDoorDN
import Derived.Carry
import Derived.Lib.LaidTab
import Derived.Deep.SlicePairs
set_option linter.all false
set_option maxRecDepth 20000
set_option maxHeartbeats 16000000
namespace Mv
open Go
variable {M:Seat}
theorem P0 (ok:OkMv M) (s v w:Dg) (b:Nat→BitVec 64) (i o k:BitVec 64) (hb:¬ b 1 < 2#64) :
 Ag M 110 [.ptr 0 [],.int .i64 0,.bool false,dg w,.int .i64 1,W 2#64,W 3#64] [(0,Ai 2 10#64 0#64 s (.ptr 2 []) (.sl 1 [] 0 1 42)),(1,.ar 42 1 fun _=>(Ct v).v),(2,Aq b i o (.sl 3 [] 0 1 2) k),(3,.ar 2 1 fun _=>A4 1#64 false)] 4
  (Q3 (Ah (.int .i64 1) .nili) [(0,Ai 2 10#64 0#64 s (.ptr 2 []) (.sl 4 [] 0 2 42)),(2,Aq (fun j=>if j=1 then b 1 - 2#64 else b j) i o (.sl 5 [] 0 2 2) (k + 2#64)),(4,.ar 42 2 fun j=>if j < 1 then (Ct v).v else (IR w 1).v),(5,.ar 2 2 fun j=>if j < 1 then A4 1#64 false else A4 2#64 false)] 6):=by
 have hm:=P7 ok s v w b i o k hb
 simp only [Ct,cl2,IR,Cl.v,Ac,Ai,Al,A4] at hm
 refine Ab ok.g.n.k110 rfl fun x hx=>?_
 refine es 2000 ?_;(simp only [P9,Oz,Ai,Al,Ac,Ct,Cl.v,LZ,seval])
 have zz:=Db @Ai.eq_1 @Al.eq_1 @Ac.eq_1 @Ct.eq_1 @Cl.v.eq_1 @dg.eq_1;refine Bw [0,1,2] [0,1] (KM ok.g 2 10#64 0#64 s v (.ptr 2 []) rfl) ?_
 (simp only [AH,Ai,Al,Ac,Ct,Cl.v,seval])
 have zz:=C4 @dg.eq_1 @Aq.eq_1 @A4.eq_1;refine Bw [0,1,2,3] [0,1,2,3] (hm) ?_
 (simp only [AH,seval])
 refine Ak (FB ok.g 0) ?_
 (simp only [AH,Aq,seval])
 refine Ar.mk hx [0,1,2,3,388,389] [] (Ah (.int .i64 1) .nili) [(0,Ai 2 10#64 0#64 s (.ptr 2 []) (.sl 4 [] 0 2 42)),(2,Aq (fun j=>if j=1 then b 1 - 2#64 else b j) i o (.sl 5 [] 0 2 2) (k + 2#64)),(4,.ar 42 2 fun j=>if j < 1 then (Ct v).v else (IR w 1).v),(5,.ar 2 2 fun j=>if j < 1 then A4 1#64 false else A4 2#64 false)] 6 Am (by (simp only [CU,seval])) (by simp only [LV,Ah,LY,seval]) ?_ ⟨rfl,rfl,rfl⟩
 simp only [Ai,Al,Ac,Ct,IR,Cl.v,Aq,A4,dg,V.ren,LY,seval]
 (repeat' apply And.intro)
 all_goals
  intro j hj
  by_cases h:j < 1 <;> simp only [h,CL,V.ren,W,B,LY,seval]
theorem MS (ok:OkMv M) (s v w:Dg):Ag M 111 [.ptr 0 [],.int .i64 1] [(0,Ai 2 10#64 0#64 s (.ptr 2 []) (.sl 1 [] 0 2 42)),(1,.ar 42 2 fun j=>if j < 1 then (Ct v).v else (IR w 1).v)] 3 (Q3 (Ah (IR w 1).v .nili) [(0,Ai 2 10#64 0#64 s (.ptr 2 []) (.sl 1 [] 0 2 42)),(1,.ar 42 2 fun j=>if j < 1 then (Ct v).v else (IR w 1).v)] 3):=by
 refine Ab ok.g.n.k111 rfl fun x hx=>?_
 refine es 2000 ?_;(simp only [V3,U9,Ai,Al,Ac,Ct,IR,Cl.v,LZ,seval])
 refine Ar.mk hx [0,1,2] [] (Ah (IR w 1).v .nili) [(0,Ai 2 10#64 0#64 s (.ptr 2 []) (.sl 1 [] 0 2 42)),(1,.ar 42 2 fun j=>if j < 1 then (Ct v).v else (IR w 1).v)] 3 Am (by (simp only [CU,seval])) (by simp only [LV,AH,IR,Cl.v,Ac,dg,seval,LY]) ?_ ⟨rfl,rfl,rfl⟩
 simp only [Ai,Al,Ac,Ct,IR,Cl.v,dg,LY,seval]
 intro j hj
 by_cases h:j < 1 <;> simp only [h,CL,LY,seval]
theorem RL (ok:OkMv M) (s:Dg):Ag M 117 [.ptr 0 []] [(0,Ai 2 10#64 0#64 s (.ptr 2 []) (.sl 1 [] 0 2 42))] 3 (Q3 (.int .i64 2) [(0,Ai 2 10#64 0#64 s (.ptr 2 []) (.sl 1 [] 0 2 42))] 3):=by
 refine Ab ok.g.n.k117 rfl fun x hx=>?_
 refine es 2000 ?_;(simp only [Adn,Acd,Ai,Al,Ac,LZ,seval])
 have zz:=@dg.eq_1;exact Bf hx [0,1,2] ⟨rfl,rfl,rfl⟩
theorem LA (ok:OkMv M) (s v w:Dg):Ag M 118 [.ptr 0 []] [(0,Ai 2 10#64 0#64 s (.ptr 2 []) (.sl 1 [] 0 2 42)),(1,.ar 42 2 fun j=>if j < 1 then (Ct v).v else (IR w 1).v)] 3 (Q3 (.int .i64 0) [(0,Ai 2 10#64 0#64 s (.ptr 2 []) (.sl 1 [] 0 2 42)),(1,.ar 42 2 fun j=>if j < 1 then (Ct v).v else (IR w 1).v)] 3):=by
 refine Ab ok.g.n.k118 rfl fun x hx=>?_
 refine es 2000 ?_;(simp only [Ace,Ab9,Ai,Al,Ac,Ct,IR,Cl.v,LZ,seval])
 refine Ar.mk hx [0,1,2] [] (.int .i64 0) [(0,Ai 2 10#64 0#64 s (.ptr 2 []) (.sl 1 [] 0 2 42)),(1,.ar 42 2 fun j=>if j < 1 then (Ct v).v else (IR w 1).v)] 3 Am (by (simp only [CU,seval])) (by simp only [LV,LY,seval]) ?_ ⟨rfl,rfl,rfl⟩
 simp only [Ai,Al,Ac,Ct,IR,Cl.v,dg,LY,seval]
 intro j hj
 by_cases h:j < 1 <;> simp only [h,CL,LY,seval]
def Agv:LC:=(sr [mI 2 0,
 mI 3 0] (.seq (sr [mt 6 0,A1 7 (.eq false true (.iface [74]) (.t 6) (.c .nili))] (.cond (.t 7) (sr [mI 2 0,A1 3 (.mv (.c (.int .i64 (-1))))] .ret) .skip)) (sr [A1 4 (.alloc (.int .i64))] (.seq (sr [mt 8 0,A1 9 (.mkif 394 (.t 4)),kl 10 93 [(.t 8),(.t 9)],A1 11 (.un .not (.t 10))] (.cond (.t 11) (sr [A1 2 (.mv (.c (.int .i64 (-1)))),A1 3 (.mv (.c (.int .i64 (-1))))] .ret) .skip)) (sr [A1 5 (.alloc .ptr)] (.seq (sr [mt 12 0,A1 13 (.mkif 147 (.t 5)),kl 14 93 [(.t 12),(.t 13)],mt 15 14,A2 16 15 true (.load false 1 (.t 5)),A2 17 15 true (.eq true true .ptr (.t 16) (.c .nilp)),
  Fq 18 15 17] (.cond (.t 18) (.seq (.regd [⟨0,0,lb 19 1 4⟩,⟨1,0,lb 20 1 5⟩,⟨2,2,nc 21 20⟩,⟨3,6,fa 22 0 21⟩,⟨4,14,lb 23 1 22⟩,⟨5,1,mt 2 19⟩,⟨6,63,mt 3 23⟩]) .ret) .skip)) (sr [lb 24 1 4,mt 2 24,A1 3 (.mv (.c (.int .i64 (-1))))] .ret)))))))
def Afx:LF:=⟨Agv,1,0,25,[.tmp 2,.tmp 3]⟩
structure OkWF (M:Seat):Prop where
 k140:Au M 140 Afx=true
 as3:∀ c e b:Int,Ag M 93 [.ifc 145 (.ptr 0 []),.ifc 394 (.ptr 1 [])] [(0,Bt c e),(1,.int .i64 b)] 2 (Q3 (.bool true) [(0,Bt c e),(1,.int .i64 e)] 2)
 as4:∀ c e:Int,Ag M 93 [.ifc 145 (.ptr 0 []),.ifc 147 (.ptr 1 [])] [(0,Bt c e),(1,.nilp)] 2 (Q3 (.bool true) [(0,Bt c e),(1,.ptr 0 [])] 2)
theorem Rn {M:Seat} (ok:OkWF M) (c e:Int):Ag M 140 [.ifc 145 (.ptr 0 [])] [(0,Bt c e)] 1 (Q3 (Ah (.int .i64 e) (.int .i64 c)) [(0,Bt c e)] 1):=by
 have h3:=ok.as3 c e 0
 have h4:=ok.as4 c e
 simp only [Bt,er] at h3 h4
 refine Ab ok.k140 rfl fun x hx=>?_
 refine es 2000 ?_;(simp only [Afx,Agv,Bt,er,LZ,seval])
 refine HY [0,65] (h3) ?_
 (simp only [LZ,seval])
 refine HY [0,145] (h4) ?_
 (simp only [LZ,seval])
 have zz:=@Ah.eq_1;exact Bf hx [0] ⟨rfl,rfl,rfl⟩
theorem Ack (a b:BitVec 64):AD false (ES.st (ES.cons 0 1 false ES.int (ES.cons 1 1 false ES.int ES.nil))) (.st 2 (.fcons 0 (W a) (.fcons 1 (W b) .fnil))) (.st 2 (.fcons 0 (W a) (.fcons 1 (W b) .fnil)))=True:=by
 simp [AD,W,V.fget,V.fhas]
 exact ⟨⟨rfl,rfl,rfl⟩,rfl,rfl,rfl⟩
theorem Adz (a b:BitVec 64):AK (ES.st (ES.cons 0 1 false ES.int (ES.cons 1 1 false ES.int ES.nil))) (.st 2 (.fcons 0 (W a) (.fcons 1 (W b) .fnil))) (.st 2 (.fcons 0 (W a) (.fcons 1 (W b) .fnil)))=true:=by
 simp [AK,W,V.fget,V.fhas]
structure OkFx (M:Seat):Prop where
 m:OkMv M
 r:OkRi M
 w:OkWF M
 k116:Au M 116 Agl=true
def d1 (a:BitVec 8):Dg:=Dg.mk' fun j=>if j=0 then a else 0#8
theorem Qi (m:List Nat) (c:Prop) [Decidable c] (a b:V):V.ren m (if c then a else b)=if c then V.ren m a else V.ren m b:=by split <;> rfl
theorem Vc (a:BitVec 8):V.ar 1 32 (fun j=>if j=0 then B a else B 0#8)=dg (d1 a):=by
 have h:(fun j=>if j=0 then B a else B 0#8)=fun j=>B ((d1 a).at j):=by
  funext j
  by_cases hj:j < 32
  ·rw [d1,Dg.at_mk' _ _ hj];split <;> rfl
  ·rw [if_neg Aa]
   unfold Dg.at
   rw [List.getD_eq_getElem?_getD,List.getElem?_eq_none (by rw [(d1 a).h];omega)];rfl
 rw [h];rfl
theorem CI {M:Seat} (ok:OkFx M):Ag M 116 [] [] 0 (Q3 (.bool true) [] 0):=by
 have hr:=K1 ok.r 10#64 Am Am
 refine Ab ok.k116 rfl fun x hx=>?_
 refine es 2000 ?_;(simp only [Agl,Af9,LZ,seval])
 have zz:=C4 @Aq.eq_1 @D1.eq_1 @DY.eq_1;refine Kb (hr) ?_
 (simp only [AH,Aq,D1,DY,seval])
 have zz:=C4 @Al.eq_1 @Ac.eq_1 @dg.eq_1;refine Ce (IU ok.m.g.n 2 10#64 0#64 Dg.zero) ?_
 (simp only [Al,Ac,Vc,LZ,seval])
 have hN:=SK ok.m.g Dg.zero (d1 1#8) (DD 10#64 8) (HK 10#64 8) 0#64 0#64 Am
 simp only [Al,Ac,Aq,A4,Ai,Ct,Cl.v] at hN
 have zz:=@dg.eq_1;refine SM [16] (hN) ?_
 (simp only [AH,Vc,seval])
 have hD:=PC ok.m Dg.zero (d1 1#8) (d1 2#8) 1
 simp only [Al,Ac,Ai,Ct,Cl.v,Bt,er] at hD
 have zz:=@dg.eq_1;refine Bw [209,210,16] [209,210] (hD) ?_
 (simp only [AH,Vc,seval])
 have hA:=P0 ok.m Dg.zero (d1 1#8) (d1 2#8) (fun j=>if j=0 then DD 10#64 8 0 - 1#64 else DD 10#64 8 j) (HK 10#64 8) 0#64 1#64 Am
 simp only [Al,Ac,Ai,Ct,IR,Cl.v,Aq,A4] at hA
 have zz:=@dg.eq_1;refine Bw [209,210,16,208] [209,210,16,208] (hA) ?_
 (simp only [NC,Qi,seval])
 have hW:=Rn ok.w 0 45
 simp only [Bt,er] at hW
 have zz:=@dg.eq_1;refine Bw [432] [432] (hW) ?_
 (simp only [NC,seval])
 have hC:=MS ok.m Dg.zero (d1 1#8) (d1 2#8)
 simp only [Al,Ac,Ai,Ct,IR,Cl.v] at hC
 refine cnK [209,544,16] [209,544] (hC) (by constructor <;> (try simp only [dg,LY,seval]) <;> first | exact q1 | (intro j hj;by_cases h:j < 1 <;> simp only [h,CL,LY,seval,implies_true])) ?_
 (simp only [NC,Qi,Ack,Adz,seval])
 have hL:=RL ok.m Dg.zero
 have hS:=LA ok.m Dg.zero (d1 1#8) (d1 2#8)
 simp only [Al,Ac,Ai,Ct,IR,Cl.v] at hL hS
 have zz:=@dg.eq_1;refine Bw [209,544,16] [209] (hL) ?_
 (simp only [EE,seval])
 refine cnK [209,544,16] [209,544] (hS) (by constructor <;> (try simp only [dg,LY,seval]) <;> first | exact q1 | (intro j hj;by_cases h:j < 1 <;> simp only [h,CL,LY,seval,implies_true])) ?_
 (simp only [EE,seval])
 exact Ar.mkZ hx [] ⟨rfl,rfl,rfl⟩
def c30:LC:=(sr [bX 2 0,A1 4 (.mv (.c (.bool false)))] (sr [la 26 7 2,mt 27 1,kl 28 127 [(.t 26),(.t 27)],mt 25 28,ee 29 25 0,ee 30 25 1,ee 31 25 2,mt 5 29,mt 6 30,mt 7 31] (.seq (sr [mt 32 5,A1 33 (.eq false true .ptr (.t 32) (.c .nilp)),mt 34 33,⟨(some 35),.call 116 [],(some (34,false))⟩,A2 36 34 false (.un .not (.t 35)),
  BV 37 34 36] (.cond (.t 37) (sr [A1 4 (.mv (.c (.bool false)))] .ret) .skip)) (sr [mt 39 5,kl 40 111 [(.t 39),(cI 0)],mt 38 40,ee 41 38 0,ee 42 38 1,A1 8 (.alloc (.st (.cons (.int .i64) (.cons (.int .u64) (.cons (.ar 32 (.int .u8)) (.cons (.int .i64) (.cons (.int .i64) (.cons (.st (.cons (.int .u64) (.cons (.int .u64) .nil))) (.cons .bool (.cons .bool (.cons .bool (.cons (.int .i64) .nil)))))))))))),sb 42 8 41,mt 9 42] (.seq (sr [mt 43 9,A1 44 (.eq true true (.iface [74]) (.t 43) (.c .nili)),mt 45 44,A2 46 45 false (.fadr 0 (.t 8)),A2 47 45 false (.load false 1 (.t 46)),A2 48 45 false (.ari .neq (.t 47) (.c (.int .i64 (-1)))),
  BV 49 45 48,mt 50 49,A2 51 50 false (.fadr 1 (.t 8)),A2 52 50 false (.load false 1 (.t 51)),A2 53 50 false (.ari .neq (.t 52) (cU 1)),
  BV 54 50 53] (.cond (.t 54) (sr [A1 4 (.mv (.c (.bool false)))] .ret) .skip)) (.seq (sr [mI 10 1] (.block 0 (.loop (.seq (sr [mt 55 10,mt 56 5,kl 57 117 [(.t 56)],ak 58 .lss 55 57]
 (Dd 58 0)) (.seq (.block 1 (sr [mt 62 5,mt 63 10,kl 64 111 [(.t 62),(.t 63)],mt 61 64,ee 65 61 0,ee 66 61 1,A1 11 (.alloc (.st (.cons (.int .i64) (.cons (.int .u64) (.cons (.ar 32 (.int .u8)) (.cons (.int .i64) (.cons (.int .i64) (.cons (.st (.cons (.int .u64) (.cons (.int .u64) .nil))) (.cons .bool (.cons .bool (.cons .bool (.cons (.int .i64) .nil)))))))))))),sb 42 11 65,mt 12 66] (sr [mt 68 5,fa 69 0 11,lb 70 1 69,kl 71 111 [(.t 68),(.t 70)],mt 67 71,ee 72 67 0,ee 73 67 1,A1 13 (.alloc (.st (.cons (.int .i64) (.cons (.int .u64) (.cons (.ar 32 (.int .u8)) (.cons (.int .i64) (.cons (.int .i64) (.cons (.st (.cons (.int .u64) (.cons (.int .u64) .nil))) (.cons .bool (.cons .bool (.cons .bool (.cons (.int .i64) .nil)))))))))))),sb 42 13 72,mt 14 73] (sr [fa 75 1 11,lb 76 1 75,kl 77 130 [(.t 76)],mt 74 77,ee 78 74 0,ee 79 74 1,ee 80 74 2,mt 15 78,mt 16 79,mt 17 80] (.seq (sr [mt 81 12,A1 82 (.eq true true (.iface [74]) (.t 81) (.c .nili)),mt 83 82,mg 84 83 false 14,A2 85 83 false (.eq true true (.iface [74]) (.t 84) (.c .nili)),
  BV 86 83 85,mt 87 86,mg 88 87 false 17,A2 89 87 false (.eq true true (.iface [74]) (.t 88) (.c .nili)),
  BV 90 87 89,mt 91 90,A2 92 91 false (.fadr 0 (.t 11)),A2 93 91 false (.load false 1 (.t 92)),A2 94 91 false (.ari .lss (.t 93) (cI 0)),
  BV 95 91 94,mt 96 95,A2 97 96 false (.fadr 0 (.t 11)),A2 98 96 false (.load false 1 (.t 97)),mg 99 96 false 10,A2 100 96 false (.ari .geq (.t 98) (.t 99)),
  BV 101 96 100,mt 102 101,mg 103 102 false 15,mg 104 102 false 5,⟨(some 105),.call 119 [(.t 104)],(some (102,false))⟩,A2 106 102 false (.fld 0 1 false (.t 105)),A2 107 102 false (.ari .gtr (.t 103) (.t 106)),
  BV 108 102 107] (.cond (.t 108) (sr [A1 4 (.mv (.c (.bool false)))] .ret) .skip)) (sr [fa 110 1 13,lb 111 1 110,kl 112 131 [(.t 111)],mt 109 112,ee 113 109 0,ee 114 109 1,mt 18 113,mt 19 114] (sr [fa 116 1 13,lb 117 1 116,kl 118 132 [(.t 117)],mt 115 118,ee 119 115 0,ee 120 115 1,mt 20 119,mt 21 120] (.seq (sr [fa 121 1 11,lb 122 1 121,mt 123 18,ak 124 .neq 122 123,mt 125 124,A2 126 125 true (.fadr 1 (.t 11)),A2 127 125 true (.load false 1 (.t 126)),mg 128 125 true 20,A2 129 125 true (.ari .neq (.t 127) (.t 128)),
  Fq 130 125 129] (.cond (.t 130) (sr [A1 4 (.mv (.c (.bool false)))] .ret) .skip)) (sr [mt 131 10,
  mI 132 0] (.block 2 (.loop (sr [ak 133 .lss 132 131] (.seq (Dd 133 2) (.seq (.block 3 (sr [mt 134 132,mt 22 134] (sr [mt 136 5,mt 137 22,kl 138 111 [(.t 136),(.t 137)],mt 135 138,ee 139 135 0,ee 140 135 1,A1 23 (.alloc (.st (.cons (.int .i64) (.cons (.int .u64) (.cons (.ar 32 (.int .u8)) (.cons (.int .i64) (.cons (.int .i64) (.cons (.st (.cons (.int .u64) (.cons (.int .u64) .nil))) (.cons .bool (.cons .bool (.cons .bool (.cons (.int .i64) .nil)))))))))))),sb 42 23 139,mt 24 140] (sr [fa 141 0 23,lb 142 1 141,fa 143 0 11,lb 144 1 143,ak 145 .eql 142 144,mt 146 145,A2 147 146 true (.fadr 1 (.t 23)),A2 148 146 true (.load false 1 (.t 147)),A2 149 146 true (.fadr 1 (.t 11)),A2 150 146 true (.load false 1 (.t 149)),A2 151 146 true (.ari .eql (.t 148) (.t 150)),
  Fq 152 146 151,mt 153 152,A2 154 153 true (.fadr 2 (.t 23)),A2 155 153 true (.load true 32 (.t 154)),A2 156 153 true (.fadr 2 (.t 11)),A2 157 153 true (.load true 32 (.t 156)),A2 158 153 true (.eq false false (.ar 32 1 false .int) (.t 155) (.t 157)),
  Fq 159 153 158] (.cond (.t 159) (sr [A1 4 (.mv (.c (.bool false)))] .ret) .skip))))) (.reg [aI 160 .add 132 1,mt 132 160]))))))))))))))) (.reg [mt 59 10,aI 60 .add 59 1,mt 10 60])))))) (sr [A1 4 (.mv (.c (.bool true)))] .ret)))))))
def f30:LF:=⟨c30,2,0,161,[.tmp 4]⟩
structure Tre (G:Gs):Prop where
 p0:(G.c 0).par = -1
 q0:(G.c 0).pos=1#64
 up:∀ j,1≤j→j < G.n→∃ p k q,p < j∧(G.c j).par=(p:Nat)∧(G.c p).pos=pw k q∧q < 2 ^ k∧k < G.D∧((G.c j).pos=pw (k + 1) (2 * q) ∨ q + 1 < 2 ^ k∧(G.c j).pos=pw (k + 1) (2 * q + 2))
 no:∀ j i,1≤j→j < G.n→i < j→¬ ((G.c i).par=(G.c j).par∧(G.c i).pos=(G.c j).pos∧(G.c i).val=(G.c j).val)
theorem NY {G H:Gs} (h:Tre G) (hD:H.D=G.D) (hn:H.n=G.n) (hc:∀ j,(H.c j).par=(G.c j).par∧(H.c j).pos=(G.c j).pos∧(H.c j).val=(G.c j).val):Tre H:=by
 refine ⟨by rw [(hc 0).1];exact h.p0,by rw [(hc 0).2.1];exact h.q0,fun j h1 hj=>?_,fun j i h1 hj hi=>?_⟩
 ·obtain ⟨p,k,q,a⟩:=h.up j h1 (hn ▸ hj)
  refine ⟨p,k,q,?_⟩
  rw [(hc j).1,(hc j).2.1,(hc p).2.1,hD];exact a
 ·rw [(hc j).1,(hc j).2.1,(hc j).2.2,(hc i).1,(hc i).2.1,(hc i).2.2]
  exact h.no j i h1 (hn ▸ hj) hi
theorem Ab8 {G:Gs} (ok:G.ok) (h:Tre G) {a:Int} {df:Bool} {v:Dg} {pl:Int} {bd t:BitVec 64} (he:G.mE a df v pl bd t=none):Tre (G.mT a df v pl bd t):=by
 obtain ⟨p,rfl,hp,hrs,he⟩:=Gs.mE_in he
 obtain ⟨k,i,hk,hi,hpos⟩:=ok.w.pls p hp
 have hD:=ok.w.hD
 have hn0:=ok.n0
 unfold Gs.mT
 rw [Int.toNat_natCast]
 rw [hpos,Cr Aa hi,Ej Aa hi] at he ⊢
 obtain ⟨h1,h2,-,h4,-⟩:=Me he
 have hA:Ks k i df=pw (k + 1) (2 * i) ∨ i + 1 < 2 ^ k∧Ks k i df=pw (k + 1) (2 * i + 2):=by
  cases df with
  | false=>exact .inl (by simp [Ks])
  | true=>exact .inr ⟨Nat.lt_of_le_of_ne hi (fun q=>h2 ⟨rfl,q⟩),by simp [Ks]⟩
 have hc:∀ j,j < G.n→(G.mv (IE G p df v pl t k i) pl.toNat bd).c j=G.c j:=fun j hj=>if_pos hj
 have hcn:(G.mv (IE G p df v pl t k i) pl.toNat bd).c G.n=IE G p df v pl t k i:=if_neg (Nat.lt_irrefl _)
 refine ⟨by rw [hc 0 hn0];exact h.p0,by rw [hc 0 hn0];exact h.q0,fun j h1j hj=>?_,fun j i' h1j hj hi'=>?_⟩
 ·have hj:j < G.n + 1:=hj
  by_cases hjn:j < G.n
  ·obtain ⟨p',k',q',a1,a2⟩:=h.up j h1j hjn
   refine ⟨p',k',q',a1,?_⟩
   rw [hc j hjn,hc p' Aa];exact a2
  ·obtain rfl:j=G.n:=Aa
   refine ⟨p,k,i,hp,?_⟩
   rw [hcn,hc p hp]
   exact ⟨rfl,hpos,hi,h1,hA⟩
 ·have hj:j < G.n + 1:=hj
  by_cases hjn:j < G.n
  ·rw [hc j hjn,hc i' Aa];exact h.no j i' h1j hjn hi'
  ·obtain rfl:j=G.n:=Aa
   rw [hcn,hc i' hi']
   exact fun q=>h4 ⟨i',hi',q⟩
theorem Ya (a:Ga) (n:Nat) (l:Nat→Op):Tre (DF a n l).1:=by
 have hb:(He a).ok:=FH _ _ (EN a.lm) 3 Am _ _ _ (E7 a.pl) _ _ _ _ _
 refine DL (P:=fun _ S=>Tre S.1) (S:=(He a,a.nw % 1000#64)) ?_ hb (fun _ _ h=>h) ?_ ?_ ?_ ?_ _
 ·refine ⟨rfl,rfl,fun j h1 hj=>?_,fun j i h1 hj=>?_⟩
  all_goals
   have hj:j < 1:=hj
   omega
 ·exact fun i S a df v pl bd ok h he=>Ab8 ok h he
 ·intro i S vf a df pl ok h he
  refine NY h rfl rfl fun j=>?_
  dsimp only [Gs.tT]
  by_cases hj:j=a.toNat
  ·subst hj;simp only [if_true,and_self]
  ·simp only [hj,if_false,and_self]
 ·intro i S a ok h ha hrs he
  refine NY h rfl rfl fun j=>?_
  dsimp only [Gs.rsv,Gs.rsC]
  by_cases hj:j=a
  ·subst hj;simp only [if_true,and_self]
  ·simp only [hj,if_false,and_self]
 ·exact fun i S u ok h hu=>h
theorem G3 (a:Ga) (n:Nat) (l:Nat→Op):(DF a n l).1.ok:=Ig (FH _ _ (EN a.lm) 3 Am _ _ _ (E7 a.pl) _ _ _ _ _) _
structure OkGa (M:Seat):Prop where
 p:OkPl M
 f:OkFx M
structure OkGe (M:Seat):Prop where
 g:OkGa M
 k30:Au M 30 f30=true
theorem VZ {sv:V} {n:Nat} {l:Nat→Op} (hs:sv=C3 n l ∨ (sv = .nils∧n=0)) (H:Hp) (m z:List Nat):Bi H m z sv sv:=by
 rcases hs with rfl | ⟨rfl,-⟩ <;> simp only [C3,Op.v,LY,seval]
theorem Ki {M:Seat} (ok:OkGe M) (a:Ga) (n:Nat) (l:Nat→Op) (sv:V) (hs:sv=C3 n l ∨ (sv = .nils∧n=0)) (hn:n < 9223372036854775808) :
 Ag M 30 [a.v,sv] [] 0 (Q3 (.bool true) [] 0):=by
 have hvv:=VZ hs
 have hPl:=DX ok.g.p a n l sv hs hn
 have hF:=CI ok.g.f
 have hT:=Ya a n l
 have hG:=G3 a n l
 generalize (DF a n l).2=t at *
 generalize (DF a n l).1=G at *
 have hCl:=fun j hj=>BW ok.g.p.g G.D G.l G.g G.s G.n G.c j hj
 have hLn:=De ok.g.p.g G.D G.l G.g G.s G.n
 have hRu:=EU ok.g.p.g G.D G.l G.g G.s G.n
 simp only [Gs.H,Ai,Al,Ac] at hPl
 have hn0:=hG.n0
 have hn64:=hG.w.hn
 have h00:=hCl 0 hn0
 simp only [Int.natCast_zero] at h00
 have p0:=hT.p0
 have q0:=hT.q0
 refine Ab ok.k30 rfl fun x hx=>?_
 refine es 2000 ?_;(simp only [f30,c30,Ga.v,LZ,seval])
 have zz:=BT @Ai.eq_1 @Al.eq_1 @Ac.eq_1 @Ap.eq_1 @Aq.eq_1 @A7.eq_1 @A4.eq_1 @Cl.v.eq_1 @Ga.v.eq_1 @dg.eq_1 hvv;refine Kb (hPl) ?_
 (simp only [AS,Ai,Al,Ac,Ap,Aq,A7,A4,Cl.v,LZ,seval])
 refine Ak (hF) ?_
 (simp only [LZ,seval])
 have zz:=Db @Ai.eq_1 @Al.eq_1 @Ac.eq_1 @Ap.eq_1 @Cl.v.eq_1 @dg.eq_1;refine Bw [64,65,66] [64,65] (h00) ?_
 (simp only [AH,Ai,Al,Ac,Ap,Cl.v,p0,q0,seval])
 have z11:IntKind.i64.wrap 1=((1:Nat):Int):=rfl
 refine An (σ:=Nat) (fun i=>1≤i∧i≤G.n) (fun i=>fr 161 [(5,.ptr 0 []),(10,.int .i64 i)]) (fun _=>G.H) (fun _=>4) (fun i=>G.n - i) 1 ⟨by omega,hn0⟩ ?_ ?_
 ·refine Ao.fr [64,65,66,67] [] hx AQ Am ?_ ?_
  ·simp only [Int.cast_ofNat_Int,LY,seval]
  ·simp only [Gs.H,Ai,Al,Ac,Ap,Aq,A7,A4,Cl.v,dg,LY,seval]
 ·rintro i ⟨h1,hi⟩
  refine es 2000 ?_
  have z0:IntKind.i64.wrap ((i:Int) + 1)=((i + 1:Nat):Int):=AZ
  (simp only [Gs.H,Ai,Al,Ac,Ap,Aq,A7,A4,Cl.v,LZ,seval])
  have zz:=GM @Ai.eq_1 @Al.eq_1 @Ac.eq_1 @Ap.eq_1 @dg.eq_1;refine Bw [0,1,2] [0] (hLn) ?_
  by_cases hin:i=G.n
  ·have w0:((i:Int) < (G.n:Int))=False:=eq_false Aa
   (simp only [w0,Ai,Al,Ac,LZ,seval])
   exact Ar.mkZ hx [] ⟨rfl,rfl,rfl⟩
  have w0:((i:Int) < (G.n:Int))=True:=eq_true Aa
  obtain ⟨p,k,q,hp,hpar,hpp,hq,hk,hpos⟩:=hT.up i h1 Aa
  have hD20:=hG.w.hD
  have hci:=hCl i Aa
  have hcp:=hCl p Aa
  have hPp:Ag M 130 [W (G.c i).pos] [] 0 (Q3 (AS (.int .i64 ((k + 1:Nat):Int)) (W (BitVec.ofNat 64 (Wt (G.c i).pos))) .nili) [] 0):=by
   have e2:2 ^ (k + 1)=2 * 2 ^ k:=Y6
   rcases hpos with h | ⟨h2,h⟩
   ·rw [h,Ej Aa Aa]
    exact Bc ok.g.p.g.t.s.v.g.p (show k + 1≤24 by omega) (show 2 * q < 2 ^ (k + 1) by omega)
   ·rw [h,Ej Aa Aa]
    exact Bc ok.g.p.g.t.s.v.g.p (show k + 1≤24 by omega) (show 2 * q + 2 < 2 ^ (k + 1) by omega)
  have hAt:=D6 ok.g.p.g.t.s.v.g.p (show k < 24 by omega) hq
  obtain ⟨y,ye,hye,hDe,hor⟩:∃ y ye,(ye=V.nili ∨ ye=er 45)∧Ag M 132 [W (pw k q)] [] 0 (Q3 (Ah (W y) ye) [] 0)∧((G.c i).pos=pw (k + 1) (2 * q) ∨ (G.c i).pos=y):=by
   by_cases h2:q + 1 < 2 ^ k
   ·exact ⟨_,_,.inl rfl,HA ok.g.p.g.t.s.v.g.p (show k < 24 by omega) h2,hpos.imp_right (·.2)⟩
   ·refine ⟨0#64,er 45,.inr rfl,?_,hpos.imp_right (fun h=>absurd h.1 h2)⟩
    have:=F8 ok.g.p.g.t.s.v.g.p (k:=k) (show k < 24 by omega)
    rw [show 2 ^ k - 1=q by omega] at this
    exact this
  generalize BitVec.ofNat 64 (Wt (G.c i).pos)=ix at *
  generalize pw (k + 1) (2 * q)=xa at *
  have d0:((p:Int) < 0)=False:=eq_false Aa
  have d1:((i:Int)≤(p:Int))=False:=eq_false Aa
  have d2:((G.D:Int) < ((k + 1:Nat):Int))=False:=eq_false Aa
  (simp only [w0,Ai,Al,Ac,LZ,seval])
  have zz:=Db @Ai.eq_1 @Al.eq_1 @Ac.eq_1 @Ap.eq_1 @Cl.v.eq_1 @dg.eq_1;refine Bw [0,1,2] [0,1] (hci) ?_
  (simp only [AH,Ai,Al,Ac,Ap,Cl.v,hpar,seval])
  have zz:=Db @Ai.eq_1 @Al.eq_1 @Ac.eq_1 @Ap.eq_1 @Cl.v.eq_1 @dg.eq_1;refine Bw [0,1,2] [0,1] (hcp) ?_
  (simp only [AH,Ai,Al,Ac,Ap,Cl.v,hpp,seval])
  refine Ak (hPp) ?_
  (simp only [AS,d0,d1,LZ,seval])
  have zz:=GM @Ai.eq_1 @Al.eq_1 @Ac.eq_1 @Ap.eq_1 @dg.eq_1;refine Bw [0,1,2] [0] (hRu) ?_
  (simp only [Ai,Al,Ac,d2,LZ,seval])
  refine Ak (hAt) ?_
  (simp only [AH,seval])
  have hb:((G.c i).pos=xa)=True ∨ ((G.c i).pos=xa)=False∧((G.c i).pos=y)=True:=by
   by_cases h:(G.c i).pos=xa
   ·exact .inl (eq_true h)
   ·exact .inr ⟨eq_false h,eq_true (hor.resolve_left h)⟩
  have hno:=hT.no i
  rcases hye with rfl | rfl <;> rcases hb with e1 | ⟨e1,e2⟩
  case' inl.inr=>have e1:=And.intro e1 e2
  case' inr.inr=>have e1:=And.intro e1 e2
  all_goals
   have hz:IntKind.i64.wrap 0=0:=rfl
   refine Ak (hDe) ?_
   (simp only [AH,e1,seval])
   refine An (σ:=Nat) (fun k=>k≤i) (fun k=>fr 161 [(5,.ptr 0 []),(10,.int .i64 i),(11,.ptr 4 []),(131,.int .i64 i),(132,.int .i64 k)]) (fun _=>G.H ++ [(4,(G.c i).v)]) (fun _=>5) (fun k=>i - k) 0 Aa ?_ ?_
   ·refine Ao.fr [0,1,2,3,164] [] hx AQ Am ?_ ?_
    ·simp only [Int.natCast_zero,LY,seval]
    ·simp only [Gs.H,Ai,Al,Ac,Ap,Aq,A7,A4,Cl.v,dg,hpar,B3,LY,seval]
   ·intro j hj
    refine es 2000 ?_
    by_cases hji:j=i
    ·subst hji
     have w1:((j:Int) < (j:Int))=False:=eq_false Aa
     (simp only [w1,z0,LZ,seval])
     refine ⟨j + 1,by omega,by omega,by omega,?_⟩
     refine Ao.fr [0,1,2,3] [] hx AQ Am ?_ ?_
     ·simp only [LY,seval]
     ·simp only [Gs.H,Ai,Al,Ac,Ap,Aq,A7,A4,Cl.v,dg,B3,LY,seval]
    ·have w1:((j:Int) < (i:Int))=True:=eq_true Aa
     have hcj:=hCl j Aa
     have z1:IntKind.i64.wrap ((j:Int) + 1)=((j + 1:Nat):Int):=AZ
     have hnj:=hno j h1 Aa Aa
     (simp only [w1,Gs.H,Ai,Al,Ac,Ap,Aq,A7,A4,Cl.v,B3,LZ,seval])
     have zz:=Db @Ai.eq_1 @Al.eq_1 @Ac.eq_1 @Ap.eq_1 @Cl.v.eq_1 @dg.eq_1;refine Bw [0,1,2] [0,1] (hcj) ?_
     have hd:(((G.c j).par=(G.c i).par)=False) ∨ ((G.c j).par=(G.c i).par)=True∧((G.c j).pos=(G.c i).pos)=False ∨ ((G.c j).par=(G.c i).par)=True∧((G.c j).pos=(G.c i).pos)=True∧((G.c j).val=(G.c i).val)=False:=by
      by_cases g1:(G.c j).par=(G.c i).par
      ·by_cases g2:(G.c j).pos=(G.c i).pos
       ·exact .inr (.inr ⟨eq_true g1,eq_true g2,eq_false fun g3=>hnj ⟨g1,g2,g3⟩⟩)
       ·exact .inr (.inl ⟨eq_true g1,eq_false g2⟩)
      ·exact .inl (eq_false g1)
     rcases hd with g1 | ⟨g1,g2⟩ | ⟨g1,g2,g3⟩
     case' inr.inl=>have g1:=And.intro g1 g2
     case' inr.inr=>have g1:=And.intro g1 (And.intro g2 g3)
     all_goals
      (simp only [AH,g1,z1,Ai,Al,Ac,Ap,Cl.v,seval])
      refine ⟨j + 1,by omega,by omega,?_⟩
      refine Ao.fr [0,1,2,3,4] [] hx AQ Am ?_ ?_
      ·simp only [LY,seval]
      ·simp only [Gs.H,Ai,Al,Ac,Ap,Aq,A7,A4,Cl.v,dg,B3,LY,seval]
def F1 (M:Seat) (W:World):Env where
 ρ:=fun _=>0
 D:=fun _=>False
 im:=fun b=>∃ cells el fz,W.heap[b]?=some (.cells cells el fz)
 w:=W
 φ:=M.φ
 τ:=M.τ
theorem Inv.start (M:Seat) (W:World) (hg:GS M (F1 M W)):Inv M ⟨F1 M W,fun b=>∃ id,Af [] id=true∧(F1 M W).ρ id=b,0⟩ (F1 M W) [] where
 ev:=⟨rfl,rfl,rfl,Nat.le_refl _,fun _ _ _=>rfl,fun _=>Nat.le_refl _⟩
 blk:=fun id h=>by simp [Af] at h
 inj:=fun i j h=>by simp [Af] at h
 imo:=fun b h=>.inl h
 imb:=fun b h=>h
 rb:=fun id h=>h.elim
 keep:=fun b h=>h
 low:=fun id h=>by simp at h
 gs:=hg
 φ:=rfl
 τ:=rfl
theorem DP {M:Seat} {f:Nat} {us:List V} {vs:Array Value} {Q:V→Hp→Nat→Prop} (hr:Ag M f us [] 0 Q) (W:World) (hg:GS M (F1 M W)) (ha:HN (F1 M W) us vs) :
 Calls M.P (M.φ f) vs W fun en W'=>∃ x v H' k' e',en = .returned x∧RV e' v x∧Q v H' k'∧RowKit.Below W.heap.size W W':=by
 refine (hr (F1 M W) vs (Inv.start M W hg) (fun id _ h=>h) ha).mono ?_
 rintro en W' ⟨x,v,e',H',k',rfl,rfl,hI,hv,_,_,hQ⟩
 refine ⟨x,v,H',k',e',rfl,hv,hQ,hI.ev.os,hI.ev.tape,hI.ev.output,hI.ev.size,fun k hk=>hI.ev.frame k hk ?_⟩
 rintro ⟨id,h,_⟩
 simp [Af] at h
theorem Dk {M:Seat} {W:World} {name:String} {k:IntKind} {zs:List Int} {g:Nat} (h:Lib.TabIs M.P W name k zs) (hg:M.P.globalNamed name=some g) (hpos:0 < zs.length) :
 R (F1 M W) (.imm (.ar 1 zs.length (fun i=>.int k (zs.getD i 0)))) [.pointer (some ⟨g,0,none⟩)]:=by
 have hc:∀ i,i < zs.length→W.cell? ⟨g,i,none⟩=some (.int k (zs.getD i 0)):=fun i hi=>h.cell hg i hi
 have h0:=hc 0 hpos
 simp only [R]
 cases hb:W.heap[g]? with
 | none=>simp [World.cell?,hb] at h0
 | some o =>
   cases o with
   | cells c el fz =>
     have hci:∀ i,i < zs.length→c[i]?=some (.int k (zs.getD i 0)):=fun i hi=>by simpa [World.cell?,hb] using hc i hi
     have hsz:zs.length≤c.size:=by
      have:=hci (zs.length - 1) Aa
      have:=(Array.getElem?_eq_some_iff.1 this).1
      omega
     refine ⟨g,0,c,el,fz,rfl,⟨c,el,fz,hb⟩,hb,by simp only [V.size];omega,by simp [V.size];omega,fun i hi=>⟨⟨rfl,rfl⟩,?_⟩⟩
     simp only [V.size,Nat.mul_one,List.drop_zero]
     have h1:=hci i hi
     have h2:c.toList[i]?=some (.int k (zs.getD i 0)):=by simpa using h1
     apply List.ext_getElem?
     intro j
     cases j with
     | zero=>simp [List.getElem?_take,List.getElem?_drop,hi,h1]
     | succ j=>simp [List.getElem?_take]
   | _=>simp [World.cell?,hb] at h0
variable {M:Seat}
theorem Inv.garb {c:Ctx} {e:Env} {H:Hp} (h:Inv M c e H) (o:Obj):e.le { e with w:=e.w.alloc o }∧Inv M c { e with w:=e.w.alloc o } H:=by
 have hle:e.le { e with w:=e.w.alloc o }:=⟨fun i hi=>⟨hi,rfl⟩,fun b hb=>⟨hb,fun cl el fz hc=>⟨el,fz,by show (e.w.alloc o).heap[b]?=_;rw [A9 _ _ (h.imlt b hb)];exact hc⟩⟩,fun b=>D7 _ _ b,rfl,rfl⟩
 refine ⟨hle,?_,fun id hid=>?_,h.inj,h.imo,fun b hb=>?_,fun id hid=>?_,h.keep,h.low,h.gs.mono hle,h.φ,h.τ⟩
 ·exact h.ev.trans (O':=fun _=>False) ⟨rfl,rfl,rfl,by simp,fun b hb _=>A9 _ _ hb,fun b=>D7 _ _ b⟩ (fun _ hf=>hf.elim)
 ·obtain ⟨h1,h2,h3,h4⟩:=h.blk id hid
  exact ⟨h1,BA hle h1 (A9 _ _ (h.rb id h1)) h2,h3,h4⟩
 ·obtain ⟨cells,el,fz,hc⟩:=h.imb b hb
  exact ⟨cells,el,fz,by show (e.w.alloc o).heap[b]?=_;rw [A9 _ _ (h.imlt b hb)];exact hc⟩
 ·have:=h.rb id hid
  show e.ρ id < (e.w.alloc o).heap.size
  simp;omega
theorem N6 {c:Ctx} {e:Env} {H:Hp} (h:Inv M c e H) {b:Nat} {v:Value} (hr:(b,v) ∈ M.raw):e.w.cell? ⟨b,0,none⟩=some v:=by
 obtain ⟨_,cl,el,fz,h1,h2⟩:=h.gs.2 _ hr
 simp [World.cell?,h1,h2]
theorem NS {c:Ctx} {e:Env} {H:Hp} (h:Inv M c e H) {id:Nat} (hid:Af H id=true) (hs:(hget H id).solid=true) (h1:(hget H id).size=1) :
 ∃ x cells el,R e (hget H id) [x]∧e.w.heap[e.ρ id]?=some (.cells cells el (0,0))∧0 < cells.size∧e.w.cell? ⟨e.ρ id,0,none⟩=some x∧e.w.frozen? ⟨e.ρ id,0,none⟩=false:=by
 obtain ⟨cells,el,hc,hsz,hR⟩:=h.cells hid hs
 rw [h1] at hsz hR
 have hlt:0 < cells.size:=Aa
 have e1:cells.toList.take 1=[cells[0]]:=by
  rcases cells with ⟨l⟩
  cases l with
  | nil=>simp at hlt
  | cons y r=>simp
 rw [e1] at hR
 refine ⟨cells[0],cells,el,hR,hc,hlt,?_,?_⟩
 ·simp [World.cell?,hc,hlt]
 ·simp [World.frozen?,hc]
end Mv
