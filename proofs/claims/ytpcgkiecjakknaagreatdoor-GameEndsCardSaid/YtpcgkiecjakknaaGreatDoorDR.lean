/- A part. -/
import Derived.Test.YtpcgkiecjakknaaGreatDoorDO
set_option linter.all false
set_option maxRecDepth 20000
set_option maxHeartbeats 16000000
namespace Mv
open Go
def c32:LC:=(sr [bX 2 0,A1 4 (.mv (.c (.bool false)))] (sr [la 18 7 2,mt 19 1,kl 20 127 [(.t 18),(.t 19)],mt 17 20,ee 21 17 0,ee 22 17 1,ee 23 17 2,mt 5 21,mt 6 22,mt 7 23] (.seq (sr [mt 24 5,A1 25 (.eq false true .ptr (.t 24) (.c .nilp)),mt 26 25,⟨(some 27),.call 116 [],(some (26,false))⟩,A2 28 26 false (.un .not (.t 27)),
  BV 29 26 28] (.cond (.t 29) (sr [A1 4 (.mv (.c (.bool false)))] .ret) .skip)) (sr [mt 30 5,kl 31 119 [(.t 30)],A1 32 (.fld 1 2 true (.t 31)),A1 8 (.alloc (.st (.cons (.int .u64) (.cons (.int .u64) .nil)))),sb 2 8 32] (.seq (sr [mI 9 1] (.block 0 (.loop (.seq (sr [mt 33 9,mt 34 5,kl 35 117 [(.t 34)],ak 36 .lss 33 35]
 (Dd 36 0)) (.seq (.block 1 (sr [mt 40 5,mt 41 9,kl 42 111 [(.t 40),(.t 41)],mt 39 42,ee 43 39 0,ee 44 39 1,A1 10 (.alloc (.st (.cons (.int .i64) (.cons (.int .u64) (.cons (.ar 32 (.int .u8)) (.cons (.int .i64) (.cons (.int .i64) (.cons (.st (.cons (.int .u64) (.cons (.int .u64) .nil))) (.cons .bool (.cons .bool (.cons .bool (.cons (.int .i64) .nil)))))))))))),sb 42 10 43,mt 11 44] (sr [mt 46 5,fa 47 0 10,lb 48 1 47,kl 49 111 [(.t 46),(.t 48)],mt 45 49,ee 50 45 0,ee 51 45 1,A1 12 (.alloc (.st (.cons (.int .i64) (.cons (.int .u64) (.cons (.ar 32 (.int .u8)) (.cons (.int .i64) (.cons (.int .i64) (.cons (.st (.cons (.int .u64) (.cons (.int .u64) .nil))) (.cons .bool (.cons .bool (.cons .bool (.cons (.int .i64) .nil)))))))))))),sb 42 12 50,mt 13 51] (.seq (sr [mt 52 11,A1 53 (.eq true true (.iface [74]) (.t 52) (.c .nili)),mt 54 53,mg 55 54 false 13,A2 56 54 false (.eq true true (.iface [74]) (.t 55) (.c .nili)),
  BV 57 54 56,mt 58 57,A2 59 58 false (.fadr 36 (.t 10)),A2 60 58 false (.fadr 0 (.t 59)),A2 61 58 false (.load false 1 (.t 60)),A2 62 58 false (.fadr 0 (.t 8)),A2 63 58 false (.load false 1 (.t 62)),A2 64 58 false (.fadr 1 (.t 8)),A2 65 58 false (.load false 1 (.t 64)),A2 66 58 false (.ari .sub (.t 63) (.t 65)),A2 67 58 false (.ari .gtr (.t 61) (.t 66)),
  BV 68 58 67,mt 69 68,A2 70 69 false (.fadr 36 (.t 10)),A2 71 69 false (.fadr 0 (.t 70)),A2 72 69 false (.load false 1 (.t 71)),A2 73 69 false (.fadr 0 (.t 8)),A2 74 69 false (.load false 1 (.t 73)),A2 75 69 false (.ari .geq (.t 72) (.t 74)),
  BV 76 69 75,mt 77 76,A2 78 77 false (.fadr 36 (.t 10)),A2 79 77 false (.fadr 1 (.t 78)),A2 80 77 false (.load false 1 (.t 79)),A2 81 77 false (.fadr 36 (.t 12)),A2 82 77 false (.fadr 1 (.t 81)),A2 83 77 false (.load false 1 (.t 82)),A2 84 77 false (.ari .lss (.t 80) (.t 83)),
  BV 85 77 84] (.cond (.t 85) (sr [A1 4 (.mv (.c (.bool false)))] .ret) .skip)) (sr [mU 14 0] (.seq (sr [fa 86 0 12,lb 87 1 86,aI 88 .geq 87 0] (.cond (.t 88) (sr [mt 90 5,fa 91 0 12,lb 92 1 91,kl 93 111 [(.t 90),(.t 92)],mt 89 93,ee 94 89 0,ee 95 89 1,A1 15 (.alloc (.st (.cons (.int .i64) (.cons (.int .u64) (.cons (.ar 32 (.int .u8)) (.cons (.int .i64) (.cons (.int .i64) (.cons (.st (.cons (.int .u64) (.cons (.int .u64) .nil))) (.cons .bool (.cons .bool (.cons .bool (.cons (.int .i64) .nil)))))))))))),sb 42 15 94,mt 16 95] (.seq (sr [mt 96 16,A1 97 (.eq true true (.iface [74]) (.t 96) (.c .nili))] (.cond (.t 97) (sr [A1 4 (.mv (.c (.bool false)))] .ret) .skip)) (.reg [fa 98 36 15,fa 99 0 98,lb 100 1 99,mt 14 100]))) .skip)) (sr [fa 101 36 10,fa 102 0 101,lb 103 1 102,mt 104 14,ak 105 .lss 103 104,mt 106 105,A2 107 106 false (.fadr 36 (.t 10)),A2 108 106 false (.fadr 0 (.t 107)),A2 109 106 false (.load false 1 (.t 108)),mg 110 106 false 14,A2 111 106 false (.ari .sub (.t 109) (.t 110)),A2 112 106 false (.fadr 36 (.t 10)),A2 113 106 false (.fadr 1 (.t 112)),A2 114 106 false (.load false 1 (.t 113)),A2 115 106 false (.fadr 36 (.t 12)),A2 116 106 false (.fadr 1 (.t 115)),A2 117 106 false (.load false 1 (.t 116)),A2 118 106 false (.ari .sub (.t 114) (.t 117)),A2 119 106 false (.ari .gtr (.t 111) (.t 118)),
  BV 120 106 119] (.cond (.t 120) (sr [A1 4 (.mv (.c (.bool false)))] .ret) .skip)))))))) (.reg [mt 37 9,aI 38 .add 37 1,mt 9 38])))))) (sr [A1 4 (.mv (.c (.bool true)))] .ret))))))
def f32:LF:=⟨c32,2,0,121,[.tmp 4]⟩
structure Clk (G:Gs):Prop where
 g:G.g=0#64
 u0:(G.c 0).us=0#64
 up:∀ j,1≤j→j < G.n→∃ p,p < j∧(G.c j).par=(p:Nat)∧¬ G.l≤(G.c j).us∧¬ (G.c j).at' < (G.c p).at'∧¬ (G.c j).us < CQ G.c (G.c p)∧(G.c j).us - CQ G.c (G.c p)=(G.c j).at' - (G.c p).at'
theorem Ta {c d:Nat→Cl} (h:∀ j,(d j).us=(c j).us) (q r:Cl) (hp:q.par=r.par):CQ d q=CQ c r:=by
 unfold CQ;rw [hp,h]
theorem Ny {G H:Gs} (h:Clk G) (hg:H.g=G.g) (hl:H.l=G.l) (hn:H.n=G.n) (hc:∀ j,(H.c j).par=(G.c j).par∧(H.c j).us=(G.c j).us∧(H.c j).at'=(G.c j).at'):Clk H:=by
 refine ⟨by rw [hg];exact h.g,by rw [(hc 0).2.1];exact h.u0,fun j h1 hj=>?_⟩
 obtain ⟨p,a⟩:=h.up j h1 (hn ▸ hj)
 refine ⟨p,?_⟩
 rw [(hc j).1,(hc j).2.1,(hc j).2.2,(hc p).2.2,hl,Ta (fun j=>(hc j).2.1) _ _ (hc p).1];exact a
theorem U4 {a b m:BitVec 64} (h:¬ m < Kv a b):a.toNat≤m.toNat∧b.toNat≤m.toNat:=by
 unfold Kv at h
 rw [BitVec.lt_def] at h
 split at h
 ·next hb=>rw [BitVec.lt_def] at hb;omega
 ·next hb=>rw [BitVec.lt_def] at hb;omega
theorem TM {u a b n:BitVec 64} (h:¬ Gy u a b n):a.toNat≤n.toNat∧u.toNat≤1099511627776∧b.toNat≤1099511627776∧n.toNat≤1099511627776:=by
 obtain ⟨h1,h2⟩:=not_or.1 h
 rw [BitVec.lt_def] at h1
 obtain ⟨h3,h4⟩:=U4 h2
 have h3':¬ 1099511627776#64 < Kv (Kv u a) b:=by rw [BitVec.lt_def];exact Nat.not_lt.2 h3
 obtain ⟨h5,h6⟩:=U4 h3'
 have h5':¬ 1099511627776#64 < Kv u a:=by rw [BitVec.lt_def];exact Nat.not_lt.2 h5
 have h7:=(U4 h5').1
 exact ⟨by omega,h7,h6,h4⟩
theorem KC {u a b n:BitVec 64} (h:¬ Gy u a b n):(b + n - a).toNat=b.toNat + n.toNat - a.toNat:=by
 obtain ⟨h1,h2,h3,h4⟩:=TM h
 rw [BitVec.toNat_sub,BitVec.toNat_add]
 omega
theorem Abb {G:Gs} (ok:G.ok) (h:Clk G) {a:Int} {df:Bool} {v:Dg} {pl:Int} {bd t:BitVec 64} (he:G.mE a df v pl bd t=none):Clk (G.mT a df v pl bd t):=by
 obtain ⟨p,rfl,hp,hrs,he⟩:=Gs.mE_in he
 have hn0:=ok.n0
 unfold Gs.mT
 rw [Int.toNat_natCast]
 obtain ⟨-,-,-,-,h5,h6,-⟩:=Me he
 generalize Ia (G.c p).pos=k at *
 generalize Wt (G.c p).pos=i at *
 have hc:∀ j,j < G.n→(G.mv (IE G p df v pl t k i) pl.toNat bd).c j=G.c j:=fun j hj=>if_pos hj
 have hcn:(G.mv (IE G p df v pl t k i) pl.toNat bd).c G.n=IE G p df v pl t k i:=if_neg (Nat.lt_irrefl _)
 have hbf:∀ j,j < G.n→CQ (G.mv (IE G p df v pl t k i) pl.toNat bd).c (G.c j)=CQ G.c (G.c j):=fun j hj=>by
  unfold CQ
  rcases ok.w.prs j hj with h1 | ⟨q,h1,hq⟩
  ·rw [h1,if_pos Am,if_pos Am]
  ·rw [h1,if_neg Aa,if_neg Aa,Int.toNat_natCast,hc q Aa]
 refine ⟨h.g,by rw [hc 0 hn0];exact h.u0,fun j h1j hj=>?_⟩
 have hj:j < G.n + 1:=hj
 by_cases hjn:j < G.n
 ·obtain ⟨p',a1,a2⟩:=h.up j h1j hjn
  refine ⟨p',a1,?_⟩
  rw [hc j hjn,hc p' Aa,hbf p' Aa];exact a2
 ·obtain rfl:j=G.n:=Aa
  refine ⟨p,hp,?_⟩
  rw [hcn,hc p hp,hbf p hp]
  have hs:=KC h5
  obtain ⟨b1,b2,b3,b4⟩:=TM h5
  have e:YI (CQ G.c (G.c p) + t - (G.c p).at') (G.l - G.g)=CQ G.c (G.c p) + t - (G.c p).at':=by
   rw [h.g,BitVec.sub_zero,YI,if_pos (by rw [BitVec.lt_def];rw [BitVec.le_def] at h6;omega)]
  dsimp only [IE,clN]
  rw [e]
  refine ⟨rfl,h6,by rw [BitVec.lt_def];omega,by rw [BitVec.lt_def,hs];omega,?_⟩
  rw [BitVec.sub_eq_add_neg,BitVec.sub_eq_add_neg,BitVec.add_comm,BitVec.add_assoc,← BitVec.add_assoc,BitVec.add_comm (-_),← BitVec.sub_eq_add_neg,BitVec.sub_self,BitVec.zero_add,BitVec.sub_eq_add_neg]
theorem LB (a:Ga) (n:Nat) (l:Nat→Op):Clk (DF a n l).1:=by
 have hb:(He a).ok:=FH _ _ (EN a.lm) 3 Am _ _ _ (E7 a.pl) _ _ _ _ _
 refine DL (P:=fun _ S=>Clk S.1) (S:=(He a,a.nw % 1000#64)) ?_ hb (fun _ _ h=>h) ?_ ?_ ?_ ?_ _
 ·refine ⟨rfl,rfl,fun j h1 hj=>?_⟩
  have hj:j < 1:=hj
  omega
 ·exact fun i S a df v pl bd ok h he=>Abb ok h he
 ·intro i S vf a df pl ok h he
  refine Ny h rfl rfl rfl fun j=>?_
  dsimp only [Gs.tT]
  by_cases hj:j=a.toNat
  ·subst hj;simp only [if_true,and_self]
  ·simp only [hj,if_false,and_self]
 ·intro i S a ok h ha hrs he
  refine Ny h rfl rfl rfl fun j=>?_
  dsimp only [Gs.rsv,Gs.rsC]
  by_cases hj:j=a
  ·subst hj;simp only [if_true,and_self]
  ·simp only [hj,if_false,and_self]
 ·exact fun i S u ok h hu=>h
structure OkGc (M:Seat):Prop where
 g:OkGa M
 k32:Au M 32 f32=true
theorem HL {M:Seat} (ok:OkGc M) (a:Ga) (n:Nat) (l:Nat→Op) (sv:V) (hs:sv=C3 n l ∨ (sv = .nils∧n=0)) (hn:n < 9223372036854775808) :
 Ag M 32 [a.v,sv] [] 0 (Q3 (.bool true) [] 0):=by
 have hvv:=VZ hs
 have hPl:=DX ok.g.p a n l sv hs hn
 have hF:=CI ok.g.f
 have hK:=LB a n l
 have hG:=G3 a n l
 generalize (DF a n l).2=t at *
 generalize (DF a n l).1=G at *
 have hCl:=fun j hj=>BW ok.g.p.g G.D G.l G.g G.s G.n G.c j hj
 have hLn:=De ok.g.p.g G.D G.l G.g G.s G.n
 have hRu:=EU ok.g.p.g G.D G.l G.g G.s G.n
 simp only [Gs.H,Ai,Al,Ac] at hPl
 have hn0:=hG.n0
 have hn64:=hG.w.hn
 refine Ab ok.k32 rfl fun x hx=>?_
 refine es 2000 ?_;(simp only [f32,c32,Ga.v,LZ,seval])
 have zz:=BT @Ai.eq_1 @Al.eq_1 @Ac.eq_1 @Ap.eq_1 @Aq.eq_1 @A7.eq_1 @A4.eq_1 @Cl.v.eq_1 @Ga.v.eq_1 @dg.eq_1 hvv;refine Kb (hPl) ?_
 (simp only [AS,Ai,Al,Ac,Ap,Aq,A7,A4,Cl.v,LZ,seval])
 refine Ak (hF) ?_
 (simp only [LZ,seval])
 have zz:=GM @Ai.eq_1 @Al.eq_1 @Ac.eq_1 @Ap.eq_1 @dg.eq_1;refine Bw [64,65,66] [64] (hRu) ?_
 (simp only [Ai,Al,Ac,LZ,seval])
 refine An (σ:=Nat) (fun i=>1≤i∧i≤G.n) (fun i=>fr 121 [(5,.ptr 0 []),(8,.ptr 4 []),(9,.int .i64 i)]) (fun _=>G.H ++ [(4,Ac G.l G.g)]) (fun _=>5) (fun i=>G.n - i) 1 ⟨by omega,hn0⟩ ?_ ?_
 ·refine Ao.fr [64,65,66,67,336] [] hx AQ Am ?_ ?_
  ·simp only [Int.cast_ofNat_Int,LY,seval]
  ·simp only [Gs.H,Ai,Al,Ac,Ap,Aq,A7,A4,Cl.v,dg,B3,LY,seval]
 ·rintro i ⟨h1,hi⟩
  refine es 2000 ?_
  have z0:IntKind.i64.wrap ((i:Int) + 1)=((i + 1:Nat):Int):=AZ
  (simp only [Gs.H,Ai,Al,Ac,Ap,Aq,A7,A4,Cl.v,B3,LZ,seval])
  have zz:=GM @Ai.eq_1 @Al.eq_1 @Ac.eq_1 @Ap.eq_1 @dg.eq_1;refine Bw [0,1,2] [0] (hLn) ?_
  by_cases hin:i=G.n
  ·have w0:((i:Int) < (G.n:Int))=False:=eq_false Aa
   (simp only [w0,Ai,Al,Ac,LZ,seval])
   exact Ar.mkZ hx [] ⟨rfl,rfl,rfl⟩
  have w0:((i:Int) < (G.n:Int))=True:=eq_true Aa
  obtain ⟨p,hp,hpar,e2,e3,e4,e5⟩:=hK.up i h1 Aa
  have e1:¬ G.l - G.g < (G.c i).us:=by rw [hK.g,BitVec.sub_zero,BitVec.lt_def];rw [BitVec.le_def] at e2;omega
  have e6:¬ (G.c i).at' - (G.c p).at' < (G.c i).us - CQ G.c (G.c p):=by rw [e5,BitVec.lt_def];exact Nat.lt_irrefl _
  have hci:=hCl i Aa
  have hcp:=hCl p Aa
  have e1:=eq_false e1
  have e2:=eq_false e2
  have e3:=eq_false e3
  have e4:=eq_false e4
  have e6:=eq_false e6
  (simp only [w0,Ai,Al,Ac,LZ,seval])
  have zz:=Db @Ai.eq_1 @Al.eq_1 @Ac.eq_1 @Ap.eq_1 @Cl.v.eq_1 @dg.eq_1;refine Bw [0,1,2] [0,1] (hci) ?_
  (simp only [AH,Ai,Al,Ac,Ap,Cl.v,hpar,seval])
  have zz:=Db @Ai.eq_1 @Al.eq_1 @Ac.eq_1 @Ap.eq_1 @Cl.v.eq_1 @dg.eq_1;refine Bw [0,1,2] [0,1] (hcp) ?_
  unfold CQ at e4 e6
  rcases hG.w.prs p Aa with h | ⟨q,hq,hqp⟩
  ·have d0:(0≤(-1:Int))=False:=eq_false Aa
   simp only [h,seval,if_true] at e4 e6
   (simp only [AH,Ai,Al,Ac,Ap,Cl.v,h,d0,e1,e2,e3,e4,e6,z0,seval])
   refine ⟨i + 1,by omega,by omega,by omega,?_⟩
   refine Ao.fr [0,1,2,3,4] [] hx AQ Am ?_ ?_
   ·simp only [LY,seval]
   ·simp only [Gs.H,Ai,Al,Ac,Ap,Aq,A7,A4,Cl.v,dg,B3,LY,seval]
  ·have d0:(0≤(q:Int))=True:=eq_true Aa
   have d1:((q:Int) < 0)=False:=eq_false Aa
   simp only [hq,d1,if_false,Int.toNat_natCast] at e4 e6
   have hcq:=hCl q Aa
   (simp only [AH,Ai,Al,Ac,Ap,Cl.v,hq,d0,e1,e2,e3,seval])
   have zz:=Db @Ai.eq_1 @Al.eq_1 @Ac.eq_1 @Ap.eq_1 @Cl.v.eq_1 @dg.eq_1;refine Bw [0,1,2] [0,1] (hcq) ?_
   (simp only [AH,Ai,Al,Ac,Ap,Cl.v,e4,e6,z0,seval])
   refine ⟨i + 1,by omega,by omega,by omega,?_⟩
   refine Ao.fr [0,1,2,3,4] [] hx AQ Am ?_ ?_
   ·simp only [LY,seval]
   ·simp only [Gs.H,Ai,Al,Ac,Ap,Aq,A7,A4,Cl.v,dg,B3,LY,seval]
end Mv
