/- A part. -/
import Derived.Test.YtpcgkiecjakknaaGreatDoorDO
set_option linter.all false
set_option maxRecDepth 20000
set_option maxHeartbeats 16000000
namespace Mv
open Go
def c31:LC:=(sr [bX 2 0,A1 4 (.mv (.c (.bool false)))] (sr [la 20 7 2,mt 21 1,kl 22 127 [(.t 20),(.t 21)],mt 19 22,ee 23 19 0,ee 24 19 1,ee 25 19 2,mt 5 23,mt 6 24,mt 7 25] (.seq (sr [mt 26 5,A1 27 (.eq false true .ptr (.t 26) (.c .nilp)),mt 28 27,⟨(some 29),.call 116 [],(some (28,false))⟩,A2 30 28 false (.un .not (.t 29)),
  BV 31 28 30] (.cond (.t 31) (sr [A1 4 (.mv (.c (.bool false)))] .ret) .skip)) (sr [mU 8 0] (.seq (sr [mt 32 5,kl 33 117 [(.t 32)],
  mI 34 0] (.block 0 (.loop (sr [ak 35 .lss 34 33] (.seq (Dd 35 0) (.seq (.block 1 (sr [mt 36 34,mt 9 36] (sr [mt 38 5,mt 39 9,kl 40 111 [(.t 38),(.t 39)],mt 37 40,ee 41 37 0,ee 42 37 1,A1 10 (.alloc (.st (.cons (.int .i64) (.cons (.int .u64) (.cons (.ar 32 (.int .u8)) (.cons (.int .i64) (.cons (.int .i64) (.cons (.st (.cons (.int .u64) (.cons (.int .u64) .nil))) (.cons .bool (.cons .bool (.cons .bool (.cons (.int .i64) .nil)))))))))))),sb 42 10 41,mt 11 42] (sr [fa 44 1 10,lb 45 1 44,kl 46 130 [(.t 45)],mt 43 46,ee 47 43 0,ee 48 43 1,ee 49 43 2,mt 12 47,mt 13 48,mt 14 49] (.seq (sr [mt 50 11,A1 51 (.eq true true (.iface [74]) (.t 50) (.c .nili)),mt 52 51,mg 53 52 false 14,A2 54 52 false (.eq true true (.iface [74]) (.t 53) (.c .nili)),
  BV 55 52 54] (.cond (.t 55) (sr [A1 4 (.mv (.c (.bool false)))] .ret) .skip)) (sr [fa 56 39 10,lb 57 1 56,A1 58 (.un .not (.t 57))] (.cond (.t 58) (.reg [mt 59 8,mt 60 12,kl 61 120 [(.t 60)],ak 62 .add 59 61,mt 8 62]) .skip))))))) (.reg [aI 63 .add 34 1,mt 34 63]))))))) (sr [mt 64 6,kl 65 133 [(.t 64)],mt 15 65] (.seq (sr [mI 66 0] (.block 2 (.loop (sr [aI 67 .lss 66 8] (.seq (Dd 67 2) (.seq (.block 3 (sr [mt 68 66,mt 16 68] (sr [mt 70 6,mt 71 16,kl 72 126 [(.t 70),(.t 71)],mt 69 72,ee 73 69 0,ee 74 69 1,mt 17 73,mt 18 74] (.seq (sr [mt 75 18,A1 76 (.eq true true (.iface [74]) (.t 75) (.c .nili))] (.cond (.t 76) (sr [A1 4 (.mv (.c (.bool false)))] .ret) .skip)) (.reg [mt 77 15,mt 78 17,ak 79 .add 77 78,mt 15 79]))))) (.reg [aI 80 .add 66 1,mt 66 80]))))))) (sr [mt 81 8,mt 82 6,kl 83 133 [(.t 82)],ak 84 .eql 81 83,mt 85 84,mg 86 85 true 15,A2 87 85 true (.ari .eql (.t 86) (cU 4000)),
  Fq 88 85 87,mt 4 88] .ret))))))))
def f31:LF:=⟨c31,2,0,89,[.tmp 4]⟩
def F2 (f:Nat→BitVec 64):Nat→BitVec 64
 | 0=>0#64
 | i + 1=>F2 f i + f i
theorem Fp {f g:Nat→BitVec 64}:∀ n,(∀ j,j < n→f j=g j)→F2 f n=F2 g n
 | 0,_=>rfl
 | n + 1,h=>by rw [F2,F2,Fp n fun j hj=>h j Aa,h n Aa]
theorem Ip {f g:Nat→BitVec 64} {a:Nat} (hne:∀ j,j ≠ a→g j=f j):∀ n,F2 g n=F2 f n + if a < n then g a - f a else 0#64
 | 0=>by rw [if_neg Aa];rfl
 | n + 1 => by
   rw [F2,F2,Ip hne n]
   by_cases h1:a < n
   ·rw [if_pos h1,if_pos Aa,hne n Aa,BitVec.add_assoc,BitVec.add_comm (g a - f a),← BitVec.add_assoc]
   ·rw [if_neg h1]
    by_cases h2:n=a
    ·subst h2
     rw [if_pos Aa,BitVec.add_zero,BitVec.add_assoc]
     congr 1
     rw [BitVec.sub_eq_add_neg,BitVec.add_comm (g n),← BitVec.add_assoc,← BitVec.sub_eq_add_neg,BitVec.sub_self,BitVec.zero_add]
    ·rw [if_neg Aa,hne n h2,BitVec.add_zero,BitVec.add_zero]
def Gs.lk (G:Gs) (j:Nat):BitVec 64:=if (G.c j).rs=true then 0#64 else BitVec.ofNat 64 (Ia (G.c j).pos + 1)
structure Bon (G:Gs):Prop where
 v:∀ j,j < G.n→G.v j=BitVec.ofNat 64 (Ia (G.c j).pos + 1)
 k:G.k=F2 G.lk G.n
 s:F2 G.b 8 + G.k=4000#64
theorem Nt (a b:BitVec 64):a - b - a = -b:=by rw [BitVec.sub_eq_add_neg,BitVec.sub_eq_add_neg,BitVec.add_comm a,BitVec.add_assoc,← BitVec.sub_eq_add_neg,BitVec.sub_self,BitVec.add_zero]
theorem Mp (a b:BitVec 64):a + b - a=b:=by rw [BitVec.add_comm,BitVec.sub_eq_add_neg,BitVec.add_assoc,← BitVec.sub_eq_add_neg,BitVec.sub_self,BitVec.add_zero]
theorem Ad3 {G:Gs} (ok:G.ok) (h:Bon G) {a:Int} {df:Bool} {v:Dg} {pl:Int} {bd t:BitVec 64} (he:G.mE a df v pl bd t=none):Bon (G.mT a df v pl bd t):=by
 obtain ⟨p,rfl,hp,hrs,he⟩:=Gs.mE_in he
 obtain ⟨k,i,hk,hi,hpos⟩:=ok.w.pls p hp
 have hD:=ok.w.hD
 unfold Gs.mT
 rw [Int.toNat_natCast]
 rw [hpos,Cr Aa hi,Ej Aa hi] at he ⊢
 obtain ⟨h1,h2,h3,-,-,-,-,⟨q,hq,rfl⟩,-⟩:=Me he
 have e2:2 ^ (k + 1)=2 * 2 ^ k:=Y6
 have hdp:Ia (Ks k i df)=k + 1:=by
  unfold Ks
  cases df with
  | true=>rw [if_pos rfl,Cr Aa (by have:i + 1 ≠ 2 ^ k:=fun q=>h2 ⟨rfl,q⟩;omega)]
  | false=>rw [if_neg Am,Cr Aa Aa]
 have hcj:∀ j,j < G.n→(G.mv (IE G p df v q t k i) q bd).c j=G.c j:=fun j hj=>if_pos hj
 have hcn:(G.mv (IE G p df v q t k i) q bd).c G.n=IE G p df v q t k i:=if_neg (Nat.lt_irrefl _)
 have hlk:∀ j,j < G.n→(G.mv (IE G p df v q t k i) q bd).lk j=G.lk j:=fun j hj=>by unfold Gs.lk;rw [hcj j hj]
 have hln:(G.mv (IE G p df v q t k i) q bd).lk G.n=bd:=by
  unfold Gs.lk
  rw [hcn,if_neg (by simp [IE,clN])]
  show BitVec.ofNat 64 (Ia (Ks k i df) + 1)=bd
  rw [hdp,h3]
 refine ⟨fun j hj=>?_,?_,?_⟩
 ·have hj:j < G.n + 1:=hj
  show (if j < G.n then G.v j else bd)=_
  by_cases hjn:j < G.n
  ·rw [if_pos hjn,Int.toNat_natCast,hcj j hjn];exact h.v j hjn
  ·obtain rfl:j=G.n:=Aa
   rw [if_neg hjn,Int.toNat_natCast,hcn,h3]
   show _=BitVec.ofNat 64 (Ia (Ks k i df) + 1)
   rw [hdp]
 ·show G.k + bd=F2 _ (G.n + 1)
  rw [F2,Int.toNat_natCast,Fp G.n hlk,hln,h.k]
 ·show F2 (fun j=>if j=q then G.b q - bd else G.b j) 8 + (G.k + bd)=4000#64
  rw [Ip (f:=G.b) (a:=q) (fun j hj=>if_neg hj),if_pos hq,if_pos rfl,Nt,← h.s]
  rw [BitVec.add_assoc,BitVec.add_comm (-bd),BitVec.add_assoc,← BitVec.sub_eq_add_neg bd,BitVec.sub_self,BitVec.add_zero]
theorem QN {G:Gs} (ok:G.ok) (h:Bon G) {a:Nat} (ha:a < G.n) (hrs:(G.c a).rs=false):Bon (G.rsv a):=by
 obtain ⟨q,hq,hB⟩:=G.rsB_lt ok.b ha
 have hpj:∀ j,((G.rsv a).c j).pos=(G.c j).pos:=fun j=>by
  show (if j=a then G.rsC a else G.c j).pos=_
  by_cases hj:j=a
  ·subst hj;rw [if_pos rfl];rfl
  ·rw [if_neg hj]
 refine ⟨fun j hj=>?_,?_,?_⟩
 ·rw [hpj];exact h.v j hj
 ·show G.k - G.v a=F2 (G.rsv a).lk G.n
  have e1:(G.rsv a).lk a=0#64:=by
   unfold Gs.lk
   rw [show (G.rsv a).c a=G.rsC a from if_pos rfl]
   exact if_pos rfl
  have e2:G.lk a=G.v a:=by unfold Gs.lk;rw [hrs,if_neg Am,h.v a ha]
  rw [Ip (f:=G.lk) (a:=a) (fun j hj=>?_),if_pos ha,e1,e2,h.k,BitVec.zero_sub,← BitVec.sub_eq_add_neg]
  unfold Gs.lk
  rw [show (G.rsv a).c j=G.c j from if_neg hj]
 ·show F2 (fun j=>if j=(G.rsB a).toNat then G.b (G.rsB a).toNat + G.v a else G.b j) 8 + (G.k - G.v a)=4000#64
  rw [hB,Int.toNat_natCast,Ip (f:=G.b) (a:=q) (fun j hj=>if_neg hj),if_pos hq,if_pos rfl,Mp,← h.s]
  rw [BitVec.add_assoc,BitVec.add_comm (G.v a),BitVec.sub_add_cancel]
theorem Qn (a:Ga) (n:Nat) (l:Nat→Op):Bon (DF a n l).1:=by
 have hb:(He a).ok:=FH _ _ (EN a.lm) 3 Am _ _ _ (E7 a.pl) _ _ _ _ _
 refine DL (P:=fun _ S=>Bon S.1) (S:=(He a,a.nw % 1000#64)) ?_ hb (fun _ _ h=>h) ?_ ?_ ?_ ?_ _
 ·refine ⟨fun j hj=>?_,(by show 0#64 + 1#64=0#64 + BitVec.ofNat 64 (Ia 1#64 + 1);decide),?_⟩
  ·have hj:j < 1:=hj
   obtain rfl:j=0:=Aa
   show 1#64=BitVec.ofNat 64 (Ia 1#64 + 1)
   decide
  ·show F2 (fun j=>if j=m8 a.pl then DD 500#64 8 (m8 a.pl) - 1#64 else DD 500#64 8 j) 8 + (0#64 + 1#64)=4000#64
   have h8:=E7 a.pl
   generalize m8 a.pl=q at *
   rcases (show q=0 ∨ q=1 ∨ q=2 ∨ q=3 ∨ q=4 ∨ q=5 ∨ q=6 ∨ q=7 by omega) with rfl | rfl | rfl | rfl | rfl | rfl | rfl | rfl <;> decide
 ·exact fun i S a df v pl bd ok h he=>Ad3 ok h he
 ·intro i S vf a df pl ok h he
  have hc:∀ j,((S.1.tT a pl).c j).pos=(S.1.c j).pos∧((S.1.tT a pl).c j).rs=(S.1.c j).rs:=fun j=>by
   show (if j=a.toNat then _ else _:Cl).pos=_∧(if j=a.toNat then _ else _:Cl).rs=_
   by_cases hj:j=a.toNat
   ·subst hj;rw [if_pos rfl];exact ⟨rfl,rfl⟩
   ·rw [if_neg hj];exact ⟨rfl,rfl⟩
  refine ⟨fun j hj=>by rw [(hc j).1];exact h.v j hj,?_,h.s⟩
  show S.1.k=F2 (S.1.tT a pl).lk S.1.n
  rw [h.k]
  exact Fp _ fun j _=>by unfold Gs.lk;rw [(hc j).1,(hc j).2]
 ·exact fun i S a ok h ha hrs he=>QN ok h ha hrs
 ·exact fun i S u ok h hu=>h
structure OkGo (M:Seat):Prop where
 g:OkGa M
 k31:Au M 31 f31=true
theorem Afy {M:Seat} (ok:OkGN M) (k:Nat) (hk:k≤100):Ag M 120 [.int .i64 (k:Int)] [] 0 (Q3 (W (BitVec.ofNat 64 (k + 1))) [] 0):=by
 have hB:=Dh ok (k:Int)
 rw [if_neg Aa,BitVec.ofInt_natCast,show BitVec.ofNat 64 k + 1#64=BitVec.ofNat 64 (k + 1) by rw [BitVec.ofNat_add]] at hB
 exact hB
theorem IX {M:Seat} (ok:OkGo M) (a:Ga) (n:Nat) (l:Nat→Op) (sv:V) (hs:sv=C3 n l ∨ (sv = .nils∧n=0)) (hn:n < 9223372036854775808) :
 Ag M 31 [a.v,sv] [] 0 (Q3 (.bool true) [] 0):=by
 have hvv:=VZ hs
 have hPl:=DX ok.g.p a n l sv hs hn
 have hF:=CI ok.g.f
 have hB:=Qn a n l
 have hG:=G3 a n l
 generalize (DF a n l).2=t at *
 generalize (DF a n l).1=G at *
 have hCl:=fun j hj=>BW ok.g.p.g G.D G.l G.g G.s G.n G.c j hj
 have hLn:=De ok.g.p.g G.D G.l G.g G.s G.n
 have hLk:=H8 ok.g.p.g.t.s.le G.b G.i G.o G.n G.k
 have hBl:=fun p hp=>J9 ok.g.p.g.t.s.le G.b G.i G.o G.n G.k p hp
 simp only [Gs.H,Ai,Al,Ac] at hPl
 have hn0:=hG.n0
 have hn64:=hG.w.hn
 have hD20:=hG.w.hD
 refine Ab ok.k31 rfl fun x hx=>?_
 refine es 2000 ?_;(simp only [f31,c31,Ga.v,LZ,seval])
 have zz:=BT @Ai.eq_1 @Al.eq_1 @Ac.eq_1 @Ap.eq_1 @Aq.eq_1 @A7.eq_1 @A4.eq_1 @Cl.v.eq_1 @Ga.v.eq_1 @dg.eq_1 hvv;refine Kb (hPl) ?_
 (simp only [AS,Ai,Al,Ac,Ap,Aq,A7,A4,Cl.v,LZ,seval])
 refine Ak (hF) ?_
 (simp only [LZ,seval])
 have zz:=Db @Ai.eq_1 @Al.eq_1 @Ac.eq_1 @Ap.eq_1 @Cl.v.eq_1 @dg.eq_1;refine Bw [64,65,66] [64] (hLn) ?_
 (simp only [Ai,Al,Ac,LZ,seval])
 refine An (σ:=Nat) (fun i=>i≤G.n) (fun i=>fr 89 [(5,.ptr 0 []),(6,.ptr 2 []),(8,W (F2 G.lk i)),(33,.int .i64 G.n),(34,.int .i64 i)]) (fun _=>G.H) (fun _=>4) (fun i=>G.n - i) 0 Aa ?_ ?_
 ·refine Ao.fr [64,65,66,67] [] hx AQ Am ?_ ?_
  ·simp only [F2,Int.natCast_zero,LY,seval]
  ·simp only [Gs.H,Ai,Al,Ac,Ap,Aq,A7,A4,Cl.v,dg,LY,seval]
 ·intro i hi
  refine es 2000 ?_
  by_cases hin:i=G.n
  ·have w0:((i:Int) < (G.n:Int))=False:=eq_false Aa
   subst hin
   have z0:F2 G.b 0=0#64:=rfl
   (simp only [w0,Gs.H,Ai,Al,Ac,Ap,Aq,A7,A4,Cl.v,LZ,seval])
   have zz:=@Aq.eq_1;refine Bw [2,3] [2] (hLk) ?_
   (simp only [Aq,LZ,seval])
   refine An (σ:=Nat) (fun i=>i≤8) (fun i=>fr 89 [(5,.ptr 0 []),(6,.ptr 2 []),(8,W (F2 G.lk G.n)),(15,W (G.k + F2 G.b i)),(66,.int .i64 i)]) (fun _=>G.H) (fun _=>4) (fun i=>8 - i) 0 Aa ?_ ?_
   ·refine Ao.fr [0,1,2,3] [] hx AQ Am ?_ ?_
    ·simp only [F2,Int.natCast_zero,BitVec.add_zero,LY,seval]
    ·simp only [Gs.H,Ai,Al,Ac,Ap,Aq,A7,A4,Cl.v,dg,LY,seval]
   ·intro j hj
    refine es 2000 ?_
    by_cases hj8:j=8
    ·subst hj8
     have w1:(((8:Nat):Int) < 8)=False:=eq_false Aa
     have e1:(F2 G.lk G.n=G.k)=True:=eq_true hB.k.symm
     have e2:(G.k + F2 G.b 8=4000#64)=True:=eq_true (by rw [BitVec.add_comm];exact hB.s)
     (simp only [w1,Gs.H,Ai,Al,Ac,Ap,Aq,A7,A4,Cl.v,LZ,seval])
     have zz:=@Aq.eq_1;refine Bw [2,3] [2] (hLk) ?_
     (simp only [Aq,e1,e2,LZ,seval])
     exact Ar.mkZ hx [] ⟨rfl,rfl,rfl⟩
    ·have w1:((j:Int) < 8)=True:=eq_true Aa
     have z1:IntKind.i64.wrap ((j:Int) + 1)=((j + 1:Nat):Int):=AZ
     have hb:=hBl j Aa
     have e1:G.k + F2 G.b (j + 1)=G.k + F2 G.b j + G.b j:=by rw [F2,BitVec.add_assoc]
     (simp only [w1,Gs.H,Ai,Al,Ac,Ap,Aq,A7,A4,Cl.v,LZ,seval])
     have zz:=@Aq.eq_1;refine Bw [2,3] [2] (hb) ?_
     (simp only [AH,Aq,z1,seval])
     refine ⟨j + 1,by omega,by omega,?_⟩
     refine Ao.fr [0,1,2,3] [] hx AQ Am ?_ ?_
     ·simp only [e1,LY,seval]
     ·simp only [Gs.H,Ai,Al,Ac,Ap,Aq,A7,A4,Cl.v,dg,LY,seval]
  ·have w0:((i:Int) < (G.n:Int))=True:=eq_true Aa
   have z1:IntKind.i64.wrap ((i:Int) + 1)=((i + 1:Nat):Int):=AZ
   have hc:=hCl i Aa
   obtain ⟨k,q,hk,hq,hpos⟩:=hG.w.pls i Aa
   have hP:=Bc ok.g.p.g.t.s.v.g.p (show k≤24 by omega) hq
   have hbn:=Afy ok.g.p.g.t.s.v.g.n k Aa
   have e1:F2 G.lk (i + 1)=F2 G.lk i + if (G.c i).rs=true then 0#64 else BitVec.ofNat 64 (k + 1):=by
    rw [F2,Gs.lk,hpos,Cr Aa hq]
   (simp only [w0,Gs.H,Ai,Al,Ac,Ap,Aq,A7,A4,Cl.v,LZ,seval])
   have zz:=Db @Ai.eq_1 @Al.eq_1 @Ac.eq_1 @Ap.eq_1 @Cl.v.eq_1 @dg.eq_1;refine Bw [0,1,2] [0,1] (hc) ?_
   (simp only [AH,Ai,Al,Ac,Ap,Cl.v,hpos,seval])
   refine Ak (hP) ?_
   cases hrs:(G.c i).rs with
   | true =>
     rw [hrs,if_pos rfl,BitVec.add_zero] at e1
     (simp only [AS,hrs,z1,LZ,seval])
     refine ⟨i + 1,by omega,by omega,?_⟩
     refine Ao.fr [0,1,2,3] [] hx AQ Am ?_ ?_
     ·simp only [e1,LY,seval]
     ·simp only [Gs.H,Ai,Al,Ac,Ap,Aq,A7,A4,Cl.v,dg,LY,seval]
   | false =>
     rw [hrs,if_neg Am] at e1
     (simp only [AS,hrs,LZ,seval])
     refine Ak (hbn) ?_
     (simp only [z1,LZ,seval])
     refine ⟨i + 1,by omega,by omega,?_⟩
     refine Ao.fr [0,1,2,3] [] hx AQ Am ?_ ?_
     ·simp only [e1,LY,seval]
     ·simp only [Gs.H,Ai,Al,Ac,Ap,Aq,A7,A4,Cl.v,dg,LY,seval]
end Mv
