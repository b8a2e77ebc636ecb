/- A part. -/
import Derived.Test.YtncipgmjhaiagaaGreatDoorEW
set_option linter.all false
set_option maxRecDepth 20000
set_option maxHeartbeats 4000000
namespace Mv
open Go
variable {M:Seat}
structure OkH (M:Seat):Prop where
 k319:Al M 319 Aff=true
 k418:Al M 418 Agw=true
 k419:Al M 419 Ahq=true
 k420:Al M 420 Aij=true
def KH (p:Nat→BitVec 8) (j:Nat):BitVec 8:=if j < 64 then p j else if j=64 then 1 else if j=135 then 128 else 0
def G9 (s:List (BitVec 64)) (rest:V):V:=.st 26 (.fcons 0 (.ar 1 25 (ws s)) (.fcons 25 rest .fnil))
def zst:List (BitVec 64):=List.replicate 25 0
theorem Agv (j:Nat):zst.getD j 0=0:=by
 simp only [zst,List.getD,List.getElem?_replicate];split <;> rfl
def B9 (p:Nat→BitVec 8):Dg:=Qf (HL zst (KH p))
theorem TK (ok:OkH M):Af M 418 [] [] 0 (Q3 (.ptr 0 []) [(0,G9 zst .nils)] 1):=by
 refine Ac ok.k418 rfl fun x hx=>?_
 refine es 2000 ?_;(simp only [Agw,Alo,LZ,seval])
 refine ID hx [32] (.ptr 0 []) ([(0,G9 zst .nils)]) 1 ?_
 simp only [G9,LY,seval]
 exact fun i _=>(Agv i).symm
theorem Us (ok:OkH M) (s:List (BitVec 64)) (p:Nat→BitVec 8) :
 Af M 419 [.ptr 0 [],.lst 1 64 (fun j=>B (p j))] [(0,G9 s .nils)] 1 (Q3 .nili [(0,G9 s (.sl 1 [] 0 64 1)),(1,.ar 1 64 (fun j=>B (p j)))] 2):=by
 refine Ac ok.k419 rfl fun x hx=>?_
 refine es 2000 ?_;(simp only [Ahq,Amb,G9,LZ,seval])
 refine AZ ?_
 refine es 2000 ?_
 (simp only [LZ,seval])
 refine ID hx [0,145] (.nili) ([(0,G9 s (.sl 1 [] 0 64 1)),(1,.ar 1 64 (fun j=>B (p j)))]) 2 ?_
 simp only [G9,LY,seval]
theorem Uk (okA:OkM M) (ok:OkH M) (s:List (BitVec 64)) (p:Nat→BitVec 8) :
 Af M 420 [.imm (G9 s (.lst 1 64 (fun j=>B (p j))))] [] 0 (Q3 (Ao (dg (Qf (HL s (KH p)))) .nili) [] 0):=by
 refine Ac ok.k420 rfl fun x hx=>?_
 have m1:min 64 136=64:=rfl
 have m2:∀ i:Nat,(0≤i)=True:=fun i=>eq_true (Nat.zero_le i)
 refine es 2000 ?_;(simp only [Aij,Amk,G9,m1,m2,LZ,seval])
 refine cpK (G1 okA s (KH p)) (by (try simp only [Ki,LY,seval]) <;> first | exact q1 | ((intro j hj;simp only [KH];repeat' split <;> first | omega | rfl | simp_all | (subst_vars;rfl)))) (by simp only [Ki,LX]) ?_
 (simp only [LZ,seval])
 refine Ah (IP okA (HL s (KH p))) ?_
 (simp only [LZ,seval])
 refine Aq.mk hx [] [] (Ao (dg (Qf (HL s (KH p)))) .nili) [] 0 Ak (by (simp only [Fk,seval])) (by (try simp only [IT,seval]) <;> exact q2) trivial ⟨rfl,rfl,rfl⟩
theorem CB (okA:OkM M) (ok:OkH M) (p:Nat→BitVec 8) :
 Af M 319 [.lst 1 64 (fun j=>B (p j))] [] 0 (Q3 (dg (B9 p)) [] 0):=by
 refine Ac ok.k319 rfl fun x hx=>?_
 refine es 2000 ?_;(simp only [Aff,Ajt,LZ,seval])
 have zz:=@G9.eq_1;refine El (TK ok) ?_
 (simp only [G9,LZ,seval])
 have zz:=@G9.eq_1;refine Fl [16] (Us ok zst p) ?_
 (simp only [G9,LZ,seval])
 have zz:=@G9.eq_1;refine CI (Uk okA ok zst p) ?_
 (simp only [Cb,seval])
 refine Aq.mk hx [] [] (dg (Qf (HL zst (KH p)))) [] 0 Ak (by (simp only [Fk,seval])) (by (try simp only [IT,seval]) <;> exact q2) trivial ⟨rfl,rfl,rfl⟩
variable {M:Seat}
structure OkS (M:Seat):Prop extends OkH M where
 k68:Al M 68 f68=true
 k212:Al M 212 Zw=true
 k213:Al M 213 Ain=true
 k320:Al M 320 Va=true
 k328:Al M 328 Qo=true
def CM (a b:Dg):Pr:=Pr.mk' fun j=>if j < 32 then a.at j else b.at (j - 32)
theorem P2 (ok:OkS M) (a b:Dg):Af M 213 [dg a,dg b] [] 0 (Q3 (At (CM a b)) [] 0):=by
 refine Ac ok.k213 rfl fun x hx=>?_
 have m1:min 32 32=32:=rfl
 have m2:∀ i:Nat,(0≤i)=True:=fun i=>eq_true (Nat.zero_le i)
 refine es 2000 ?_;(simp only [Ain,Aje,BA,m1,m2,Ki,seval])
 refine Aq.mk hx [] [] (At (CM a b)) [] 0 Ak (by simp only [DS,Ig,Ek,LZ,seval]) ?_ trivial ⟨rfl,rfl,rfl⟩
 simp only [DS,Ek,At,LZ,seval,LY]
 intro j hj
 rw [CM,Pr.at_mk' _ _ hj]
 by_cases h:j < 32
 ·rw [if_neg Aa,if_pos h,if_pos h]
 ·rw [if_pos Aa,if_neg h]
def DO (ev:Nat) (a b:Pr) (met:Bool):V:=.st 130 (.fcons 0 (.map ev) (.fcons 1 (At a) (.fcons 65 (At b) (.fcons 129 (.bool met) .fnil))))
structure WS where
 pres:List (Dg × Pr)
 ever:List (Dg × Pr)
 a:Pr
 b:Pr
 met:Bool
def WS.kin (w:WS) (h:Dg) (p:Pr):WS:=match Dv h w.ever with
 | none=>{ w with ever:=CG h p w.ever }
 | some q=>if ¬ q=p∧w.met=false then { w with a:=q,b:=p,met:=true } else w
theorem Pu (ok:OkS M) (w:WS) (h:Dg) (p:Pr) :
 Af M 320 [.ptr 0 [],dg h,At p] [(0,DO 1 w.a w.b w.met),(1,Bv At Pr.zero w.ever)] 2
  (Q3 (.tup .fnil) [(0,DO 1 (w.kin h p).a (w.kin h p).b (w.kin h p).met),(1,Bv At Pr.zero (w.kin h p).ever)] 2):=by
 refine Ac ok.k320 rfl fun x hx=>?_
 cases hl:Dv h w.ever with
 | none =>
   refine es 2000 ?_;(simp only [Va,Vy,DO,hl,BA,seval])
   have e:w.kin h p={ w with ever:=CG h p w.ever }:=by simp only [WS.kin,hl]
   rw [e]
   refine ID hx [0,1] (.tup .fnil) ([(0,DO 1 w.a w.b w.met),(1,Bv At Pr.zero (CG h p w.ever))]) 2 ?_
   simp only [DO,CF,seval]
 | some q =>
   by_cases hq:q=p
   ·have e:w.kin h p=w:=by simp only [WS.kin,hl,hq,not_true_eq_false,false_and,if_false]
    refine es 2000 ?_;(simp only [Va,Vy,DO,hl,hq,BA,seval])
    rw [e]
    refine ID hx [0,1] (.tup .fnil) ([(0,DO 1 w.a w.b w.met),(1,Bv At Pr.zero w.ever)]) 2 ?_
    simp only [DO,CF,seval]
   ·cases hm:w.met with
    | true =>
      have e:w.kin h p=w:=by simp [WS.kin,hl,hm]
      refine es 2000 ?_;(simp only [Va,Vy,DO,hl,hq,BA,hm,seval])
      rw [e]
      refine ID hx [0,1] (.tup .fnil) ([(0,DO 1 w.a w.b w.met),(1,Bv At Pr.zero w.ever)]) 2 ?_
      simp only [DO,hm,CF,seval]
    | false =>
      have e:w.kin h p={ w with a:=q,b:=p,met:=true }:=by simp [WS.kin,hl,hm,hq]
      refine es 2000 ?_;(simp only [Va,Vy,DO,hl,hq,BA,hm,seval])
      rw [e]
      refine ID hx [0,1] (.tup .fnil) ([(0,DO 1 q p true),(1,Bv At Pr.zero w.ever)]) 2 ?_
      simp only [DO,hm,CF,seval]
def QI (va:V):V:=.st 4 (.fcons 0 (.map 1) (.fcons 1 (.ptr 2 []) (.fcons 2 (.map 4) (.fcons 3 va .fnil))))
def Nw:=(aq2 @DO.eq_1 @QI.eq_1)
def Fo (w:WS) (va:V):Hp:=[(0,QI va),(1,Bv At Pr.zero w.pres),(2,DO 3 w.a w.b w.met),(3,Bv At Pr.zero w.ever)]
def WS.add (w:WS) (p:Pr):WS:=({ w with pres:=CG (B9 p.at) p w.pres }:WS).kin (B9 p.at) p
theorem Xv (w:WS) (h:Dg) (p:Pr):(w.kin h p).pres=w.pres:=by
 unfold WS.kin;split <;> (try split) <;> rfl
theorem Yp (w:WS) (l:List (Dg × Pr)) (h:Dg) (p:Pr):({ w with pres:=l }:WS).kin h p={ w.kin h p with pres:=l }:=by
 unfold WS.kin;dsimp only;split <;> (try split) <;> rfl
theorem Mx (okA:OkM M) (ok:OkS M) (w:WS) (p:Pr)  :
 Af M 212 [.ptr 0 [],At p] (Fo w (.nils)) 5 (Q3 (Ao (dg (B9 p.at)) .nili) (Fo (w.add p) (.nils)) 5):=by
 refine Ac ok.k212 rfl fun x hx=>?_
 have e:w.add p={ w.kin (B9 p.at) p with pres:=CG (B9 p.at) p w.pres }:=by rw [WS.add,Yp]
 refine es 2000 ?_;(simp only [Zw,Aiz,Fo,QI,BA,seval])
 have zz:=@At.eq_1;refine CI (CB okA ok.toOkH p.at) ?_
 (simp only [BA,seval])
 have zz:=aq2 @C6 @DO.eq_1;refine Pd [2,3] (Pu ok w (B9 p.at) p) ?_
 (simp only [BA,DO,seval])
 refine ID hx [0,1,2,3,4] (Ao (dg (B9 p.at)) .nili) (Fo (w.add p) (.nils)) 5 ?_
 all_goals simp only [Fo,Nw,e,CF,seval]
theorem UO (okA:OkM M) (ok:OkS M) (w:WS) (p:Pr) (n:Nat) :
 Af M 212 [.ptr 0 [],At p] (Fo w (.sl 5 [] 0 n 32)) 6 (Q3 (Ao (dg (B9 p.at)) .nili) (Fo (w.add p) (.sl 5 [] 0 n 32)) 6):=by
 refine Ac ok.k212 rfl fun x hx=>?_
 have e:w.add p={ w.kin (B9 p.at) p with pres:=CG (B9 p.at) p w.pres }:=by rw [WS.add,Yp]
 refine es 2000 ?_;(simp only [Zw,Aiz,Fo,QI,BA,seval])
 have zz:=@At.eq_1;refine CI (CB okA ok.toOkH p.at) ?_
 (simp only [BA,seval])
 have zz:=aq2 @C6 @DO.eq_1;refine Pd [2,3] (Pu ok w (B9 p.at) p) ?_
 (simp only [BA,DO,seval])
 refine ID hx [0,1,2,3,4,5] (Ao (dg (B9 p.at)) .nili) (Fo (w.add p) (.sl 5 [] 0 n 32)) 6 ?_
 all_goals simp only [Fo,Nw,e,CF,seval]
def FK:Nat→WS
 | 0=>⟨[],[],Pr.zero,Pr.zero,false⟩
 | n + 1=>(FK n).add (CM (Am n) (Am n))
def Cp (l:List (Dg × Bool)):V:=Bv V.bool false l
def AF (w:WS) (va:V) (l:List (Dg × Bool)):Hp:=[(0,QI va),(1,Bv At Pr.zero w.pres),(2,DO 3 w.a w.b w.met),(3,Bv At Pr.zero w.ever),(4,Cp l)]
def G0:=(aq5 @List.cons_append.{0} @List.nil_append.{0} @DO.eq_1 @AF.eq_1 @QI.eq_1)
def IK:=(aq2 @G0 @mach.eq_1)
def Gl:=(aq2 @IK @BA)
theorem Bo (H:Hp) (m z:List Nat) (l:List (Dg × Bool)):Aw H m z (Cp l) (Cp l)=True:=eq_true (Gg H m z V.bool (fun _=>rfl) false l)
def Laa:=(aq3 @C6 @Bo @dg.eq_1)
def Ik:=(aq2 @LY @Laa)
theorem BV (l:List (Dg × Bool)):AD (Cp l)=True:=eq_true (OU V.bool (fun _=>trivial) false l)
def GM:=(aq2 @Laa @BV)
theorem AR (m:List Nat) (l:List (Dg × Bool)):(Cp l).ren m=Cp l:=Tm m V.bool (fun _=>rfl) false l
def Sq:=(aq3 @G0 @Gw @AR)
theorem PC (okA:OkM M) (ok:OkS M):Af M 68 [] [] 0 (Q3 (.ptr 0 []) (AF (FK 16) .nils []) 5):=by
 refine Ac ok.k68 rfl fun x hx=>?_
 refine es 2000 ?_;(simp only [f68,c68,BA,seval])
 refine Ag (σ:=Nat) (fun n=>n≤16) (fun n=>fr 27 [(1,.ptr 0 []),(12,.int .i64 n)]) (fun n=>AF (FK n) .nils []) (fun _=>5) (fun n=>16 - n) 0 Aa ?_ ?_
 ·refine Aj.fr [112,16,64,32,80] [] hx Ax Ak ?_ ?_
  ·simp only [LY,seval]
  ·simp only [AF,Nw,FK,Cp,SD,CF,seval]
 ·intro n hn
  refine es 2000 ?_
  by_cases h16:n=16
  ·subst h16
   (simp only [LZ,seval])
   refine ID hx [0,1,2,3,4] (.ptr 0 []) (AF (FK 16) .nils []) 5 ?_
   all_goals simp only [AF,Nw,Bo,CF,seval]
  ·have d0:((n:Int) < 16)=True:=eq_true Aa
   have w0:IntKind.i64.wrap ((n:Int) + 1)=((n + 1:Nat):Int):=A9
   (simp only [d0,AF,LZ,seval])
   refine Ah (Uj okA n Aa) ?_
   (simp only [Cb,seval])
   have zz:=@C6;refine CI (P2 ok (Am n) (Am n)) ?_
   (simp only [BA,seval])
   have zz:=aq3 @C6 @Fo.eq_1 Nw;refine JO [0,1,2,3,4] [0,1,2,3] (Mx okA ok (FK n) (CM (Am n) (Am n))) ?_
   (simp only [Gw,Fo,Nw,Bo,AR,w0,seval])
   refine ⟨n + 1,by omega,by omega,?_⟩
   refine Aj.fr [0,1,2,3,4] [] hx Ax Ak ?_ ?_
   ·simp only [LY,seval]
   ·simp only [AF,Nw,FK,Bo,CF,seval]
def Qh:LC:=(sr [mn 4]
 (.seq (sr [mt 14 0,
  A1 15 (.eq false true .ptr (.t 14) (.c .nilp)),
  mt 16 15,
  A2 17 16 false (.mv (.t 1)),
  A2 18 16 false (.eq false true .ptr (.t 17) (.c .nilp)),
  A1 19 (.pick (.t 16) (.c (.bool true)) (.t 18))]
 (.cond (.t 19) (sr [A1 20 (.mkif 74 (cI 1)),
  mt 4 20]
 (.ret)) (.skip)))
 (.seq (sr [mt 21 0,
  A1 22 (.nilc (.t 21)),
  A1 23 (.fadr 8209 (.t 22)),
  A1 24 (.load false 1 (.t 23))]
 (.cond (.t 24) (sr [mn 4]
 (.ret)) (.skip)))
 (.seq (sr [mt 25 0,
  A1 26 (.nilc (.t 25)),
  A1 27 (.fadr 8208 (.t 26)),
  A1 28 (.load false 1 (.t 27)),
  A1 29 (.ari .geq (.t 28) (cU 8192))]
 (.cond (.t 29) (sr [mt 30 0,
  kl 31 214 [(.t 30),(cU 18446744073709551614)]]
 (sr [mn 4]
 (.ret))) (.skip)))
 (.seq (.regd [⟨0,0,mt 33 0⟩,
  ⟨1,0,mt 34 0⟩,
  ⟨2,2,A1 35 (.nilc (.t 34))⟩,
  ⟨3,6,A1 36 (.fadr 8208 (.t 35))⟩,
  ⟨4,14,A1 37 (.load false 1 (.t 36))⟩,
  ⟨5,1,A1 38 (.nilc (.t 33))⟩,
  ⟨6,33,A1 39 (.fadr 0 (.t 38))⟩,
  ⟨7,127,A1 40 (.iarr 8192 1 (.t 39) (.t 37))⟩,
  ⟨8,255,A1 41 (.load false 1 (.t 40))⟩,
  ⟨9,511,kl 42 79 [(.t 41)]⟩,
  ⟨10,1023,mt 32 42⟩,
  ⟨11,2047,A1 43 (.ext (.t 32) 0)⟩,
  ⟨12,2047,A1 44 (.ext (.t 32) 1)⟩,
  ⟨13,2047,A1 45 (.ext (.t 32) 2)⟩,
  ⟨14,2047,A1 46 (.ext (.t 32) 3)⟩,
  ⟨15,2047,A1 47 (.ext (.t 32) 4)⟩,
  ⟨16,2047,A1 48 (.ext (.t 32) 5)⟩,
  ⟨17,2047,A1 49 (.ext (.t 32) 6)⟩,
  ⟨18,4095,mt 5 43⟩,
  ⟨19,270335,mt 6 44⟩,
  ⟨20,802815,mt 7 45⟩,
  ⟨21,1867775,mt 8 46⟩,
  ⟨22,3997695,mt 9 47⟩,
  ⟨23,8257535,mt 10 48⟩,
  ⟨24,16777215,mt 11 49⟩])
 (.seq (sr [mt 50 11,
  A1 51 (.un .not (.t 50))]
 (.cond (.t 51) (sr [mt 52 0,
  kl 53 214 [(.t 52),(cU 18446744073709551614)]]
 (sr [mn 4]
 (.ret))) (.skip)))
 (sr [mt 54 0,
  A1 55 (.nilc (.t 54)),
  A1 56 (.fadr 8192 (.t 55)),
  mt 12 56]
 (sr [mt 57 12,
  mt 58 7,
  A1 59 (.nilc (.t 57)),
  A1 60 (.iarr 16 1 (.t 59) (.t 58)),
  A1 61 (.load false 1 (.t 60)),
  mt 62 10,
  A1 63 (.conv .u64 (.t 62)),
  A1 64 (.ari .add (.t 61) (.t 63)),
  mt 13 64]
 (.seq (.block 0 (sr [mt 66 5,
  A1 67 (.ari .eql (.t 66) (cI 0)),
  mt 65 67]
 (.cond (.t 65) (sr [mt 68 0,
  mt 69 12,
  mt 70 7,
  A1 71 (.nilc (.t 69)),
  A1 72 (.iarr 16 1 (.t 71) (.t 70)),
  A1 73 (.load false 1 (.t 72)),
  kl 74 214 [(.t 68),(.t 73)]]
 (sr [mn 4]
 (.ret))) (sr [mt 76 5,
  A1 77 (.ari .lss (.t 76) (cI 26)),
  mt 75 77]
 (.cond (.t 75) (.regd [⟨2,0,mt 81 5⟩,
  ⟨3,0,mt 82 12⟩,
  ⟨4,0,mt 83 7⟩,
  ⟨5,2,A1 84 (.nilc (.t 82))⟩,
  ⟨6,14,A1 85 (.iarr 16 1 (.t 84) (.t 83))⟩,
  ⟨7,30,A1 86 (.load false 1 (.t 85))⟩,
  ⟨8,0,mt 87 12⟩,
  ⟨9,0,mt 88 8⟩,
  ⟨10,64,A1 89 (.nilc (.t 87))⟩,
  ⟨11,448,A1 90 (.iarr 16 1 (.t 89) (.t 88))⟩,
  ⟨12,960,A1 91 (.load false 1 (.t 90))⟩,
  ⟨13,0,mt 92 12⟩,
  ⟨14,0,mt 93 9⟩,
  ⟨15,2048,A1 94 (.nilc (.t 92))⟩,
  ⟨16,14336,A1 95 (.iarr 16 1 (.t 94) (.t 93))⟩,
  ⟨17,30720,A1 96 (.load false 1 (.t 95))⟩,
  ⟨18,65535,kl 97 215 [(.t 81),(.t 86),(.t 91),(.t 96)]⟩,
  ⟨0,0,mt 79 12⟩,
  ⟨1,0,mt 80 6⟩,
  ⟨19,131071,mt 78 97⟩,
  ⟨20,655359,A1 98 (.ext (.t 78) 0)⟩,
  ⟨22,131072,A1 100 (.nilc (.t 79))⟩,
  ⟨23,4194303,A1 101 (.iarr 16 1 (.t 100) (.t 80))⟩,
  ⟨24,8388607,A0 (.store 1 (.t 101) (.t 98))⟩,
  ⟨21,655359,A1 99 (.ext (.t 78) 1)⟩]) (sr [mt 103 5,
  A1 104 (.ari .eql (.t 103) (cI 26)),
  mt 102 104]
 (.cond (.t 102) (.reg [mt 105 12,
  mt 106 6,
  mt 107 10,
  A1 108 (.conv .u64 (.t 107)),
  A1 109 (.nilc (.t 105)),
  A1 110 (.iarr 16 1 (.t 109) (.t 106)),
  A0 (.store 1 (.t 110) (.t 108))]) (sr [mt 112 5,
  A1 113 (.ari .eql (.t 112) (cI 27)),
  mt 114 113,
  A2 115 114 false (.mv (.t 5)),
  A2 116 114 false (.ari .eql (.t 115) (cI 28)),
  A1 117 (.pick (.t 114) (.c (.bool true)) (.t 116)),
  mt 111 117]
 (.cond (.t 111) (.seq (sr [mt 118 13,
  A1 119 (.ari .geq (.t 118) (cU 8192))]
 (.cond (.t 119) (sr [mt 120 0,
  kl 121 214 [(.t 120),(cU 18446744073709551614)]]
 (sr [mn 4]
 (.ret))) (.skip)))
 (sr [mt 122 5,
  A1 123 (.ari .eql (.t 122) (cI 27))]
 (.cond (.t 123) (.regd [⟨0,0,mt 124 12⟩,
  ⟨1,0,mt 125 6⟩,
  ⟨2,0,mt 126 0⟩,
  ⟨3,0,mt 127 13⟩,
  ⟨4,4,A1 128 (.nilc (.t 126))⟩,
  ⟨5,20,A1 129 (.fadr 0 (.t 128))⟩,
  ⟨6,60,A1 130 (.iarr 8192 1 (.t 129) (.t 127))⟩,
  ⟨7,124,A1 131 (.load false 1 (.t 130))⟩,
  ⟨8,1,A1 132 (.nilc (.t 124))⟩,
  ⟨9,511,A1 133 (.iarr 16 1 (.t 132) (.t 125))⟩,
  ⟨10,1023,A0 (.store 1 (.t 133) (.t 131))⟩]) (.regd [⟨0,0,mt 134 0⟩,
  ⟨1,0,mt 135 13⟩,
  ⟨2,0,mt 136 12⟩,
  ⟨3,0,mt 137 8⟩,
  ⟨4,4,A1 138 (.nilc (.t 136))⟩,
  ⟨5,28,A1 139 (.iarr 16 1 (.t 138) (.t 137))⟩,
  ⟨6,60,A1 140 (.load false 1 (.t 139))⟩,
  ⟨7,1,A1 141 (.nilc (.t 134))⟩,
  ⟨8,129,A1 142 (.fadr 0 (.t 141))⟩,
  ⟨9,511,A1 143 (.iarr 8192 1 (.t 142) (.t 135))⟩,
  ⟨10,1023,A0 (.store 1 (.t 143) (.t 140))⟩])))) (sr [mt 145 5,
  A1 146 (.ari .lss (.t 145) (cI 34)),
  mt 144 146]
 (.cond (.t 144) (sr [mt 147 0,
  mt 148 5,
  mt 149 6,
  mt 150 7,
  mt 151 10,
  A1 152 (.conv .u64 (.t 151)),
  kl 153 216 [(.t 147),(.t 148),(.t 149),(.t 150),(.t 152)]]
 (sr [mn 4]
 (.ret))) (.seq (.regd [⟨0,0,mt 155 0⟩,
  ⟨1,0,mt 156 1⟩,
  ⟨2,0,mt 157 5⟩,
  ⟨3,0,mt 158 12⟩,
  ⟨4,0,mt 159 7⟩,
  ⟨5,8,A1 160 (.nilc (.t 158))⟩,
  ⟨6,56,A1 161 (.iarr 16 1 (.t 160) (.t 159))⟩,
  ⟨7,120,A1 162 (.load false 1 (.t 161))⟩,
  ⟨8,0,mt 163 12⟩,
  ⟨9,0,mt 164 8⟩,
  ⟨10,256,A1 165 (.nilc (.t 163))⟩,
  ⟨11,1792,A1 166 (.iarr 16 1 (.t 165) (.t 164))⟩,
  ⟨12,3840,A1 167 (.load false 1 (.t 166))⟩,
  ⟨13,8191,kl 168 217 [(.t 155),(.t 156),(.t 157),(.t 162),(.t 167)]⟩,
  ⟨14,16383,A1 169 (.un .not (.t 168))⟩,
  ⟨15,32767,mt 154 169⟩])
 (.cond (.t 154) (sr [mn 4]
 (.ret)) (.skip))))))))))))))
 (sr [mt 170 0,
  A1 171 (.nilc (.t 170)),
  A1 172 (.fadr 8208 (.t 171)),
  A1 173 (.load false 1 (.t 172)),
  A1 174 (.ari .add (.t 173) (cU 1)),
  A1 175 (.nilc (.t 170)),
  A1 176 (.fadr 8208 (.t 175)),
  A0 (.store 1 (.t 176) (.t 174))]
 (sr [mn 4]
 (.ret))))))))))))
def P3:LF:=⟨Qh,2,0,177,[.tmp 4]⟩
def c75:LC:=(sr [A1 2 (.mv (.c .nils))]
 (sr [A1 3 (.mv (.c .nils))]
 (.seq (sr [mt 8 0,
  A1 9 (.len 0 (.t 8)),
  A1 10 (.mv (cI 0))]
 (.block 0 (.loop (sr [A1 11 (.ari .lss (.t 10) (.t 9))]
 (.seq (.cond (.t 11) (.skip) (.exit 0))
 (.seq (.block 1 (sr [mt 12 10,
  A1 13 (.isl 7 (.t 8) (.t 10)),
  A1 14 (.load true 7 (.t 13)),
  A1 5 (.alloc (.st (.cons (.int .i64) (.cons (.int .i64) (.cons (.int .i64) (.cons (.int .i64) (.cons (.int .i64) (.cons (.int .i64) (.cons (.int .u64) .nil))))))))),
  mt 4 12,
  A0 (.store 7 (.t 5) (.t 14))]
 (.seq (sr [mt 15 4,
  A1 16 (.ari .geq (.t 15) (cI 8192))]
 (.cond (.t 16) (.exit 0) (.skip)))
 (sr [A1 18 (.fadr 0 (.t 5)),
  A1 19 (.load false 1 (.t 18)),
  A1 20 (.fadr 1 (.t 5)),
  A1 21 (.load false 1 (.t 20)),
  A1 22 (.conv .u64 (.t 21)),
  A1 23 (.ari .rem (.t 22) (cU 16)),
  A1 24 (.conv .i64 (.t 23)),
  A1 25 (.fadr 2 (.t 5)),
  A1 26 (.load false 1 (.t 25)),
  A1 27 (.conv .u64 (.t 26)),
  A1 28 (.ari .rem (.t 27) (cU 16)),
  A1 29 (.conv .i64 (.t 28)),
  A1 30 (.fadr 3 (.t 5)),
  A1 31 (.load false 1 (.t 30)),
  A1 32 (.conv .u64 (.t 31)),
  A1 33 (.ari .rem (.t 32) (cU 16)),
  A1 34 (.conv .i64 (.t 33)),
  A1 35 (.fadr 4 (.t 5)),
  A1 36 (.load false 1 (.t 35)),
  A1 37 (.conv .u64 (.t 36)),
  A1 38 (.ari .rem (.t 37) (cU 16)),
  A1 39 (.conv .i64 (.t 38)),
  A1 40 (.fadr 5 (.t 5)),
  A1 41 (.load false 1 (.t 40)),
  kl 42 77 [(.t 19),(.t 24),(.t 29),(.t 34),(.t 39),(.t 41)],
  mt 17 42,
  A1 43 (.ext (.t 17) 0),
  A1 44 (.ext (.t 17) 1),
  mt 6 43,
  mt 7 44]
 (.seq (sr [mt 45 7,
  A1 46 (.ari .neq (.t 45) (cI 0))]
 (.cond (.t 46) (.reg [A1 47 (.fadr 6 (.t 5)),
  A1 48 (.load false 1 (.t 47)),
  mt 6 48]) (.skip)))
 (.reg [mt 49 3,
  mt 50 6,
  A1 51 (.bsl 1 1 (.int .u64) [(.i 1 0,1,(.t 50))]),
  A1 52 (.app 1 8 (.t 49) (.t 51)),
  mt 3 52]))))))
 (.reg [A1 53 (.ari .add (.t 10) (cI 1)),
  mt 10 53])))))))
 (sr [mt 54 3,
  mt 2 54]
 (.ret)))))
def f75:LF:=⟨c75,1,0,55,[.tmp 2]⟩
def c77:LC:=(sr [A1 12 (.mv (cU 0)),
 A1 13 (.mv (cI 0))]
 (sr [mt 17 0,
  A1 18 (.conv .u64 (.t 17)),
  mt 14 18]
 (sr [mt 19 1,
  mt 20 2,
  mt 21 3,
  mt 22 4,
  A1 23 (.bsl 1 4 (.int .i64) [(.i 1 0,1,(.t 19)),(.i 1 1,1,(.t 20)),(.i 1 2,1,(.t 21)),(.i 1 3,1,(.t 22))]),
  mt 15 23]
 (.seq (sr [A1 16 (.mv (cI 0))]
 (.block 0 (.loop (.seq (sr [mt 24 16,
  A1 25 (.ari .lss (.t 24) (cI 4))]
 (.cond (.t 25) (.skip) (.exit 0)))
 (.seq (.block 1 (.seq (sr [mt 28 15,
  mt 29 16,
  A1 30 (.isl 1 (.t 28) (.t 29)),
  A1 31 (.load false 1 (.t 30)),
  A1 32 (.ari .lss (.t 31) (cI 0)),
  mt 33 32,
  A2 34 33 false (.mv (.t 15)),
  A2 35 33 false (.mv (.t 16)),
  A2 36 33 false (.isl 1 (.t 34) (.t 35)),
  A2 37 33 false (.load false 1 (.t 36)),
  A2 38 33 false (.ari .gtr (.t 37) (cI 15)),
  A1 39 (.pick (.t 33) (.c (.bool true)) (.t 38))]
 (.cond (.t 39) (sr [A1 12 (.mv (cU 0)),
  A1 13 (.mv (cI 2))]
 (.ret)) (.skip)))
 (.reg [mt 40 14,
  A1 41 (.ari .mul (.t 40) (cU 16)),
  mt 42 15,
  mt 43 16,
  A1 44 (.isl 1 (.t 42) (.t 43)),
  A1 45 (.load false 1 (.t 44)),
  A1 46 (.conv .u64 (.t 45)),
  A1 47 (.ari .add (.t 41) (.t 46)),
  mt 14 47])))
 (.reg [mt 26 16,
  A1 27 (.ari .add (.t 26) (cI 1)),
  mt 16 27]))))))
 (.seq (sr [mt 48 0,
  A1 49 (.ari .lss (.t 48) (cI 0)),
  mt 50 49,
  A2 51 50 false (.mv (.t 0)),
  A2 52 50 false (.ari .gtr (.t 51) (cI 35)),
  A1 53 (.pick (.t 50) (.c (.bool true)) (.t 52)),
  mt 54 53,
  A2 55 54 false (.mv (.t 5)),
  A2 56 54 false (.ari .lss (.t 55) (.c (.int .i64 (-2147483648)))),
  A1 57 (.pick (.t 54) (.c (.bool true)) (.t 56)),
  mt 58 57,
  A2 59 58 false (.mv (.t 5)),
  A2 60 58 false (.ari .geq (.t 59) (cI 2147483648)),
  A1 61 (.pick (.t 58) (.c (.bool true)) (.t 60))]
 (.cond (.t 61) (sr [A1 12 (.mv (cU 0)),
  A1 13 (.mv (cI 2))]
 (.ret)) (.skip)))
 (sr [mt 62 14,
  A1 63 (.ari .mul (.t 62) (cU 1099511627776)),
  mt 64 5,
  A1 65 (.conv .u64 (.t 64)),
  A1 66 (.ari .and (.t 65) (cU 4294967295)),
  A1 67 (.ari .add (.t 63) (.t 66)),
  mt 12 67,
  A1 13 (.mv (cI 0))]
 (.ret)))))))
def f77:LF:=⟨c77,6,0,68,[.tmp 12,.tmp 13]⟩
def c79:LC:=(sr [A1 1 (.box (.t 0)),
 A1 2 (.mv (cI 0)),
 A1 3 (.mv (cI 0)),
 A1 4 (.mv (cI 0)),
 A1 5 (.mv (cI 0)),
 A1 6 (.mv (cI 0)),
 A1 7 (.mv (cI 0)),
 A1 8 (.mv (.c (.bool false)))]
 (sr [A1 10 (.load false 1 (.t 1)),
  A1 11 (.ari .shr (.t 10) (cU 56)),
  A1 12 (.conv .i64 (.t 11)),
  mt 2 12]
 (.seq (sr [mt 13 2,
  A1 14 (.ari .gtr (.t 13) (cI 35)),
  mt 15 14,
  A2 16 15 false (.load false 1 (.t 1)),
  A2 17 15 false (.ari .shr (.t 16) (cU 32)),
  A2 18 15 false (.ari .and (.t 17) (cU 255)),
  A2 19 15 false (.ari .neq (.t 18) (cU 0)),
  A1 20 (.pick (.t 15) (.c (.bool true)) (.t 19))]
 (.cond (.t 20) (sr [A1 2 (.mv (cI 0)),
  A1 3 (.mv (cI 0)),
  A1 4 (.mv (cI 0)),
  A1 5 (.mv (cI 0)),
  A1 6 (.mv (cI 0)),
  A1 7 (.mv (cI 0)),
  A1 8 (.mv (.c (.bool false)))]
 (.ret)) (.skip)))
 (sr [A1 21 (.mkfn 220 [(.t 1)]),
  mt 9 21]
 (.seq (.regd [⟨1,0,mt 23 9⟩,
  ⟨2,1,⟨(some 24),.dyn (.t 23) [(cI 52)],none⟩⟩,
  ⟨3,0,mt 25 9⟩,
  ⟨4,7,⟨(some 26),.dyn (.t 25) [(cI 48)],none⟩⟩,
  ⟨5,0,mt 27 9⟩,
  ⟨6,31,⟨(some 28),.dyn (.t 27) [(cI 44)],none⟩⟩,
  ⟨7,0,mt 29 9⟩,
  ⟨8,127,⟨(some 30),.dyn (.t 29) [(cI 40)],none⟩⟩,
  ⟨0,0,mt 22 2⟩,
  ⟨9,0,A1 31 (.load false 1 (.t 1))⟩,
  ⟨10,512,A1 32 (.conv .i32 (.t 31))⟩,
  ⟨11,1536,A1 33 (.conv .i64 (.t 32))⟩,
  ⟨12,511,mt 2 22⟩,
  ⟨13,4607,mt 3 24⟩,
  ⟨14,12799,mt 4 26⟩,
  ⟨15,29183,mt 5 28⟩,
  ⟨16,61951,mt 6 30⟩,
  ⟨17,131071,mt 7 33⟩,
  ⟨18,262143,A1 8 (.mv (.c (.bool true)))⟩])
 (.ret))))))
def f79:LF:=⟨c79,1,0,34,[.tmp 2,.tmp 3,.tmp 4,.tmp 5,.tmp 6,.tmp 7,.tmp 8]⟩
def Aj9:LC:=.reg [mt 4 0,
 mt 5 0,
 mt 6 1,
 A1 7 (.nilc (.t 4)),
 A1 8 (.fadr 8209 (.t 7)),
 A0 (.store 1 (.t 8) (.c (.bool true))),
 A1 9 (.nilc (.t 5)),
 A1 10 (.fadr 8210 (.t 9)),
 A0 (.store 1 (.t 10) (.t 6))]
def Afa:LF:=⟨Aj9,2,0,11,[]⟩
def Amt:LC:=(sr [mt 11 0,
 A1 12 (.nilc (.t 11)),
 A1 13 (.fadr 8192 (.t 12)),
 mt 10 13]
 (.seq (sr [mt 14 1]
 (.block 0 (.seq (sr [A1 16 (.ari .eql (.t 14) (cI 30)),
  mt 15 16]
 (.cond (.t 15) (.skip) (.reg [A1 17 (.ari .eql (.t 14) (cI 31)),
  mt 15 17])))
 (.cond (.t 15) (sr [mt 18 10,
  mt 19 3,
  A1 20 (.nilc (.t 18)),
  A1 21 (.iarr 16 1 (.t 20) (.t 19)),
  A1 22 (.load false 1 (.t 21)),
  A1 23 (.ari .eql (.t 22) (cU 0)),
  mt 24 1,
  A1 25 (.ari .eql (.t 24) (cI 30)),
  A1 26 (.eq true false .bool (.t 23) (.t 25))]
 (.cond (.t 26) (sr [mt 27 0,
  A1 28 (.nilc (.t 27)),
  A1 29 (.fadr 8208 (.t 28)),
  A1 30 (.load false 1 (.t 29)),
  A1 31 (.ari .add (.t 30) (cU 1)),
  A1 32 (.nilc (.t 27)),
  A1 33 (.fadr 8208 (.t 32)),
  A0 (.store 1 (.t 33) (.t 31))]
 (.ret)) (.skip))) (sr [A1 35 (.ari .eql (.t 14) (cI 33)),
  mt 34 35]
 (.cond (.t 34) (.reg [mt 36 10,
  mt 37 3,
  A1 38 (.nilc (.t 36)),
  A1 39 (.iarr 16 1 (.t 38) (.t 37)),
  A1 40 (.load false 1 (.t 39)),
  mt 4 40]) (.skip)))))))
 (.seq (sr [mt 41 4,
  A1 42 (.ari .geq (.t 41) (cU 8192))]
 (.cond (.t 42) (sr [mt 43 0,
  kl 44 214 [(.t 43),(cU 18446744073709551614)]]
 (.ret)) (.skip)))
 (.seq (sr [mt 45 1,
  A1 46 (.ari .eql (.t 45) (cI 32))]
 (.cond (.t 46) (.regd [⟨0,0,mt 47 10⟩,
  ⟨1,0,mt 48 2⟩,
  ⟨2,0,mt 49 0⟩,
  ⟨3,4,A1 50 (.nilc (.t 49))⟩,
  ⟨4,12,A1 51 (.fadr 8208 (.t 50))⟩,
  ⟨5,28,A1 52 (.load false 1 (.t 51))⟩,
  ⟨6,60,A1 53 (.ari .add (.t 52) (cU 1))⟩,
  ⟨7,1,A1 54 (.nilc (.t 47))⟩,
  ⟨8,255,A1 55 (.iarr 16 1 (.t 54) (.t 48))⟩,
  ⟨9,511,A0 (.store 1 (.t 55) (.t 53))⟩]) (.skip)))
 (.reg [mt 56 0,
  mt 57 4,
  A1 58 (.nilc (.t 56)),
  A1 59 (.fadr 8208 (.t 58)),
  A0 (.store 1 (.t 59) (.t 57))])))))
def Afy:LF:=⟨Amt,5,0,60,[]⟩
def Nc:LC:=(sr [A1 10 (.mv (.c (.bool false)))]
 (sr [A1 11 (.mv (cU 8)),
  A1 12 (.mv (cU 4))]
 (.seq (sr [mt 22 2,
  A1 23 (.ari .eql (.t 22) (cI 35))]
 (.cond (.t 23) (.reg [A1 11 (.mv (cU 4)),
  A1 12 (.mv (cU 8))]) (.skip)))
 (.seq (sr [mt 24 3,
  mt 25 11,
  kl 26 326 [(.t 24),(.t 25)],
  A1 27 (.un .not (.t 26)),
  mt 28 27,
  A2 29 28 false (.mv (.t 4)),
  A2 30 28 false (.mv (.t 12)),
  ⟨(some 31),.call 326 [(.t 29),(.t 30)],(some (28,false))⟩,
  A2 32 28 false (.un .not (.t 31)),
  A1 33 (.pick (.t 28) (.c (.bool true)) (.t 32))]
 (.cond (.t 33) (sr [mt 34 0,
  kl 35 214 [(.t 34),(cU 18446744073709551614)]]
 (sr [A1 10 (.mv (.c (.bool false)))]
 (.ret))) (.skip)))
 (sr [A1 13 (.mv (.c .nils))]
 (.seq (sr [mt 36 0,
  A1 37 (.nilc (.t 36)),
  A1 38 (.fadr 0 (.t 37)),
  mt 39 3,
  mt 40 3,
  mt 41 11,
  A1 42 (.ari .add (.t 40) (.t 41)),
  A1 43 (.slarr 8192 1 (.t 38) (some (.t 39)) (some (.t 42))),
  A1 44 (.len 0 (.t 43)),
  A1 45 (.mv (cI 0))]
 (.block 0 (.loop (sr [A1 46 (.ari .lss (.t 45) (.t 44))]
 (.seq (.cond (.t 46) (.skip) (.exit 0))
 (.seq (.block 1 (sr [A1 47 (.isl 1 (.t 43) (.t 45)),
  A1 48 (.load false 1 (.t 47)),
  mt 15 48]
 (.reg [mt 49 13,
  mt 50 15,
  kl 51 327 [(.t 49),(.t 50)],
  mt 13 51])))
 (.reg [A1 52 (.ari .add (.t 45) (cI 1)),
  mt 45 52])))))))
 (sr [A1 16 (.mv (.c .nils))]
 (.seq (sr [mt 53 2,
  A1 54 (.ari .eql (.t 53) (cI 34))]
 (.cond (.t 54) (sr [mt 56 1,
  mt 57 13,
  A1 58 (.s2a 64 1 (.t 57)),
  A1 59 (.load true 64 (.t 58)),
  kl 60 212 [(.t 56),(.t 59)],
  mt 55 60,
  A1 61 (.ext (.t 55) 0),
  A1 62 (.ext (.t 55) 1),
  A1 17 (.alloc (.ar 32 (.int .u8))),
  A0 (.store 32 (.t 17) (.t 61)),
  mt 18 62]
 (.reg [A1 63 (.slarr 32 1 (.t 17) none none),
  mt 16 63])) (sr [mt 65 1,
  mt 66 13,
  A1 67 (.s2a 32 1 (.t 66)),
  A1 68 (.load true 32 (.t 67)),
  kl 69 328 [(.t 65),(.t 68)],
  mt 64 69,
  A1 70 (.ext (.t 64) 0),
  A1 71 (.ext (.t 64) 1),
  A1 19 (.alloc (.ar 64 (.int .u8))),
  A0 (.store 64 (.t 19) (.t 70)),
  mt 20 71]
 (.seq (sr [mt 72 20,
  A1 73 (.eq true true (.iface [74]) (.t 72) (.c .nili))]
 (.cond (.t 73) (sr [mt 74 0,
  kl 75 214 [(.t 74),(cU 18446744073709551615)]]
 (sr [A1 10 (.mv (.c (.bool false)))]
 (.ret))) (.skip)))
 (.reg [A1 76 (.slarr 64 1 (.t 19) none none),
  mt 16 76])))))
 (.seq (sr [mt 77 12,
  A1 78 (.mv (cU 0))]
 (.block 2 (.loop (sr [A1 79 (.ari .lss (.t 78) (.t 77))]
 (.seq (.cond (.t 79) (.skip) (.exit 2))
 (.seq (.block 3 (sr [mt 80 78,
  mt 21 80]
 (.regd [⟨4,0,mt 85 16⟩,
  ⟨5,0,mt 86 21⟩,
  ⟨6,2,A1 87 (.ari .mul (cU 8) (.t 86))⟩,
  ⟨7,7,A1 88 (.slsl 1 (.t 85) (some (.t 87)) none)⟩,
  ⟨8,15,kl 89 308 [(.t 88)]⟩,
  ⟨0,0,mt 81 0⟩,
  ⟨1,0,mt 82 4⟩,
  ⟨2,0,mt 83 21⟩,
  ⟨3,192,A1 84 (.ari .add (.t 82) (.t 83))⟩,
  ⟨9,32,A1 90 (.nilc (.t 81))⟩,
  ⟨10,544,A1 91 (.fadr 0 (.t 90))⟩,
  ⟨11,2047,A1 92 (.iarr 8192 1 (.t 91) (.t 84))⟩,
  ⟨12,4095,A0 (.store 1 (.t 92) (.t 89))⟩])))
 (.reg [A1 93 (.ari .add (.t 78) (cU 1)),
  mt 78 93])))))))
 (sr [A1 10 (.mv (.c (.bool true)))]
 (.ret)))))))))))
def Li:LF:=⟨Nc,5,0,94,[.tmp 10]⟩
def Ak2:LC:=(sr [A1 3 (.mv (cI 0))]
 (sr [A1 4 (.load false 1 (.t 1)),
  mt 5 0,
  A1 6 (.ari .shr (.t 4) (.t 5)),
  A1 7 (.ari .and (.t 6) (cU 15)),
  A1 8 (.conv .i64 (.t 7)),
  mt 3 8]
 (.ret)))
def Ag2:LF:=⟨Ak2,1,1,9,[.tmp 3]⟩
def Ajw:LC:=(sr [A1 4 (.mv (.c (.bool false)))]
 (sr [mt 5 0,
  A1 6 (.ari .leq (.t 5) (cU 8192)),
  mt 7 6,
  A2 8 7 true (.mv (.t 1)),
  A2 9 7 true (.mv (.t 0)),
  A2 10 7 true (.ari .sub (cU 8192) (.t 9)),
  A2 11 7 true (.ari .leq (.t 8) (.t 10)),
  A1 12 (.pick (.t 7) (.t 11) (.c (.bool false))),
  mt 4 12]
 (.ret)))
def Ad2:LF:=⟨Ajw,2,0,13,[.tmp 4]⟩
def Ab4:LC:=(sr [A1 8 (.mv (cU 0)),
 mn 9]
 (.seq (sr [mt 10 0]
 (.block 0 (.seq (.block 17 (.seq (.block 16 (.seq (.block 15 (.seq (.block 14 (.seq (.block 13 (.seq (.block 12 (.seq (.block 11 (.seq (.block 10 (.seq (.block 9 (.seq (.block 8 (.seq (.block 7 (.seq (.block 6 (.seq (.block 5 (.seq (.block 4 (.seq (.block 3 (.seq (.block 2 (.seq (.block 1 (.seq (.seq (sr [A1 12 (.ari .eql (.t 10) (cI 1)),
  mt 11 12]
 (.cond (.t 11) (.exit 1) (.skip)))
 (.seq (sr [A1 14 (.ari .eql (.t 10) (cI 2)),
  mt 13 14]
 (.cond (.t 13) (.exit 2) (.skip)))
 (.seq (sr [A1 16 (.ari .eql (.t 10) (cI 3)),
  mt 15 16]
 (.cond (.t 15) (.exit 3) (.skip)))
 (.seq (.seq (sr [A1 18 (.ari .eql (.t 10) (cI 4)),
  mt 17 18]
 (.cond (.t 17) (.skip) (sr [A1 19 (.ari .eql (.t 10) (cI 5)),
  mt 17 19]
 (.cond (.t 17) (.skip) (sr [A1 20 (.ari .eql (.t 10) (cI 6)),
  mt 17 20]
 (.cond (.t 17) (.skip) (.reg [A1 21 (.ari .eql (.t 10) (cI 7)),
  mt 17 21])))))))
 (.cond (.t 17) (.exit 4) (.skip)))
 (.seq (.seq (sr [A1 23 (.ari .eql (.t 10) (cI 8)),
  mt 22 23]
 (.cond (.t 22) (.skip) (.reg [A1 24 (.ari .eql (.t 10) (cI 9)),
  mt 22 24])))
 (.cond (.t 22) (.exit 5) (.skip)))
 (.seq (sr [A1 26 (.ari .eql (.t 10) (cI 10)),
  mt 25 26]
 (.cond (.t 25) (.exit 6) (.skip)))
 (.seq (.seq (sr [A1 28 (.ari .eql (.t 10) (cI 11)),
  mt 27 28]
 (.cond (.t 27) (.skip) (sr [A1 29 (.ari .eql (.t 10) (cI 12)),
  mt 27 29]
 (.cond (.t 27) (.skip) (sr [A1 30 (.ari .eql (.t 10) (cI 13)),
  mt 27 30]
 (.cond (.t 27) (.skip) (sr [A1 31 (.ari .eql (.t 10) (cI 14)),
  mt 27 31]
 (.cond (.t 27) (.skip) (.reg [A1 32 (.ari .eql (.t 10) (cI 15)),
  mt 27 32])))))))))
 (.cond (.t 27) (.exit 7) (.skip)))
 (.seq (sr [A1 34 (.ari .eql (.t 10) (cI 17)),
  mt 33 34]
 (.cond (.t 33) (.exit 8) (.skip)))
 (.seq (sr [A1 36 (.ari .eql (.t 10) (cI 16)),
  mt 35 36]
 (.cond (.t 35) (.exit 9) (.skip)))
 (.seq (sr [A1 38 (.ari .eql (.t 10) (cI 19)),
  mt 37 38]
 (.cond (.t 37) (.exit 10) (.skip)))
 (.seq (sr [A1 40 (.ari .eql (.t 10) (cI 18)),
  mt 39 40]
 (.cond (.t 39) (.exit 11) (.skip)))
 (.seq (sr [A1 42 (.ari .eql (.t 10) (cI 21)),
  mt 41 42]
 (.cond (.t 41) (.exit 12) (.skip)))
 (.seq (sr [A1 44 (.ari .eql (.t 10) (cI 20)),
  mt 43 44]
 (.cond (.t 43) (.exit 13) (.skip)))
 (.seq (sr [A1 46 (.ari .eql (.t 10) (cI 22)),
  mt 45 46]
 (.cond (.t 45) (.exit 14) (.skip)))
 (.seq (sr [A1 48 (.ari .eql (.t 10) (cI 23)),
  mt 47 48]
 (.cond (.t 47) (.exit 15) (.skip)))
 (.seq (sr [A1 50 (.ari .eql (.t 10) (cI 25)),
  mt 49 50]
 (.cond (.t 49) (.exit 16) (.skip)))
 (sr [A1 52 (.ari .eql (.t 10) (cI 24)),
  mt 51 52]
 (.cond (.t 51) (.exit 17) (.skip)))))))))))))))))))
 (.exit 0)))
 (.seq (sr [mt 53 1,
  mt 54 2,
  A1 55 (.ari .add (.t 53) (.t 54)),
  mt 8 55,
  mn 9]
 (.ret))
 (.exit 0))))
 (.seq (sr [mt 56 1,
  mt 57 2,
  A1 58 (.ari .sub (.t 56) (.t 57)),
  mt 8 58,
  mn 9]
 (.ret))
 (.exit 0))))
 (.seq (sr [mt 59 1,
  mt 60 2,
  A1 61 (.ari .mul (.t 59) (.t 60)),
  mt 8 61,
  mn 9]
 (.ret))
 (.exit 0))))
 (.seq (sr [mt 62 0,
  mt 63 1,
  mt 64 2,
  kl 65 321 [(.t 62),(.t 63),(.t 64)],
  mt 8 65,
  mn 9]
 (.ret))
 (.exit 0))))
 (.seq (sr [mt 66 0,
  mt 67 1,
  mt 68 2,
  mt 69 3,
  kl 70 322 [(.t 66),(.t 67),(.t 68),(.t 69)],
  mt 8 70,
  mn 9]
 (.ret))
 (.exit 0))))
 (.seq (sr [mt 71 1,
  mt 72 2,
  kl 73 323 [(.t 71),(.t 72)],
  mt 8 73,
  mn 9]
 (.ret))
 (.exit 0))))
 (.seq (sr [mt 74 0,
  mt 75 1,
  mt 76 2,
  kl 77 324 [(.t 74),(.t 75),(.t 76)],
  mt 8 77,
  mn 9]
 (.ret))
 (.exit 0))))
 (.reg [mt 78 2,
  mt 79 1,
  mt 1 78,
  mt 2 79])))
 (.seq (sr [mt 80 1,
  mt 81 2,
  A1 82 (.ari .lss (.t 80) (.t 81)),
  kl 83 325 [(.t 82)],
  mt 8 83,
  mn 9]
 (.ret))
 (.exit 0))))
 (.reg [mt 84 2,
  mt 85 1,
  mt 1 84,
  mt 2 85])))
 (.seq (sr [mt 86 1,
  A1 87 (.conv .i64 (.t 86)),
  mt 88 2,
  A1 89 (.conv .i64 (.t 88)),
  A1 90 (.ari .lss (.t 87) (.t 89)),
  kl 91 325 [(.t 90)],
  mt 8 91,
  mn 9]
 (.ret))
 (.exit 0))))
 (.reg [A1 2 (.mv (cU 0))])))
 (.seq (sr [mt 92 1,
  mt 93 2,
  A1 94 (.ari .eql (.t 92) (.t 93)),
  kl 95 325 [(.t 94)],
  mt 8 95,
  mn 9]
 (.ret))
 (.exit 0))))
 (.seq (sr [mt 96 1,
  mt 97 2,
  A1 98 (.ari .and (.t 96) (.t 97)),
  mt 8 98,
  mn 9]
 (.ret))
 (.exit 0))))
 (.seq (sr [mt 99 1,
  mt 100 2,
  A1 101 (.ari .or (.t 99) (.t 100)),
  mt 8 101,
  mn 9]
 (.ret))
 (.exit 0))))
 (.reg [A1 2 (.mv (cU 18446744073709551615))])))
 (.seq (sr [mt 102 1,
  mt 103 2,
  A1 104 (.ari .xor (.t 102) (.t 103)),
  mt 8 104,
  mn 9]
 (.ret))
 (.exit 0)))))
 (sr [A1 105 (.mkif 74 (cI 10)),
  A1 8 (.mv (cU 0)),
  mt 9 105]
 (.ret))))
def Ua:LF:=⟨Ab4,4,0,106,[.tmp 8,.tmp 9]⟩
end Mv
