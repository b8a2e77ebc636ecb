/- A part. -/
import Derived.Test.YtfljfijnobocoaaDoorDH
set_option linter.all false
set_option maxRecDepth 20000
set_option maxHeartbeats 4000000
namespace Mv
open Go
structure RgP (P:List Fu) (c:Nat→Nat):Prop where
 ne:P ≠ []
 len:P.length≤64
 par:∀ i,i < P.length→0≤Ak0 P i∧Ak0 P i≤Akl P i∧Akl P i≤24
 par0:Ak0 P 0=0
 body:∀ i (h:i < P.length),RB P i 16 (P[i]).body (c i)
 sum:((List.range P.length).map c).sum≤6000
theorem Alm {M:Seat} (ok:OkCk M) (P:List Fu) (c:Nat→Nat) (h:RgP P c):Ag M 179 [fuL P] [] 0 (Q3 .nili [] 0):=by
 refine Ab ok.k179 rfl fun x hx=>?_
 have hne:=h.ne
 have hl64:=h.len
 have hl0:0 < P.length:=List.length_pos_iff.2 hne
 have hs6:=h.sum
 have hsl:∀ H m z,Az H m z (.lst 3 P.length (I1 P)) (.lst 3 P.length (I1 P)):=fun H m z=>by rw [← I3 P hne];exact Akp H m z P
 have hrl:∀ a,(V.lst 3 P.length (I1 P)).ren a = .lst 3 P.length (I1 P):=fun a=>by rw [← I3 P hne];exact Hd a P
 have hck:∀ sz i,ckV P sz i = .st 5 (.fcons 0 (.int .i64 sz) (.fcons 1 (.bool false) (.fcons 2 (.bool false) (.fcons 3 (.lst 3 P.length (I1 P)) (.fcons 4 (.int .i64 i) .fnil))))):=fun sz i=>by rw [ckV,I3 P hne]
 rw [I3 P hne]
 refine es 2000 ?_;(simp only [Anl,Aoj,LZ,seval])
 refine An (σ:=Nat) (fun j=>j≤P.length) (fun j=>fr 87 [(0,.lst 3 P.length (I1 P)),(3,.ptr 0 []),(9,.lst 3 P.length (I1 P)),(10,.int .i64 P.length),(11,.int .i64 j)]) (fun j=>[(0,ckV P ((List.range j).map c).sum (j - 1))]) (fun _=>1) (fun j=>P.length - j) 0 (Nat.zero_le _) ?_ ?_
 ·refine Ao.fr [48] [] hx AQ Am ?_ ?_
  ·simp only [LY,seval,hsl]
  ·simp only [hck,LY,seval,hsl,List.range_zero,List.map_nil,List.sum_nil,Nat.add_zero]
 intro j hj
 refine es 2000 ?_
 simp only [hck]
 by_cases hin:j=P.length
 ·have d0:((j:Int) < (P.length:Int))=False:=eq_false Aa
  subst hin
  have e1:((6000:Int) < ((((List.range P.length).map c).sum:Nat):Int))=False:=eq_false Aa
  have e2:((64:Int) < (P.length:Int))=False:=eq_false Aa
  have e3:((P.length:Int)=0)=False:=eq_false Aa
  (simp only [d0,e1,e2,e3,LZ,seval])
  exact Ar.mkZ hx [] ⟨rfl,rfl,rfl⟩
 have d0:((j:Int) < (P.length:Int))=True:=eq_true Aa
 have hlt:j < P.length:=Aa
 have hf:=Akr hlt
 have hb:=h.body j hlt
 have hpr:=h.par j hlt
 have hsm:((List.range j).map c).sum + c j≤6000:=by
  have h1:=Aki c (j + 1) (P.length - (j + 1))
  rw [show j + 1 + (P.length - (j + 1))=P.length by omega,I5] at h1
  omega
 have hB:=Amr ok P j hlt Aa 16 _ _ hb Aa ((List.range j).map c).sum Aa
 have w2:IntKind.i64.wrap ((j:Int) + 1)=((j + 1:Nat):Int):=AZ
 have f1:(Ak0 P j < 0)=False:=eq_false Aa
 have f2:(Akl P j < Ak0 P j)=False:=eq_false Aa
 have f3:((24:Int) < Akl P j)=False:=eq_false Aa
 have f4:((j:Int)=0)=True→(Ak0 P j=0)=True:=fun h0=>by
  have:j=0:=by have:=of_eq_true h0;omega
  subst this
  exact eq_true h.par0
 simp only [hck] at hB
 by_cases hj0:j=0
 ·have g1:((j:Int)=0)=True:=eq_true Aa
  (simp only [d0,hf,f1,f2,f3,g1,f4 g1,E0,Ck,EA,LZ,seval])
  repeat refine sd ?_
  have zz:=Bb hsl @Akt;refine Bw [0] [0] (hB) ?_
  (simp only [hrl,w2,LZ,seval])
  refine ⟨j + 1,by omega,by omega,?_⟩
  rw [I5,Nat.add_sub_cancel]
  refine Ao.fr [0] [] hx AQ Am ?_ ?_
  ·simp only [LY,seval,hsl]
  ·simp only [hck,LY,seval,hsl]
 ·have g1:((j:Int)=0)=False:=eq_false Aa
  (simp only [d0,hf,f1,f2,f3,g1,E0,Ck,EA,LZ,seval])
  repeat refine sd ?_
  have zz:=Bb hsl @Akt;refine Bw [0] [0] (hB) ?_
  (simp only [hrl,w2,LZ,seval])
  refine ⟨j + 1,by omega,by omega,?_⟩
  rw [I5,Nat.add_sub_cancel]
  refine Ao.fr [0] [] hx AQ Am ?_ ?_
  ·simp only [LY,seval,hsl]
  ·simp only [hck,LY,seval,hsl]
def Aie:LC:=(sr [aB 2 32] (sr [kl 6 418 [],mt 3 6] (sr [mt 7 3,mt 8 0,kl 9 419 [(.t 7),(.t 8)]] (sr [mt 11 3,kl 12 420 [(.t 11)],mt 10 12,ee 13 10 0,ee 14 10 1,
  aB 4 32,sb 32 4 13,mt 5 14] (sr [la 15 32 4,sb 32 2 15] .ret)))))
def Agn:LF:=⟨Aie,1,0,16,[.cell 2 true 32]⟩
def Aih:LC:=(sr [A1 0 (.mv (.c .nilp))] (sr [A1 1 (.build (.st (.cons (.ar 25 (.int .u64)) (.cons .slice .nil))) []),
  bX 2 1,mt 0 2] .ret))
def Ah6:LF:=⟨Aih,0,0,3,[.tmp 0]⟩
def Afd:LC:=(sr [mn 4] (.seq (sr [mt 5 0,A1 6 (.eq false true .ptr (.t 5) (.c .nilp))] (.cond (.t 6) (sr [A1 7 (.mkif 74 (cI 1)),mt 4 7] .ret) .skip)) (sr [mt 8 0,mt 9 0,nc 10 9,fa 11 25 10,lb 12 1 11,mt 13 1,
  aP 14 1 1 12 13,nc 15 8,fa 16 25 15,sb 1 16 14] (.seq (.block 0 (.loop (.seq (sr [mt 17 0,nc 18 17,fa 19 25 18,lb 20 1 19,
  lN 21 0 20,aI 22 .geq 21 136]
 (Dd 22 0)) (.block 1 (.seq (.regd [⟨1,0,mt 24 0⟩,⟨2,1,nc 25 24⟩,⟨3,3,fa 26 0 25⟩,⟨4,7,la 27 25 26⟩,⟨5,0,mt 28 0⟩,⟨6,16,nc 29 28⟩,⟨7,48,fa 30 25 29⟩,⟨8,112,lb 31 1 30⟩,⟨9,240,A1 32 (.slsl 1 (.t 31) none (some (cI 136)))⟩,⟨10,511,kl 33 318 [(.t 27),(.t 32)]⟩,⟨0,0,mt 23 0⟩,⟨11,2047,nc 34 23⟩,⟨12,4095,fa 35 0 34⟩,⟨13,8191,sb 25 35 33⟩]) (.reg [mt 36 0,mt 37 0,nc 38 37,fa 39 25 38,lb 40 1 39,A1 41 (.slsl 1 (.t 40) (some (cI 136)) none),kl 42 277 [(.t 41)],nc 43 36,fa 44 25 43,sb 1 44 42])))))) (sr [mn 4] .ret)))))
def Air:LF:=⟨Afd,2,0,45,[.tmp 4]⟩
def Ahn:LC:=(sr [aB 2 32,mn 3] (.seq (sr [mt 5 0,A1 6 (.eq false true .ptr (.t 5) (.c .nilp))] (.cond (.t 6) (sr [A1 7 (.build (.ar 32 (.int .u8)) []),A1 8 (.mkif 74 (cI 1)),sb 32 2 7,mt 3 8] .ret) .skip)) (sr [A1 9 (.mksl 1 1 (.int .u8) (cI 136) (cI 136)),mt 4 9] (sr [mt 10 4,mt 11 0,nc 12 11,fa 13 25 12,lb 14 1 13,A1 15 (.copy 1 (.t 10) (.t 14))] (sr [mt 16 4,mt 17 0,nc 18 17,fa 19 25 18,lb 20 1 19,
  lN 21 0 20,ia 22 1 16 21,lb 23 1 22,A1 24 (.ari .xor (.t 23) (.c (.int .u8 1))),ia 25 1 16 21,sb 1 25 24] (sr [mt 26 4,
  iJ 27 1 26 135,lb 28 1 27,A1 29 (.ari .xor (.t 28) (.c (.int .u8 128))),
  iJ 30 1 26 135,sb 1 30 29] (sr [mt 31 0,nc 32 31,fa 33 0 32,la 34 25 33,mt 35 4,kl 36 318 [(.t 34),(.t 35)],kl 37 317 [(.t 36)],sb 32 2 37,mn 3] .ret)))))))
def Agp:LF:=⟨Ahn,1,0,38,[.cell 2 true 32,.tmp 3]⟩
def c68:LC:=(sr [A1 0 (.mv (.c .nilp))] (sr [A1 5 (.mkmap (.ar 32 (.int .u8)) (.ar 64 (.int .u8))),A1 6 (.mkmap (.ar 32 (.int .u8)) (.ar 64 (.int .u8))),A1 7 (.build (.st (.cons .map (.cons (.ar 64 (.int .u8)) (.cons (.ar 64 (.int .u8)) (.cons .bool .nil))))) [(.f 0,1,(.t 6))]),
  bX 8 7,A1 9 (.mkmap (.ar 32 (.int .u8)) .bool),A1 10 (.build (.st (.cons .map (.cons .ptr (.cons .map (.cons .slice .nil))))) [(.f 0,1,(.t 5)),(.f 1,1,(.t 8)),(.f 2,1,(.t 9))]),
  bX 11 10,mt 1 11] (.seq (sr [mI 12 0] (.block 0 (.loop (sr [aI 13 .lss 12 16] (.seq (Dd 13 0) (.seq (.block 1 (sr [mt 14 12,mt 2 14] (sr [mt 16 2,kl 17 197 [(.t 16)],mt 15 17,ee 18 15 0,ee 19 15 1,
  aB 3 32,sb 32 3 18,mt 4 19] (.reg [mt 20 1,la 21 32 3,la 22 32 3,kl 23 213 [(.t 21),(.t 22)],kl 24 212 [(.t 20),(.t 23)]])))) (.reg [aI 25 .add 12 1,mt 12 25]))))))) (sr [mt 26 1,mt 0 26] .ret))))
def f68:LF:=⟨c68,0,0,27,[.tmp 0]⟩
def Af6:LC:=(sr [bX 3 1,
 aB 4 32,mn 5] (.seq (sr [mt 7 0,A1 8 (.eq false true .ptr (.t 7) (.c .nilp))] (.cond (.t 8) (sr [A1 9 (.build (.ar 32 (.int .u8)) []),A1 10 (.mkif 74 (cI 1)),sb 32 4 9,mt 5 10] .ret) .skip)) (sr [A1 11 (.slarr 64 1 (.t 3) none none),kl 12 319 [(.t 11)],
  aB 6 32,sb 32 6 12] (.seq (.regd [⟨0,0,mt 13 0⟩,⟨1,1,nc 14 13⟩,⟨2,3,fa 15 0 14⟩,⟨3,7,lb 16 1 15⟩,⟨4,0,la 17 32 6⟩,⟨5,0,la 18 64 3⟩,⟨6,63,A0 (.mupd (.ar 32 1 false .int) (.t 16) (.t 17) (.t 18))⟩]) (.seq (.regd [⟨0,0,mt 19 0⟩,⟨1,1,nc 20 19⟩,⟨2,3,fa 21 1 20⟩,⟨3,7,lb 22 1 21⟩,⟨4,0,la 23 32 6⟩,⟨5,0,la 24 64 3⟩,⟨6,63,kl 25 320 [(.t 22),(.t 23),(.t 24)]⟩]) (sr [la 26 32 6,sb 32 4 26,mn 5] .ret))))))
def Aet:LF:=⟨Af6,2,0,27,[.cell 4 true 32,.tmp 5]⟩
def Aeo:LC:=(sr [bX 2 0,
 bX 3 1,
 aB 4 64] (sr [aB 5 64] (.seq (.regd [⟨0,0,A1 6 (.slarr 64 1 (.t 5) none (some (cI 32)))⟩,⟨1,0,A1 7 (.slarr 32 1 (.t 2) none none)⟩,⟨2,3,A1 8 (.copy 1 (.t 6) (.t 7))⟩]) (.seq (.regd [⟨0,0,A1 9 (.slarr 64 1 (.t 5) (some (cI 32)) none)⟩,⟨1,0,A1 10 (.slarr 32 1 (.t 3) none none)⟩,⟨2,3,A1 11 (.copy 1 (.t 9) (.t 10))⟩]) (sr [la 12 64 5,sb 64 4 12] .ret)))))
def An0:LF:=⟨Aeo,2,0,13,[.cell 4 true 64]⟩
def Uf:LC:=(sr [bX 4 1,
 bX 5 2] (.seq (.regd [⟨0,0,mt 9 0⟩,⟨1,1,nc 10 9⟩,⟨2,3,fa 11 0 10⟩,⟨3,7,lb 12 1 11⟩,⟨4,0,la 13 32 4⟩,⟨5,31,A1 14 (.mlook (.ar 32 1 false .int) (.ar 64 (.int .u8)) true (.t 12) (.t 13))⟩,⟨6,63,mt 8 14⟩,⟨7,127,ee 15 8 0⟩,⟨9,0,aB 6 64⟩,⟨10,511,sb 64 6 15⟩,⟨8,127,ee 16 8 1⟩,⟨11,2047,mt 7 16⟩]) (sr [mt 17 7,A1 18 (.un .not (.t 17))] (.cond (.t 18) (.regd [⟨0,0,mt 19 0⟩,⟨1,1,nc 20 19⟩,⟨2,3,fa 21 0 20⟩,⟨3,7,lb 22 1 21⟩,⟨4,0,la 23 32 4⟩,⟨5,0,la 24 64 5⟩,⟨6,63,A0 (.mupd (.ar 32 1 false .int) (.t 22) (.t 23) (.t 24))⟩]) (sr [la 25 64 6,la 26 64 5,A1 27 (.eq true false (.ar 64 1 false .int) (.t 25) (.t 26)),mt 28 27,mg 29 28 true 0,A2 30 28 true (.nilc (.t 29)),A2 31 28 true (.fadr 129 (.t 30)),A2 32 28 true (.load false 1 (.t 31)),A2 33 28 true (.un .not (.t 32)),
  Fq 34 28 33] (.cond (.t 34) (.regd [⟨0,0,mt 35 0⟩,⟨3,0,la 38 64 6⟩,⟨5,3,nc 40 35⟩,⟨6,7,fa 41 1 40⟩,⟨7,15,sb 64 41 38⟩,⟨1,0,mt 36 0⟩,⟨4,0,la 39 64 5⟩,⟨8,127,nc 42 36⟩,⟨9,255,fa 43 65 42⟩,⟨10,511,sb 64 43 39⟩,⟨2,0,mt 37 0⟩,⟨11,2047,nc 44 37⟩,⟨12,4095,fa 45 129 44⟩,⟨13,8191,A0 (.store 1 (.t 45) (.c (.bool true)))⟩]) .skip))))))
def Tq:LF:=⟨Uf,3,0,46,[]⟩
variable {M:Seat}
structure OkH (M:Seat):Prop where
 k319:Au M 319 Agn=true
 k418:Au M 418 Ah6=true
 k419:Au M 419 Air=true
 k420:Au M 420 Agp=true
def Jf (p:Nat→BitVec 8) (j:Nat):BitVec 8:=if j < 64 then p j else if j=64 then 1 else if j=135 then 128 else 0
def FP (s:List (BitVec 64)) (rest:V):V:=.st 26 (.fcons 0 (.ar 1 25 (ws s)) (.fcons 25 rest .fnil))
def Zn:List (BitVec 64):=List.replicate 25 0
theorem Adg (j:Nat):Zn.getD j 0=0:=by
 simp only [Zn,List.getD,List.getElem?_replicate];split <;> rfl
def DW (p:Nat→BitVec 8):Dg:=Xg (Lf Zn (Jf p))
theorem Ss (ok:OkH M):Ag M 418 [] [] 0 (Q3 (.ptr 0 []) [(0,FP Zn .nils)] 1):=by
 refine Ab ok.k418 rfl fun x hx=>?_
 refine es 2000 ?_;(simp only [Ah6,Aih,LZ,seval])
 refine Rv hx [32] (.ptr 0 []) ([(0,FP Zn .nils)]) 1 ?_
 simp only [FP,LY,seval]
 exact fun i _=>(Adg i).symm
theorem SA (ok:OkH M) (s:List (BitVec 64)) (p:Nat→BitVec 8) :
 Ag M 419 [.ptr 0 [],.lst 1 64 (fun j=>B (p j))] [(0,FP s .nils)] 1 (Q3 .nili [(0,FP s (.sl 1 [] 0 64 1)),(1,.ar 1 64 (fun j=>B (p j)))] 2):=by
 refine Ab ok.k419 rfl fun x hx=>?_
 refine es 2000 ?_;(simp only [Air,Afd,FP,LZ,seval])
 refine AW ?_
 refine es 2000 ?_
 (simp only [LZ,seval])
 refine Rv hx [0,145] (.nili) ([(0,FP s (.sl 1 [] 0 64 1)),(1,.ar 1 64 (fun j=>B (p j)))]) 2 ?_
 simp only [FP,LY,seval]
theorem Sg (okA:OkM M) (ok:OkH M) (s:List (BitVec 64)) (p:Nat→BitVec 8) :
 Ag M 420 [.imm (FP s (.lst 1 64 (fun j=>B (p j))))] [] 0 (Q3 (Ah (dg (Xg (Lf s (Jf p)))) .nili) [] 0):=by
 refine Ab ok.k420 rfl fun x hx=>?_
 have m1:min 64 136=64:=rfl
 have m2:∀ i:Nat,(0≤i)=True:=fun i=>eq_true (Nat.zero_le i)
 refine es 2000 ?_;(simp only [Agp,Ahn,FP,m1,m2,LZ,seval])
 refine cpK (F4 okA s (Jf p)) (by (try simp only [KU,LY,seval]) <;> first | exact q1 | ((intro j hj;simp only [Jf];repeat' split <;> first | omega | rfl | simp_all | (subst_vars;rfl)))) (by simp only [KU,LX]) ?_
 (simp only [LZ,seval])
 refine Ak (HI okA (Lf s (Jf p))) ?_
 (simp only [LZ,seval])
 refine Ar.mk hx [] [] (Ah (dg (Xg (Lf s (Jf p)))) .nili) [] 0 Am (by (simp only [CU,seval])) (by (try simp only [OJ,seval]) <;> exact q2) trivial ⟨rfl,rfl,rfl⟩
theorem C9 (okA:OkM M) (ok:OkH M) (p:Nat→BitVec 8) :
 Ag M 319 [.lst 1 64 (fun j=>B (p j))] [] 0 (Q3 (dg (DW p)) [] 0):=by
 refine Ab ok.k319 rfl fun x hx=>?_
 refine es 2000 ?_;(simp only [Agn,Aie,LZ,seval])
 have zz:=@FP.eq_1;refine Kb (Ss ok) ?_
 (simp only [FP,LZ,seval])
 have zz:=@FP.eq_1;refine SM [16] (SA ok Zn p) ?_
 (simp only [FP,LZ,seval])
 have zz:=@FP.eq_1;refine Ce (Sg okA ok Zn p) ?_
 (simp only [AH,seval])
 refine Ar.mk hx [] [] (dg (Xg (Lf Zn (Jf p)))) [] 0 Am (by (simp only [CU,seval])) (by (try simp only [OJ,seval]) <;> exact q2) trivial ⟨rfl,rfl,rfl⟩
variable {M:Seat}
structure OkS (M:Seat):Prop extends OkH M where
 k68:Au M 68 f68=true
 k212:Au M 212 Aet=true
 k213:Au M 213 An0=true
 k320:Au M 320 Tq=true
def MA (a b:Dg):Pr:=Pr.mk' fun j=>if j < 32 then a.at j else b.at (j - 32)
theorem NR (ok:OkS M) (a b:Dg):Ag M 213 [dg a,dg b] [] 0 (Q3 (Bk (MA a b)) [] 0):=by
 refine Ab ok.k213 rfl fun x hx=>?_
 have m1:min 32 32=32:=rfl
 have m2:∀ i:Nat,(0≤i)=True:=fun i=>eq_true (Nat.zero_le i)
 refine es 2000 ?_;(simp only [An0,Aeo,EE,m1,m2,KU,seval])
 refine Ar.mk hx [] [] (Bk (MA a b)) [] 0 Am (by simp only [Dz,G1,DC,LZ,seval]) ?_ trivial ⟨rfl,rfl,rfl⟩
 simp only [Dz,DC,Bk,LZ,seval,LY]
 intro j hj
 rw [MA,Pr.at_mk' _ _ hj]
 by_cases h:j < 32
 ·rw [if_neg Aa,if_pos h,if_pos h]
 ·rw [if_pos Aa,if_neg h]
def DV (ev:Nat) (a b:Pr) (met:Bool):V:=.st 130 (.fcons 0 (.map ev) (.fcons 1 (Bk a) (.fcons 65 (Bk b) (.fcons 129 (.bool met) .fnil))))
structure WS where
 pres:List (Dg × Pr)
 ever:List (Dg × Pr)
 a:Pr
 b:Pr
 met:Bool
def WS.kin (w:WS) (h:Dg) (p:Pr):WS:=match Q7 h w.ever with
 | none=>{ w with ever:=Hm h p w.ever }
 | some q=>if ¬ q=p∧w.met=false then { w with a:=q,b:=p,met:=true } else w
theorem SW (ok:OkS M) (w:WS) (h:Dg) (p:Pr) :
 Ag M 320 [.ptr 0 [],dg h,Bk p] [(0,DV 1 w.a w.b w.met),(1,BR Bk Pr.zero w.ever)] 2
  (Q3 (.tup .fnil) [(0,DV 1 (w.kin h p).a (w.kin h p).b (w.kin h p).met),(1,BR Bk Pr.zero (w.kin h p).ever)] 2):=by
 refine Ab ok.k320 rfl fun x hx=>?_
 cases hl:Q7 h w.ever with
 | none =>
   refine es 2000 ?_;(simp only [Tq,Uf,DV,hl,EE,seval])
   have e:w.kin h p={ w with ever:=Hm h p w.ever }:=by simp only [WS.kin,hl]
   rw [e]
   refine Rv hx [0,1] (.tup .fnil) ([(0,DV 1 w.a w.b w.met),(1,BR Bk Pr.zero (Hm h p w.ever))]) 2 ?_
   simp only [DV,Fz,seval]
 | some q =>
   by_cases hq:q=p
   ·have e:w.kin h p=w:=by simp only [WS.kin,hl,hq,not_true_eq_false,false_and,if_false]
    refine es 2000 ?_;(simp only [Tq,Uf,DV,hl,hq,EE,seval])
    rw [e]
    refine Rv hx [0,1] (.tup .fnil) ([(0,DV 1 w.a w.b w.met),(1,BR Bk Pr.zero w.ever)]) 2 ?_
    simp only [DV,Fz,seval]
   ·cases hm:w.met with
    | true =>
      have e:w.kin h p=w:=by simp [WS.kin,hl,hm]
      refine es 2000 ?_;(simp only [Tq,Uf,DV,hl,hq,EE,hm,seval])
      rw [e]
      refine Rv hx [0,1] (.tup .fnil) ([(0,DV 1 w.a w.b w.met),(1,BR Bk Pr.zero w.ever)]) 2 ?_
      simp only [DV,hm,Fz,seval]
    | false =>
      have e:w.kin h p={ w with a:=q,b:=p,met:=true }:=by simp [WS.kin,hl,hm,hq]
      refine es 2000 ?_;(simp only [Tq,Uf,DV,hl,hq,EE,hm,seval])
      rw [e]
      refine Rv hx [0,1] (.tup .fnil) ([(0,DV 1 q p true),(1,BR Bk Pr.zero w.ever)]) 2 ?_
      simp only [DV,hm,Fz,seval]
def VU (va:V):V:=.st 4 (.fcons 0 (.map 1) (.fcons 1 (.ptr 2 []) (.fcons 2 (.map 4) (.fcons 3 va .fnil))))
def Zm:=(Bb @DV.eq_1 @VU.eq_1)
def PF (w:WS) (va:V):Hp:=[(0,VU va),(1,BR Bk Pr.zero w.pres),(2,DV 3 w.a w.b w.met),(3,BR Bk Pr.zero w.ever)]
def WS.add (w:WS) (p:Pr):WS:=({ w with pres:=Hm (DW p.at) p w.pres }:WS).kin (DW p.at) p
theorem Ac4 (w:WS) (l:List (Dg × Pr)) (h:Dg) (p:Pr):({ w with pres:=l }:WS).kin h p={ w.kin h p with pres:=l }:=by
 unfold WS.kin;dsimp only;split <;> (try split) <;> rfl
theorem S4 (okA:OkM M) (ok:OkS M) (w:WS) (p:Pr)  :
 Ag M 212 [.ptr 0 [],Bk p] (PF w (.nils)) 5 (Q3 (Ah (dg (DW p.at)) .nili) (PF (w.add p) (.nils)) 5):=by
 refine Ab ok.k212 rfl fun x hx=>?_
 have e:w.add p={ w.kin (DW p.at) p with pres:=Hm (DW p.at) p w.pres }:=by rw [WS.add,Ac4]
 refine es 2000 ?_;(simp only [Aet,Af6,PF,VU,EE,seval])
 have zz:=@Bk.eq_1;refine Ce (C9 okA ok.toOkH p.at) ?_
 (simp only [EE,seval])
 have zz:=Bb @J3 @DV.eq_1;refine omY [2,3] (SW ok w (DW p.at) p) ?_
 (simp only [EE,DV,seval])
 refine Rv hx [0,1,2,3,4] (Ah (dg (DW p.at)) .nili) (PF (w.add p) (.nils)) 5 ?_
 all_goals simp only [PF,Zm,e,Fz,seval]
def C7:Nat→WS
 | 0=>⟨[],[],Pr.zero,Pr.zero,false⟩
 | n + 1=>(C7 n).add (MA (At n) (At n))
def E8 (l:List (Dg × Bool)):V:=BR V.bool false l
def EZ (w:WS) (va:V) (l:List (Dg × Bool)):Hp:=[(0,VU va),(1,BR Bk Pr.zero w.pres),(2,DV 3 w.a w.b w.met),(3,BR Bk Pr.zero w.ever),(4,E8 l)]
theorem Du (H:Hp) (m z:List Nat) (l:List (Dg × Bool)):Az H m z (E8 l) (E8 l)=True:=eq_true (HW H m z V.bool (fun _=>rfl) false l)
theorem RP (l:List (Dg × Bool)):AC (E8 l)=True:=eq_true (NQ V.bool (fun _=>trivial) false l)
theorem Iu (m:List Nat) (l:List (Dg × Bool)):(E8 l).ren m=E8 l:=QE m V.bool (fun _=>rfl) false l
theorem Tc (okA:OkM M) (ok:OkS M):Ag M 68 [] [] 0 (Q3 (.ptr 0 []) (EZ (C7 16) .nils []) 5):=by
 refine Ab ok.k68 rfl fun x hx=>?_
 refine es 2000 ?_;(simp only [f68,c68,EE,seval])
 refine An (σ:=Nat) (fun n=>n≤16) (fun n=>fr 27 [(1,.ptr 0 []),(12,.int .i64 n)]) (fun n=>EZ (C7 n) .nils []) (fun _=>5) (fun n=>16 - n) 0 Aa ?_ ?_
 ·refine Ao.fr [112,16,64,32,80] [] hx AQ Am ?_ ?_
  ·simp only [LY,seval]
  ·simp only [EZ,Zm,C7,E8,Zl,Fz,seval]
 ·intro n hn
  refine es 2000 ?_
  by_cases h16:n=16
  ·subst h16
   (simp only [LZ,seval])
   refine Rv hx [0,1,2,3,4] (.ptr 0 []) (EZ (C7 16) .nils []) 5 ?_
   all_goals simp only [EZ,Zm,Du,Fz,seval]
  ·have d0:((n:Int) < 16)=True:=eq_true Aa
   have w0:IntKind.i64.wrap ((n:Int) + 1)=((n + 1:Nat):Int):=AZ
   (simp only [d0,EZ,LZ,seval])
   refine Ak (R4 okA n Aa) ?_
   (simp only [AH,seval])
   have zz:=@J3;refine Ce (NR ok (At n) (At n)) ?_
   (simp only [EE,seval])
   have zz:=C4 @J3 @PF.eq_1 Zm;refine Om [0,1,2,3,4] [0,1,2,3] (S4 okA ok (C7 n) (MA (At n) (At n))) ?_
   (simp only [NC,PF,Zm,Du,Iu,w0,seval])
   refine ⟨n + 1,by omega,by omega,?_⟩
   refine Ao.fr [0,1,2,3,4] [] hx AQ Am ?_ ?_
   ·simp only [LY,seval]
   ·simp only [EZ,Zm,C7,Du,Fz,seval]
end Mv
