/- A part. -/
import Derived.Test.YtlfkjfonpacelaaGreatDoorEY
set_option linter.all false
set_option maxRecDepth 20000
set_option maxHeartbeats 4000000
namespace Mv
open Go
def Aie:LC:=(sr [aB 2 32] (sr [kl 6 418 [],mt 3 6] (sr [mt 7 3,mt 8 0,kl 9 419 [(.t 7),(.t 8)]] (sr [mt 11 3,kl 12 420 [(.t 11)],mt 10 12,ee 13 10 0,ee 14 10 1,
  aB 4 32,sb 32 4 13,mt 5 14] (sr [la 15 32 4,sb 32 2 15] .ret)))))
def Agn:LF:=⟨Aie,1,0,16,[.cell 2 true 32]⟩
def Aih:LC:=(sr [A1 0 (.mv (.c .nilp))] (sr [A1 1 (.build (.st (.cons (.ar 25 (.int .u64)) (.cons .slice .nil))) []),
  bX 2 1,mt 0 2] .ret))
def Ah6:LF:=⟨Aih,0,0,3,[.tmp 0]⟩
def Afd:LC:=(sr [mn 4] (.seq (sr [mt 5 0,A1 6 (.eq false true .ptr (.t 5) (.c .nilp))] (.cond (.t 6) (sr [A1 7 (.mkif 74 (cI 1)),mt 4 7] .ret) .skip)) (sr [mt 8 0,mt 9 0,nc 10 9,fa 11 25 10,lb 12 1 11,mt 13 1,
  aP 14 1 1 12 13,nc 15 8,fa 16 25 15,sb 1 16 14] (.seq (.block 0 (.loop (.seq (sr [mt 17 0,nc 18 17,fa 19 25 18,lb 20 1 19,
  lN 21 0 20,aI 22 .geq 21 136]
 (Dd 22 0)) (.block 1 (.seq (.regd [⟨1,0,mt 24 0⟩,⟨2,1,nc 25 24⟩,⟨3,3,fa 26 0 25⟩,⟨4,7,la 27 25 26⟩,⟨5,0,mt 28 0⟩,⟨6,16,nc 29 28⟩,⟨7,48,fa 30 25 29⟩,⟨8,112,lb 31 1 30⟩,⟨9,240,A1 32 (.slsl 1 (.t 31) none (some (cI 136)))⟩,⟨10,511,kl 33 318 [(.t 27),(.t 32)]⟩,⟨0,0,mt 23 0⟩,⟨11,2047,nc 34 23⟩,⟨12,4095,fa 35 0 34⟩,⟨13,8191,sb 25 35 33⟩]) (.reg [mt 36 0,mt 37 0,nc 38 37,fa 39 25 38,lb 40 1 39,A1 41 (.slsl 1 (.t 40) (some (cI 136)) none),kl 42 277 [(.t 41)],nc 43 36,fa 44 25 43,sb 1 44 42])))))) (sr [mn 4] .ret)))))
def Air:LF:=⟨Afd,2,0,45,[.tmp 4]⟩
def Ahn:LC:=(sr [aB 2 32,mn 3] (.seq (sr [mt 5 0,A1 6 (.eq false true .ptr (.t 5) (.c .nilp))] (.cond (.t 6) (sr [A1 7 (.build (.ar 32 (.int .u8)) []),A1 8 (.mkif 74 (cI 1)),sb 32 2 7,mt 3 8] .ret) .skip)) (sr [A1 9 (.mksl 1 1 (.int .u8) (cI 136) (cI 136)),mt 4 9] (sr [mt 10 4,mt 11 0,nc 12 11,fa 13 25 12,lb 14 1 13,A1 15 (.copy 1 (.t 10) (.t 14))] (sr [mt 16 4,mt 17 0,nc 18 17,fa 19 25 18,lb 20 1 19,
  lN 21 0 20,ia 22 1 16 21,lb 23 1 22,A1 24 (.ari .xor (.t 23) (.c (.int .u8 1))),ia 25 1 16 21,sb 1 25 24] (sr [mt 26 4,
  iJ 27 1 26 135,lb 28 1 27,A1 29 (.ari .xor (.t 28) (.c (.int .u8 128))),
  iJ 30 1 26 135,sb 1 30 29] (sr [mt 31 0,nc 32 31,fa 33 0 32,la 34 25 33,mt 35 4,kl 36 318 [(.t 34),(.t 35)],kl 37 317 [(.t 36)],sb 32 2 37,mn 3] .ret)))))))
def Agp:LF:=⟨Ahn,1,0,38,[.cell 2 true 32,.tmp 3]⟩
def Agy:LC:=(sr [mU 2 0] (sr [mU 3 0] (.seq (sr [mt 6 0,A1 7 (.slsl 1 (.t 6) none (some (cI 8))),
  lN 8 0 7,
  mI 9 0] (.block 0 (.loop (sr [ak 10 .lss 9 8] (.seq (Dd 10 0) (.seq (.block 1 (sr [ia 11 1 7 9,lb 12 1 11,mt 5 12] (.reg [mt 13 3,
  aU 14 .shl 13 8,mt 15 5,
  D0 16 .u64 15,ak 17 .or 14 16,mt 3 17]))) (.reg [aI 18 .add 9 1,mt 9 18]))))))) (sr [mt 19 3,mt 2 19] .ret))))
def Afc:LF:=⟨Agy,1,0,20,[.tmp 2]⟩
def Aam:LC:=(sr [A1 4 (.mv (.c .nils))] (sr [aB 5 8] (sr [A1 6 (.slarr 8 1 (.t 5) none none),mt 7 1,kl 8 312 [(.t 6),(.t 7)]] (sr [mt 9 0,A1 10 (.slarr 8 1 (.t 5) none none),
  aP 11 1 1 9 10,mt 4 11] .ret))))
def Ad1:LF:=⟨Aam,2,0,12,[.tmp 4]⟩
def c68:LC:=(sr [A1 0 (.mv (.c .nilp))] (sr [A1 5 (.mkmap (.ar 32 (.int .u8)) (.ar 64 (.int .u8))),A1 6 (.mkmap (.ar 32 (.int .u8)) (.ar 64 (.int .u8))),A1 7 (.build (.st (.cons .map (.cons (.ar 64 (.int .u8)) (.cons (.ar 64 (.int .u8)) (.cons .bool .nil))))) [(.f 0,1,(.t 6))]),
  bX 8 7,A1 9 (.mkmap (.ar 32 (.int .u8)) .bool),A1 10 (.build (.st (.cons .map (.cons .ptr (.cons .map (.cons .slice .nil))))) [(.f 0,1,(.t 5)),(.f 1,1,(.t 8)),(.f 2,1,(.t 9))]),
  bX 11 10,mt 1 11] (.seq (sr [mI 12 0] (.block 0 (.loop (sr [aI 13 .lss 12 16] (.seq (Dd 13 0) (.seq (.block 1 (sr [mt 14 12,mt 2 14] (sr [mt 16 2,kl 17 197 [(.t 16)],mt 15 17,ee 18 15 0,ee 19 15 1,
  aB 3 32,sb 32 3 18,mt 4 19] (.reg [mt 20 1,la 21 32 3,la 22 32 3,kl 23 213 [(.t 21),(.t 22)],kl 24 212 [(.t 20),(.t 23)]])))) (.reg [aI 25 .add 12 1,mt 12 25]))))))) (sr [mt 26 1,mt 0 26] .ret))))
def f68:LF:=⟨c68,0,0,27,[.tmp 0]⟩
def Af6:LC:=(sr [bX 3 1,
 aB 4 32,mn 5] (.seq (sr [mt 7 0,A1 8 (.eq false true .ptr (.t 7) (.c .nilp))] (.cond (.t 8) (sr [A1 9 (.build (.ar 32 (.int .u8)) []),A1 10 (.mkif 74 (cI 1)),sb 32 4 9,mt 5 10] .ret) .skip)) (sr [A1 11 (.slarr 64 1 (.t 3) none none),kl 12 319 [(.t 11)],
  aB 6 32,sb 32 6 12] (.seq (.regd [⟨0,0,mt 13 0⟩,⟨1,1,nc 14 13⟩,⟨2,3,fa 15 0 14⟩,⟨3,7,lb 16 1 15⟩,⟨4,0,la 17 32 6⟩,⟨5,0,la 18 64 3⟩,⟨6,63,A0 (.mupd (.ar 32 1 false .int) (.t 16) (.t 17) (.t 18))⟩]) (.seq (.regd [⟨0,0,mt 19 0⟩,⟨1,1,nc 20 19⟩,⟨2,3,fa 21 1 20⟩,⟨3,7,lb 22 1 21⟩,⟨4,0,la 23 32 6⟩,⟨5,0,la 24 64 3⟩,⟨6,63,kl 25 320 [(.t 22),(.t 23),(.t 24)]⟩]) (sr [la 26 32 6,sb 32 4 26,mn 5] .ret))))))
def Aet:LF:=⟨Af6,2,0,27,[.cell 4 true 32,.tmp 5]⟩
def Aeo:LC:=(sr [bX 2 0,
 bX 3 1,
 aB 4 64] (sr [aB 5 64] (.seq (.regd [⟨0,0,A1 6 (.slarr 64 1 (.t 5) none (some (cI 32)))⟩,⟨1,0,A1 7 (.slarr 32 1 (.t 2) none none)⟩,⟨2,3,A1 8 (.copy 1 (.t 6) (.t 7))⟩]) (.seq (.regd [⟨0,0,A1 9 (.slarr 64 1 (.t 5) (some (cI 32)) none)⟩,⟨1,0,A1 10 (.slarr 32 1 (.t 3) none none)⟩,⟨2,3,A1 11 (.copy 1 (.t 9) (.t 10))⟩]) (sr [la 12 64 5,sb 64 4 12] .ret)))))
def Axc:LF:=⟨Aeo,2,0,13,[.cell 4 true 64]⟩
def Uf:LC:=(sr [bX 4 1,
 bX 5 2] (.seq (.regd [⟨0,0,mt 9 0⟩,⟨1,1,nc 10 9⟩,⟨2,3,fa 11 0 10⟩,⟨3,7,lb 12 1 11⟩,⟨4,0,la 13 32 4⟩,⟨5,31,A1 14 (.mlook (.ar 32 1 false .int) (.ar 64 (.int .u8)) true (.t 12) (.t 13))⟩,⟨6,63,mt 8 14⟩,⟨7,127,ee 15 8 0⟩,⟨9,0,aB 6 64⟩,⟨10,511,sb 64 6 15⟩,⟨8,127,ee 16 8 1⟩,⟨11,2047,mt 7 16⟩]) (sr [mt 17 7,A1 18 (.un .not (.t 17))] (.cond (.t 18) (.regd [⟨0,0,mt 19 0⟩,⟨1,1,nc 20 19⟩,⟨2,3,fa 21 0 20⟩,⟨3,7,lb 22 1 21⟩,⟨4,0,la 23 32 4⟩,⟨5,0,la 24 64 5⟩,⟨6,63,A0 (.mupd (.ar 32 1 false .int) (.t 22) (.t 23) (.t 24))⟩]) (sr [la 25 64 6,la 26 64 5,A1 27 (.eq true false (.ar 64 1 false .int) (.t 25) (.t 26)),mt 28 27,mg 29 28 true 0,A2 30 28 true (.nilc (.t 29)),A2 31 28 true (.fadr 129 (.t 30)),A2 32 28 true (.load false 1 (.t 31)),A2 33 28 true (.un .not (.t 32)),
  Fq 34 28 33] (.cond (.t 34) (.regd [⟨0,0,mt 35 0⟩,⟨3,0,la 38 64 6⟩,⟨5,3,nc 40 35⟩,⟨6,7,fa 41 1 40⟩,⟨7,15,sb 64 41 38⟩,⟨1,0,mt 36 0⟩,⟨4,0,la 39 64 5⟩,⟨8,127,nc 42 36⟩,⟨9,255,fa 43 65 42⟩,⟨10,511,sb 64 43 39⟩,⟨2,0,mt 37 0⟩,⟨11,2047,nc 44 37⟩,⟨12,4095,fa 45 129 44⟩,⟨13,8191,A0 (.store 1 (.t 45) (.c (.bool true)))⟩]) .skip))))))
def Tq:LF:=⟨Uf,3,0,46,[]⟩
def Agh:LC:=(sr [bX 3 1,
 aB 4 64,mn 5] (.seq (sr [mt 8 0,A1 9 (.eq false true .ptr (.t 8) (.c .nilp))] (.cond (.t 9) (sr [A1 10 (.build (.ar 64 (.int .u8)) []),A1 11 (.mkif 74 (cI 1)),sb 64 4 10,mt 5 11] .ret) .skip)) (.seq (.seq (.regd [⟨0,0,mt 12 0⟩,⟨1,1,nc 13 12⟩,⟨2,3,fa 14 2 13⟩,⟨3,7,lb 15 1 14⟩,⟨4,0,la 16 32 3⟩,⟨5,31,A1 17 (.mlook (.ar 32 1 false .int) .bool false (.t 15) (.t 16))⟩,⟨6,63,A1 18 (.un .not (.t 17))⟩]) (.cond (.t 18) (.seq (.regd [⟨0,0,mt 19 0⟩,⟨1,1,nc 20 19⟩,⟨2,3,fa 21 2 20⟩,⟨3,7,lb 22 1 21⟩,⟨4,0,la 23 32 3⟩,⟨5,31,A0 (.mupd (.ar 32 1 false .int) (.t 22) (.t 23) (.c (.bool true)))⟩])
 (.regd [⟨1,0,mt 25 0⟩,⟨2,1,nc 26 25⟩,⟨3,3,fa 27 3 26⟩,⟨4,7,lb 28 1 27⟩,⟨5,0,la 29 32 3⟩,⟨6,16,A1 30 (.bsl 32 1 (.ar 32 (.int .u8)) [(.i 32 0,32,(.t 29))])⟩,⟨7,63,aP 31 32 32 28 30⟩,⟨0,0,mt 24 0⟩,⟨8,255,nc 32 24⟩,⟨9,511,fa 33 3 32⟩,⟨10,1023,sb 1 33 31⟩])) .skip)) (.seq (.regd [⟨0,0,mt 35 0⟩,⟨1,1,nc 36 35⟩,⟨2,3,fa 37 0 36⟩,⟨3,7,lb 38 1 37⟩,⟨4,0,la 39 32 3⟩,⟨5,31,A1 40 (.mlook (.ar 32 1 false .int) (.ar 64 (.int .u8)) true (.t 38) (.t 39))⟩,⟨6,63,mt 34 40⟩,⟨7,127,ee 41 34 0⟩,⟨9,0,aB 6 64⟩,⟨10,511,sb 64 6 41⟩,⟨8,127,ee 42 34 1⟩,⟨11,2047,mt 7 42⟩]) (.seq (sr [mt 43 7,A1 44 (.un .not (.t 43))] (.cond (.t 44) (sr [A1 45 (.build (.ar 64 (.int .u8)) []),A1 46 (.mkif 74 (cI 14)),sb 64 4 45,mt 5 46] .ret) .skip)) (sr [la 47 64 6,sb 64 4 47,mn 5] .ret))))))
def Aha:LF:=⟨Agh,2,0,48,[.cell 4 true 64,.tmp 5]⟩
variable {M:Seat}
structure OkH (M:Seat):Prop where
 k319:Au M 319 Agn=true
 k418:Au M 418 Ah6=true
 k419:Au M 419 Air=true
 k420:Au M 420 Agp=true
def Jf (p:Nat→BitVec 8) (j:Nat):BitVec 8:=if j < 64 then p j else if j=64 then 1 else if j=135 then 128 else 0
def FP (s:List (BitVec 64)) (rest:V):V:=.st 26 (.fcons 0 (.ar 1 25 (ws s)) (.fcons 25 rest .fnil))
def Zn:List (BitVec 64):=List.replicate 25 0
theorem Adg (j:Nat):Zn.getD j 0=0:=by
 simp only [Zn,List.getD,List.getElem?_replicate];split <;> rfl
def DW (p:Nat→BitVec 8):Dg:=Xg (Lf Zn (Jf p))
theorem Ss (ok:OkH M):Ag M 418 [] [] 0 (Q3 (.ptr 0 []) [(0,FP Zn .nils)] 1):=by
 refine Ab ok.k418 rfl fun x hx=>?_
 refine es 2000 ?_;(simp only [Ah6,Aih,LZ,seval])
 refine Rv hx [32] (.ptr 0 []) ([(0,FP Zn .nils)]) 1 ?_
 simp only [FP,LY,seval]
 exact fun i _=>(Adg i).symm
theorem SA (ok:OkH M) (s:List (BitVec 64)) (p:Nat→BitVec 8) :
 Ag M 419 [.ptr 0 [],.lst 1 64 (fun j=>B (p j))] [(0,FP s .nils)] 1 (Q3 .nili [(0,FP s (.sl 1 [] 0 64 1)),(1,.ar 1 64 (fun j=>B (p j)))] 2):=by
 refine Ab ok.k419 rfl fun x hx=>?_
 refine es 2000 ?_;(simp only [Air,Afd,FP,LZ,seval])
 refine AW ?_
 refine es 2000 ?_
 (simp only [LZ,seval])
 refine Rv hx [0,145] (.nili) ([(0,FP s (.sl 1 [] 0 64 1)),(1,.ar 1 64 (fun j=>B (p j)))]) 2 ?_
 simp only [FP,LY,seval]
theorem Sg (okA:OkM M) (ok:OkH M) (s:List (BitVec 64)) (p:Nat→BitVec 8) :
 Ag M 420 [.imm (FP s (.lst 1 64 (fun j=>B (p j))))] [] 0 (Q3 (Ah (dg (Xg (Lf s (Jf p)))) .nili) [] 0):=by
 refine Ab ok.k420 rfl fun x hx=>?_
 have m1:min 64 136=64:=rfl
 have m2:∀ i:Nat,(0≤i)=True:=fun i=>eq_true (Nat.zero_le i)
 refine es 2000 ?_;(simp only [Agp,Ahn,FP,m1,m2,LZ,seval])
 refine cpK (F4 okA s (Jf p)) (by (try simp only [KU,LY,seval]) <;> first | exact q1 | ((intro j hj;simp only [Jf];repeat' split <;> first | omega | rfl | simp_all | (subst_vars;rfl)))) (by simp only [KU,LX]) ?_
 (simp only [LZ,seval])
 refine Ak (HI okA (Lf s (Jf p))) ?_
 (simp only [LZ,seval])
 refine Ar.mk hx [] [] (Ah (dg (Xg (Lf s (Jf p)))) .nili) [] 0 Am (by (simp only [CU,seval])) (by (try simp only [OJ,seval]) <;> exact q2) trivial ⟨rfl,rfl,rfl⟩
theorem C9 (okA:OkM M) (ok:OkH M) (p:Nat→BitVec 8) :
 Ag M 319 [.lst 1 64 (fun j=>B (p j))] [] 0 (Q3 (dg (DW p)) [] 0):=by
 refine Ab ok.k319 rfl fun x hx=>?_
 refine es 2000 ?_;(simp only [Agn,Aie,LZ,seval])
 have zz:=@FP.eq_1;refine Kb (Ss ok) ?_
 (simp only [FP,LZ,seval])
 have zz:=@FP.eq_1;refine SM [16] (SA ok Zn p) ?_
 (simp only [FP,LZ,seval])
 have zz:=@FP.eq_1;refine Ce (Sg okA ok Zn p) ?_
 (simp only [AH,seval])
 refine Ar.mk hx [] [] (dg (Xg (Lf Zn (Jf p)))) [] 0 Am (by (simp only [CU,seval])) (by (try simp only [OJ,seval]) <;> exact q2) trivial ⟨rfl,rfl,rfl⟩
variable {M:Seat}
structure OkS (M:Seat):Prop extends OkH M where
 k68:Au M 68 f68=true
 k212:Au M 212 Aet=true
 k213:Au M 213 Axc=true
 k320:Au M 320 Tq=true
 k328:Au M 328 Aha=true
def MA (a b:Dg):Pr:=Pr.mk' fun j=>if j < 32 then a.at j else b.at (j - 32)
theorem NR (ok:OkS M) (a b:Dg):Ag M 213 [dg a,dg b] [] 0 (Q3 (Bk (MA a b)) [] 0):=by
 refine Ab ok.k213 rfl fun x hx=>?_
 have m1:min 32 32=32:=rfl
 have m2:∀ i:Nat,(0≤i)=True:=fun i=>eq_true (Nat.zero_le i)
 refine es 2000 ?_;(simp only [Axc,Aeo,EE,m1,m2,KU,seval])
 refine Ar.mk hx [] [] (Bk (MA a b)) [] 0 Am (by simp only [Dz,Atl,DC,LZ,seval]) ?_ trivial ⟨rfl,rfl,rfl⟩
 simp only [Dz,DC,Bk,LZ,seval,LY]
 intro j hj
 rw [MA,Pr.at_mk' _ _ hj]
 by_cases h:j < 32
 ·rw [if_neg Aa,if_pos h,if_pos h]
 ·rw [if_pos Aa,if_neg h]
def DV (ev:Nat) (a b:Pr) (met:Bool):V:=.st 130 (.fcons 0 (.map ev) (.fcons 1 (Bk a) (.fcons 65 (Bk b) (.fcons 129 (.bool met) .fnil))))
structure WS where
 pres:List (Dg × Pr)
 ever:List (Dg × Pr)
 a:Pr
 b:Pr
 met:Bool
def WS.kin (w:WS) (h:Dg) (p:Pr):WS:=match Q7 h w.ever with
 | none=>{ w with ever:=Hm h p w.ever }
 | some q=>if ¬ q=p∧w.met=false then { w with a:=q,b:=p,met:=true } else w
theorem SW (ok:OkS M) (w:WS) (h:Dg) (p:Pr) :
 Ag M 320 [.ptr 0 [],dg h,Bk p] [(0,DV 1 w.a w.b w.met),(1,BR Bk Pr.zero w.ever)] 2
  (Q3 (.tup .fnil) [(0,DV 1 (w.kin h p).a (w.kin h p).b (w.kin h p).met),(1,BR Bk Pr.zero (w.kin h p).ever)] 2):=by
 refine Ab ok.k320 rfl fun x hx=>?_
 cases hl:Q7 h w.ever with
 | none =>
   refine es 2000 ?_;(simp only [Tq,Uf,DV,hl,EE,seval])
   have e:w.kin h p={ w with ever:=Hm h p w.ever }:=by simp only [WS.kin,hl]
   rw [e]
   refine Rv hx [0,1] (.tup .fnil) ([(0,DV 1 w.a w.b w.met),(1,BR Bk Pr.zero (Hm h p w.ever))]) 2 ?_
   simp only [DV,Fz,seval]
 | some q =>
   by_cases hq:q=p
   ·have e:w.kin h p=w:=by simp only [WS.kin,hl,hq,not_true_eq_false,false_and,if_false]
    refine es 2000 ?_;(simp only [Tq,Uf,DV,hl,hq,EE,seval])
    rw [e]
    refine Rv hx [0,1] (.tup .fnil) ([(0,DV 1 w.a w.b w.met),(1,BR Bk Pr.zero w.ever)]) 2 ?_
    simp only [DV,Fz,seval]
   ·cases hm:w.met with
    | true =>
      have e:w.kin h p=w:=by simp [WS.kin,hl,hm]
      refine es 2000 ?_;(simp only [Tq,Uf,DV,hl,hq,EE,hm,seval])
      rw [e]
      refine Rv hx [0,1] (.tup .fnil) ([(0,DV 1 w.a w.b w.met),(1,BR Bk Pr.zero w.ever)]) 2 ?_
      simp only [DV,hm,Fz,seval]
    | false =>
      have e:w.kin h p={ w with a:=q,b:=p,met:=true }:=by simp [WS.kin,hl,hm,hq]
      refine es 2000 ?_;(simp only [Tq,Uf,DV,hl,hq,EE,hm,seval])
      rw [e]
      refine Rv hx [0,1] (.tup .fnil) ([(0,DV 1 q p true),(1,BR Bk Pr.zero w.ever)]) 2 ?_
      simp only [DV,hm,Fz,seval]
def VU (va:V):V:=.st 4 (.fcons 0 (.map 1) (.fcons 1 (.ptr 2 []) (.fcons 2 (.map 4) (.fcons 3 va .fnil))))
def Zm:=(Bb @DV.eq_1 @VU.eq_1)
def PF (w:WS) (va:V):Hp:=[(0,VU va),(1,BR Bk Pr.zero w.pres),(2,DV 3 w.a w.b w.met),(3,BR Bk Pr.zero w.ever)]
def WS.add (w:WS) (p:Pr):WS:=({ w with pres:=Hm (DW p.at) p w.pres }:WS).kin (DW p.at) p
theorem Ac4 (w:WS) (l:List (Dg × Pr)) (h:Dg) (p:Pr):({ w with pres:=l }:WS).kin h p={ w.kin h p with pres:=l }:=by
 unfold WS.kin;dsimp only;split <;> (try split) <;> rfl
theorem S4 (okA:OkM M) (ok:OkS M) (w:WS) (p:Pr)  :
 Ag M 212 [.ptr 0 [],Bk p] (PF w (.nils)) 5 (Q3 (Ah (dg (DW p.at)) .nili) (PF (w.add p) (.nils)) 5):=by
 refine Ab ok.k212 rfl fun x hx=>?_
 have e:w.add p={ w.kin (DW p.at) p with pres:=Hm (DW p.at) p w.pres }:=by rw [WS.add,Ac4]
 refine es 2000 ?_;(simp only [Aet,Af6,PF,VU,EE,seval])
 have zz:=@Bk.eq_1;refine Ce (C9 okA ok.toOkH p.at) ?_
 (simp only [EE,seval])
 have zz:=Bb @J3 @DV.eq_1;refine omY [2,3] (SW ok w (DW p.at) p) ?_
 (simp only [EE,DV,seval])
 refine Rv hx [0,1,2,3,4] (Ah (dg (DW p.at)) .nili) (PF (w.add p) (.nils)) 5 ?_
 all_goals simp only [PF,Zm,e,Fz,seval]
def C7:Nat→WS
 | 0=>⟨[],[],Pr.zero,Pr.zero,false⟩
 | n + 1=>(C7 n).add (MA (At n) (At n))
def E8 (l:List (Dg × Bool)):V:=BR V.bool false l
def EZ (w:WS) (va:V) (l:List (Dg × Bool)):Hp:=[(0,VU va),(1,BR Bk Pr.zero w.pres),(2,DV 3 w.a w.b w.met),(3,BR Bk Pr.zero w.ever),(4,E8 l)]
theorem Du (H:Hp) (m z:List Nat) (l:List (Dg × Bool)):Az H m z (E8 l) (E8 l)=True:=eq_true (HW H m z V.bool (fun _=>rfl) false l)
def Laa:=(C4 @J3 @Du @dg.eq_1)
def Lbx:=(Bb @LY @Laa)
theorem RP (l:List (Dg × Bool)):AC (E8 l)=True:=eq_true (NQ V.bool (fun _=>trivial) false l)
theorem Iu (m:List Nat) (l:List (Dg × Bool)):(E8 l).ren m=E8 l:=QE m V.bool (fun _=>rfl) false l
theorem Tc (okA:OkM M) (ok:OkS M):Ag M 68 [] [] 0 (Q3 (.ptr 0 []) (EZ (C7 16) .nils []) 5):=by
 refine Ab ok.k68 rfl fun x hx=>?_
 refine es 2000 ?_;(simp only [f68,c68,EE,seval])
 refine An (σ:=Nat) (fun n=>n≤16) (fun n=>fr 27 [(1,.ptr 0 []),(12,.int .i64 n)]) (fun n=>EZ (C7 n) .nils []) (fun _=>5) (fun n=>16 - n) 0 Aa ?_ ?_
 ·refine Ao.fr [112,16,64,32,80] [] hx AQ Am ?_ ?_
  ·simp only [LY,seval]
  ·simp only [EZ,Zm,C7,E8,Zl,Fz,seval]
 ·intro n hn
  refine es 2000 ?_
  by_cases h16:n=16
  ·subst h16
   (simp only [LZ,seval])
   refine Rv hx [0,1,2,3,4] (.ptr 0 []) (EZ (C7 16) .nils []) 5 ?_
   all_goals simp only [EZ,Zm,Du,Fz,seval]
  ·have d0:((n:Int) < 16)=True:=eq_true Aa
   have w0:IntKind.i64.wrap ((n:Int) + 1)=((n + 1:Nat):Int):=AZ
   (simp only [d0,EZ,LZ,seval])
   refine Ak (R4 okA n Aa) ?_
   (simp only [AH,seval])
   have zz:=@J3;refine Ce (NR ok (At n) (At n)) ?_
   (simp only [EE,seval])
   have zz:=C4 @J3 @PF.eq_1 Zm;refine Om [0,1,2,3,4] [0,1,2,3] (S4 okA ok (C7 n) (MA (At n) (At n))) ?_
   (simp only [NC,PF,Zm,Du,Iu,w0,seval])
   refine ⟨n + 1,by omega,by omega,?_⟩
   refine Ao.fr [0,1,2,3,4] [] hx AQ Am ?_ ?_
   ·simp only [LY,seval]
   ·simp only [EZ,Zm,C7,Du,Fz,seval]
def c70:LC:=(sr [mn 4] (.seq (sr [mt 14 0,A1 15 (.eq false true .ptr (.t 14) (.c .nilp)),mt 16 15,mg 17 16 false 1,A2 18 16 false (.eq false true .ptr (.t 17) (.c .nilp)),
  BV 19 16 18] (.cond (.t 19) (sr [A1 20 (.mkif 74 (cI 1)),mt 4 20] .ret) .skip)) (.seq (sr [mt 21 0,nc 22 21,fa 23 8209 22,lb 24 1 23] (.cond (.t 24) (sr [mn 4] .ret) .skip)) (.seq (sr [mt 25 0,nc 26 25,fa 27 8208 26,lb 28 1 27,
  aU 29 .geq 28 8192] (.cond (.t 29) (sr [mt 30 0,kl 31 214 [(.t 30),(cU 18446744073709551614)]] (sr [mn 4] .ret)) .skip)) (.seq (.regd [⟨0,0,mt 33 0⟩,⟨1,0,mt 34 0⟩,⟨2,2,nc 35 34⟩,⟨3,6,fa 36 8208 35⟩,⟨4,14,lb 37 1 36⟩,⟨5,1,nc 38 33⟩,⟨6,33,fa 39 0 38⟩,⟨7,127,ib 40 8192 1 39 37⟩,⟨8,255,lb 41 1 40⟩,⟨9,511,kl 42 79 [(.t 41)]⟩,⟨10,1023,mt 32 42⟩,⟨11,2047,ee 43 32 0⟩,⟨12,2047,ee 44 32 1⟩,⟨13,2047,ee 45 32 2⟩,⟨14,2047,ee 46 32 3⟩,⟨15,2047,ee 47 32 4⟩,⟨16,2047,ee 48 32 5⟩,⟨17,2047,ee 49 32 6⟩,⟨18,4095,mt 5 43⟩,⟨19,270335,mt 6 44⟩,⟨20,802815,mt 7 45⟩,⟨21,1867775,mt 8 46⟩,⟨22,3997695,mt 9 47⟩,⟨23,8257535,mt 10 48⟩,⟨24,16777215,mt 11 49⟩]) (.seq (sr [mt 50 11,A1 51 (.un .not (.t 50))] (.cond (.t 51) (sr [mt 52 0,kl 53 214 [(.t 52),(cU 18446744073709551614)]] (sr [mn 4] .ret)) .skip)) (sr [mt 54 0,nc 55 54,fa 56 8192 55,mt 12 56] (sr [mt 57 12,mt 58 7,nc 59 57,ib 60 16 1 59 58,lb 61 1 60,mt 62 10,
  D0 63 .u64 62,ak 64 .add 61 63,mt 13 64] (.seq (.block 0 (sr [mt 66 5,aI 67 .eql 66 0,mt 65 67] (.cond (.t 65) (sr [mt 68 0,mt 69 12,mt 70 7,nc 71 69,ib 72 16 1 71 70,lb 73 1 72,kl 74 214 [(.t 68),(.t 73)]] (sr [mn 4] .ret)) (sr [mt 76 5,aI 77 .lss 76 26,mt 75 77] (.cond (.t 75) (.regd [⟨2,0,mt 81 5⟩,⟨3,0,mt 82 12⟩,⟨4,0,mt 83 7⟩,⟨5,2,nc 84 82⟩,⟨6,14,ib 85 16 1 84 83⟩,⟨7,30,lb 86 1 85⟩,⟨8,0,mt 87 12⟩,⟨9,0,mt 88 8⟩,⟨10,64,nc 89 87⟩,⟨11,448,ib 90 16 1 89 88⟩,⟨12,960,lb 91 1 90⟩,⟨13,0,mt 92 12⟩,⟨14,0,mt 93 9⟩,⟨15,2048,nc 94 92⟩,⟨16,14336,ib 95 16 1 94 93⟩,⟨17,30720,lb 96 1 95⟩,⟨18,65535,kl 97 215 [(.t 81),(.t 86),(.t 91),(.t 96)]⟩,⟨0,0,mt 79 12⟩,⟨1,0,mt 80 6⟩,⟨19,131071,mt 78 97⟩,⟨20,655359,ee 98 78 0⟩,⟨22,131072,nc 100 79⟩,⟨23,4194303,ib 101 16 1 100 80⟩,⟨24,8388607,sb 1 101 98⟩,⟨21,655359,ee 99 78 1⟩]) (sr [mt 103 5,aI 104 .eql 103 26,mt 102 104] (.cond (.t 102) (.reg [mt 105 12,mt 106 6,mt 107 10,
  D0 108 .u64 107,nc 109 105,ib 110 16 1 109 106,sb 1 110 108]) (sr [mt 112 5,aI 113 .eql 112 27,mt 114 113,mg 115 114 false 5,A2 116 114 false (.ari .eql (.t 115) (cI 28)),
  BV 117 114 116,mt 111 117] (.cond (.t 111) (.seq (sr [mt 118 13,
  aU 119 .geq 118 8192] (.cond (.t 119) (sr [mt 120 0,kl 121 214 [(.t 120),(cU 18446744073709551614)]] (sr [mn 4] .ret)) .skip)) (sr [mt 122 5,aI 123 .eql 122 27] (.cond (.t 123) (.regd [⟨0,0,mt 124 12⟩,⟨1,0,mt 125 6⟩,⟨2,0,mt 126 0⟩,⟨3,0,mt 127 13⟩,⟨4,4,nc 128 126⟩,⟨5,20,fa 129 0 128⟩,⟨6,60,ib 130 8192 1 129 127⟩,⟨7,124,lb 131 1 130⟩,⟨8,1,nc 132 124⟩,⟨9,511,ib 133 16 1 132 125⟩,⟨10,1023,sb 1 133 131⟩]) (.regd [⟨0,0,mt 134 0⟩,⟨1,0,mt 135 13⟩,⟨2,0,mt 136 12⟩,⟨3,0,mt 137 8⟩,⟨4,4,nc 138 136⟩,⟨5,28,ib 139 16 1 138 137⟩,⟨6,60,lb 140 1 139⟩,⟨7,1,nc 141 134⟩,⟨8,129,fa 142 0 141⟩,⟨9,511,ib 143 8192 1 142 135⟩,⟨10,1023,sb 1 143 140⟩])))) (sr [mt 145 5,aI 146 .lss 145 34,mt 144 146] (.cond (.t 144) (sr [mt 147 0,mt 148 5,mt 149 6,mt 150 7,mt 151 10,
  D0 152 .u64 151,kl 153 216 [(.t 147),(.t 148),(.t 149),(.t 150),(.t 152)]] (sr [mn 4] .ret)) (.seq (.regd [⟨0,0,mt 155 0⟩,⟨1,0,mt 156 1⟩,⟨2,0,mt 157 5⟩,⟨3,0,mt 158 12⟩,⟨4,0,mt 159 7⟩,⟨5,8,nc 160 158⟩,⟨6,56,ib 161 16 1 160 159⟩,⟨7,120,lb 162 1 161⟩,⟨8,0,mt 163 12⟩,⟨9,0,mt 164 8⟩,⟨10,256,nc 165 163⟩,⟨11,1792,ib 166 16 1 165 164⟩,⟨12,3840,lb 167 1 166⟩,⟨13,8191,kl 168 217 [(.t 155),(.t 156),(.t 157),(.t 162),(.t 167)]⟩,⟨14,16383,A1 169 (.un .not (.t 168))⟩,⟨15,32767,mt 154 169⟩]) (.cond (.t 154) (sr [mn 4] .ret) .skip))))))))))))) (sr [mt 170 0,nc 171 170,fa 172 8208 171,lb 173 1 172,
  aU 174 .add 173 1,nc 175 170,fa 176 8208 175,sb 1 176 174] (sr [mn 4] .ret)))))))))))
def f70:LF:=⟨c70,2,0,177,[.tmp 4]⟩
def c71:LC:=(sr [mI 6 0,mn 7] (.seq (.block 0 (sr [mt 10 0,A1 11 (.eq false true .ptr (.t 10) (.c .nilp)),mt 12 11,mg 13 12 false 1,A2 14 12 false (.eq false true .ptr (.t 13) (.c .nilp)),
  BV 15 12 14,mt 9 15] (.cond (.t 9) (sr [A1 16 (.mkif 74 (cI 1)),
  mI 6 0,mt 7 16] .ret) (sr [mt 18 2,aI 19 .lss 18 0,mt 17 19] (.cond (.t 17) (sr [A1 20 (.mkif 74 (cI 2)),
  mI 6 0,mt 7 20] .ret) .skip))))) (sr [mI 8 0] (.seq (.block 1 (.loop (.seq (sr [mt 21 8,mt 22 2,ak 23 .lss 21 22,mt 24 23,mg 25 24 true 0,A2 26 24 true (.nilc (.t 25)),A2 27 24 true (.fadr 8209 (.t 26)),A2 28 24 true (.load false 1 (.t 27)),A2 29 24 true (.un .not (.t 28)),
  Fq 30 24 29]
 (Dd 30 1)) (.block 2 (sr [mt 31 0,mt 32 1,kl 33 70 [(.t 31),(.t 32)]] (.reg [mt 34 8,aI 35 .add 34 1,mt 8 35])))))) (sr [mt 36 8,mt 6 36,mn 7] .ret)))))
def f71:LF:=⟨c71,3,0,37,[.tmp 6,.tmp 7]⟩
def c75:LC:=(sr [A1 2 (.mv (.c .nils))] (sr [A1 3 (.mv (.c .nils))] (.seq (sr [mt 8 0,
  lN 9 0 8,
  mI 10 0] (.block 0 (.loop (sr [ak 11 .lss 10 9] (.seq (Dd 11 0) (.seq (.block 1 (sr [mt 12 10,ia 13 7 8 10,la 14 7 13,A1 5 (.alloc (.st (.cons (.int .i64) (.cons (.int .i64) (.cons (.int .i64) (.cons (.int .i64) (.cons (.int .i64) (.cons (.int .i64) (.cons (.int .u64) .nil))))))))),mt 4 12,sb 7 5 14] (.seq (sr [mt 15 4,aI 16 .geq 15 8192] (.cond (.t 16) (.exit 0) .skip)) (sr [fa 18 0 5,lb 19 1 18,fa 20 1 5,lb 21 1 20,
  D0 22 .u64 21,
  aU 23 .rem 22 16,
  D0 24 .i64 23,fa 25 2 5,lb 26 1 25,
  D0 27 .u64 26,
  aU 28 .rem 27 16,
  D0 29 .i64 28,fa 30 3 5,lb 31 1 30,
  D0 32 .u64 31,
  aU 33 .rem 32 16,
  D0 34 .i64 33,fa 35 4 5,lb 36 1 35,
  D0 37 .u64 36,
  aU 38 .rem 37 16,
  D0 39 .i64 38,fa 40 5 5,lb 41 1 40,kl 42 77 [(.t 19),(.t 24),(.t 29),(.t 34),(.t 39),(.t 41)],mt 17 42,ee 43 17 0,ee 44 17 1,mt 6 43,mt 7 44] (.seq (sr [mt 45 7,aI 46 .neq 45 0] (.cond (.t 46) (.reg [fa 47 6 5,lb 48 1 47,mt 6 48]) .skip)) (.reg [mt 49 3,mt 50 6,A1 51 (.bsl 1 1 (.int .u64) [(.i 1 0,1,(.t 50))]),
  aP 52 1 8 49 51,mt 3 52])))))) (.reg [aI 53 .add 10 1,mt 10 53]))))))) (sr [mt 54 3,mt 2 54] .ret))))
def f75:LF:=⟨c75,1,0,55,[.tmp 2]⟩
def c79:LC:=(sr [bX 1 0,
 mI 2 0,
 mI 3 0,
 mI 4 0,
 mI 5 0,
 mI 6 0,
 mI 7 0,A1 8 (.mv (.c (.bool false)))] (sr [lb 10 1 1,
  aU 11 .shr 10 56,
  D0 12 .i64 11,mt 2 12] (.seq (sr [mt 13 2,aI 14 .gtr 13 35,mt 15 14,A2 16 15 false (.load false 1 (.t 1)),A2 17 15 false (.ari .shr (.t 16) (cU 32)),A2 18 15 false (.ari .and (.t 17) (cU 255)),A2 19 15 false (.ari .neq (.t 18) (cU 0)),
  BV 20 15 19] (.cond (.t 20) (sr [mI 2 0,
  mI 3 0,
  mI 4 0,
  mI 5 0,
  mI 6 0,
  mI 7 0,A1 8 (.mv (.c (.bool false)))] .ret) .skip)) (sr [A1 21 (.mkfn 220 [(.t 1)]),mt 9 21] (.seq (.regd [⟨1,0,mt 23 9⟩,⟨2,1,⟨(some 24),.dyn (.t 23) [(cI 52)],none⟩⟩,⟨3,0,mt 25 9⟩,⟨4,7,⟨(some 26),.dyn (.t 25) [(cI 48)],none⟩⟩,⟨5,0,mt 27 9⟩,⟨6,31,⟨(some 28),.dyn (.t 27) [(cI 44)],none⟩⟩,⟨7,0,mt 29 9⟩,⟨8,127,⟨(some 30),.dyn (.t 29) [(cI 40)],none⟩⟩,⟨0,0,mt 22 2⟩,⟨9,0,lb 31 1 1⟩,⟨10,512,D0 32 .i32 31⟩,⟨11,1536,D0 33 .i64 32⟩,⟨12,511,mt 2 22⟩,⟨13,4607,mt 3 24⟩,⟨14,12799,mt 4 26⟩,⟨15,29183,mt 5 28⟩,⟨16,61951,mt 6 30⟩,⟨17,131071,mt 7 33⟩,⟨18,262143,A1 8 (.mv (.c (.bool true)))⟩]) .ret)))))
def f79:LF:=⟨c79,1,0,34,[.tmp 2,.tmp 3,.tmp 4,.tmp 5,.tmp 6,.tmp 7,.tmp 8]⟩
def Aig:LC:=.reg [mt 4 0,mt 5 0,mt 6 1,nc 7 4,fa 8 8209 7,A0 (.store 1 (.t 8) (.c (.bool true))),nc 9 5,fa 10 8210 9,sb 1 10 6]
def Axg:LF:=⟨Aig,2,0,11,[]⟩
def Age:LC:=(sr [mI 3 0] (sr [lb 4 1 1,mt 5 0,ak 6 .shr 4 5,
  aU 7 .and 6 15,
  D0 8 .i64 7,mt 3 8] .ret))
def Afl:LF:=⟨Age,1,1,9,[.tmp 3]⟩
def Us:LC:=(sr [mU 8 0,mn 9] (.seq (sr [mt 10 0] (.block 0 (.seq (.block 17 (.seq (.block 16 (.seq (.block 15 (.seq (.block 14 (.seq (.block 13 (.seq (.block 12 (.seq (.block 11 (.seq (.block 10 (.seq (.block 9 (.seq (.block 8 (.seq (.block 7 (.seq (.block 6 (.seq (.block 5 (.seq (.block 4 (.seq (.block 3 (.seq (.block 2 (.seq (.block 1 (.seq (.seq (sr [aI 12 .eql 10 1,mt 11 12] (.cond (.t 11) (.exit 1) .skip)) (.seq (sr [aI 14 .eql 10 2,mt 13 14] (.cond (.t 13) (.exit 2) .skip)) (.seq (sr [aI 16 .eql 10 3,mt 15 16] (.cond (.t 15) (.exit 3) .skip)) (.seq (.seq (sr [aI 18 .eql 10 4,mt 17 18] (.cond (.t 17) .skip (sr [aI 19 .eql 10 5,mt 17 19] (.cond (.t 17) .skip (sr [aI 20 .eql 10 6,mt 17 20] (.cond (.t 17) .skip (.reg [aI 21 .eql 10 7,mt 17 21]))))))) (.cond (.t 17) (.exit 4) .skip)) (.seq (.seq (sr [aI 23 .eql 10 8,mt 22 23] (.cond (.t 22) .skip (.reg [aI 24 .eql 10 9,mt 22 24]))) (.cond (.t 22) (.exit 5) .skip)) (.seq (sr [aI 26 .eql 10 10,mt 25 26] (.cond (.t 25) (.exit 6) .skip)) (.seq (.seq (sr [aI 28 .eql 10 11,mt 27 28] (.cond (.t 27) .skip (sr [aI 29 .eql 10 12,mt 27 29] (.cond (.t 27) .skip (sr [aI 30 .eql 10 13,mt 27 30] (.cond (.t 27) .skip (sr [aI 31 .eql 10 14,mt 27 31] (.cond (.t 27) .skip (.reg [aI 32 .eql 10 15,mt 27 32]))))))))) (.cond (.t 27) (.exit 7) .skip)) (.seq (sr [aI 34 .eql 10 17,mt 33 34] (.cond (.t 33) (.exit 8) .skip)) (.seq (sr [aI 36 .eql 10 16,mt 35 36] (.cond (.t 35) (.exit 9) .skip)) (.seq (sr [aI 38 .eql 10 19,mt 37 38] (.cond (.t 37) (.exit 10) .skip)) (.seq (sr [aI 40 .eql 10 18,mt 39 40] (.cond (.t 39) (.exit 11) .skip)) (.seq (sr [aI 42 .eql 10 21,mt 41 42] (.cond (.t 41) (.exit 12) .skip)) (.seq (sr [aI 44 .eql 10 20,mt 43 44] (.cond (.t 43) (.exit 13) .skip)) (.seq (sr [aI 46 .eql 10 22,mt 45 46] (.cond (.t 45) (.exit 14) .skip)) (.seq (sr [aI 48 .eql 10 23,mt 47 48] (.cond (.t 47) (.exit 15) .skip)) (.seq (sr [aI 50 .eql 10 25,mt 49 50] (.cond (.t 49) (.exit 16) .skip)) (sr [aI 52 .eql 10 24,mt 51 52] (.cond (.t 51) (.exit 17) .skip))))))))))))))))))
 (.exit 0))) (.seq (sr [mt 53 1,mt 54 2,ak 55 .add 53 54,mt 8 55,mn 9] .ret)
 (.exit 0)))) (.seq (sr [mt 56 1,mt 57 2,ak 58 .sub 56 57,mt 8 58,mn 9] .ret)
 (.exit 0)))) (.seq (sr [mt 59 1,mt 60 2,ak 61 .mul 59 60,mt 8 61,mn 9] .ret)
 (.exit 0)))) (.seq (sr [mt 62 0,mt 63 1,mt 64 2,kl 65 321 [(.t 62),(.t 63),(.t 64)],mt 8 65,mn 9] .ret)
 (.exit 0)))) (.seq (sr [mt 66 0,mt 67 1,mt 68 2,mt 69 3,kl 70 322 [(.t 66),(.t 67),(.t 68),(.t 69)],mt 8 70,mn 9] .ret)
 (.exit 0)))) (.seq (sr [mt 71 1,mt 72 2,kl 73 323 [(.t 71),(.t 72)],mt 8 73,mn 9] .ret)
 (.exit 0)))) (.seq (sr [mt 74 0,mt 75 1,mt 76 2,kl 77 324 [(.t 74),(.t 75),(.t 76)],mt 8 77,mn 9] .ret)
 (.exit 0)))) (.reg [mt 78 2,mt 79 1,mt 1 78,mt 2 79]))) (.seq (sr [mt 80 1,mt 81 2,ak 82 .lss 80 81,kl 83 325 [(.t 82)],mt 8 83,mn 9] .ret)
 (.exit 0)))) (.reg [mt 84 2,mt 85 1,mt 1 84,mt 2 85]))) (.seq (sr [mt 86 1,
  D0 87 .i64 86,mt 88 2,
  D0 89 .i64 88,ak 90 .lss 87 89,kl 91 325 [(.t 90)],mt 8 91,mn 9] .ret)
 (.exit 0)))) (.reg [mU 2 0]))) (.seq (sr [mt 92 1,mt 93 2,ak 94 .eql 92 93,kl 95 325 [(.t 94)],mt 8 95,mn 9] .ret)
 (.exit 0)))) (.seq (sr [mt 96 1,mt 97 2,ak 98 .and 96 97,mt 8 98,mn 9] .ret)
 (.exit 0)))) (.seq (sr [mt 99 1,mt 100 2,ak 101 .or 99 100,mt 8 101,mn 9] .ret)
 (.exit 0)))) (.reg [mU 2 18446744073709551615]))) (.seq (sr [mt 102 1,mt 103 2,ak 104 .xor 102 103,mt 8 104,mn 9] .ret)
 (.exit 0))))) (sr [A1 105 (.mkif 74 (cI 10)),
  mU 8 0,mt 9 105] .ret)))
def Avy:LF:=⟨Us,4,0,106,[.tmp 8,.tmp 9]⟩
end Mv
