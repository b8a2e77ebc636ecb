/- A part. -/
import Derived.Test.YtlfkjfonpacelaaGreatDoorEX
import Derived.Test.YtlfkjfonpacelaaGreatDoorEY
set_option linter.all false
set_option maxRecDepth 20000
set_option maxHeartbeats 4000000
namespace Mv
open Go
def Aka:LC:=(sr [aB 2 32] (sr [kl 6 418 [],mt 3 6] (sr [mt 7 3,mt 8 0,kl 9 419 [(.t 7),(.t 8)]] (sr [mt 11 3,kl 12 420 [(.t 11)],mt 10 12,ee 13 10 0,ee 14 10 1,
  aB 4 32,sb 32 4 13,mt 5 14] (sr [la 15 32 4,sb 32 2 15] .ret)))))
def Ak1:LF:=⟨Aka,1,0,16,[.cell 2 true 32]⟩
def Alv:LC:=(sr [A1 0 (.mv (.c .nilp))] (sr [A1 1 (.build (.st (.cons (.ar 25 (.int .u64)) (.cons .slice .nil))) []),
  bX 2 1,mt 0 2] .ret))
def Als:LF:=⟨Alv,0,0,3,[.tmp 0]⟩
def Amo:LC:=(sr [mn 4] (.seq (sr [mt 5 0,A1 6 (.eq false true .ptr (.t 5) (.c .nilp))] (.cond (.t 6) (sr [A1 7 (.mkif 74 (cI 1)),mt 4 7] .ret) .skip)) (sr [mt 8 0,mt 9 0,nc 10 9,fa 11 25 10,lb 12 1 11,mt 13 1,
  aP 14 1 1 12 13,nc 15 8,fa 16 25 15,sb 1 16 14] (.seq (.block 0 (.loop (.seq (sr [mt 17 0,nc 18 17,fa 19 25 18,lb 20 1 19,
  lN 21 0 20,aI 22 .geq 21 136]
 (EQ 22 0)) (.block 1 (.seq (.regd [⟨1,0,mt 24 0⟩,⟨2,1,nc 25 24⟩,⟨3,3,fa 26 0 25⟩,⟨4,7,la 27 25 26⟩,⟨5,0,mt 28 0⟩,⟨6,16,nc 29 28⟩,⟨7,48,fa 30 25 29⟩,⟨8,112,lb 31 1 30⟩,⟨9,240,A1 32 (.slsl 1 (.t 31) none (some (cI 136)))⟩,⟨10,511,kl 33 318 [(.t 27),(.t 32)]⟩,⟨0,0,mt 23 0⟩,⟨11,2047,nc 34 23⟩,⟨12,4095,fa 35 0 34⟩,⟨13,8191,sb 25 35 33⟩]) (.reg [mt 36 0,mt 37 0,nc 38 37,fa 39 25 38,lb 40 1 39,A1 41 (.slsl 1 (.t 40) (some (cI 136)) none),kl 42 277 [(.t 41)],nc 43 36,fa 44 25 43,sb 1 44 42])))))) (sr [mn 4] .ret)))))
def Am8:LF:=⟨Amo,2,0,45,[.tmp 4]⟩
def Anp:LC:=(sr [aB 2 32,mn 3] (.seq (sr [mt 5 0,A1 6 (.eq false true .ptr (.t 5) (.c .nilp))] (.cond (.t 6) (sr [A1 7 (.build (.ar 32 (.int .u8)) []),A1 8 (.mkif 74 (cI 1)),sb 32 2 7,mt 3 8] .ret) .skip)) (sr [A1 9 (.mksl 1 1 (.int .u8) (cI 136) (cI 136)),mt 4 9] (sr [mt 10 4,mt 11 0,nc 12 11,fa 13 25 12,lb 14 1 13,A1 15 (.copy 1 (.t 10) (.t 14))] (sr [mt 16 4,mt 17 0,nc 18 17,fa 19 25 18,lb 20 1 19,
  lN 21 0 20,ia 22 1 16 21,lb 23 1 22,A1 24 (.ari .xor (.t 23) (.c (.int .u8 1))),ia 25 1 16 21,sb 1 25 24] (sr [mt 26 4,
  iJ 27 1 26 135,lb 28 1 27,A1 29 (.ari .xor (.t 28) (.c (.int .u8 128))),
  iJ 30 1 26 135,sb 1 30 29] (sr [mt 31 0,nc 32 31,fa 33 0 32,la 34 25 33,mt 35 4,kl 36 318 [(.t 34),(.t 35)],kl 37 317 [(.t 36)],sb 32 2 37,mn 3] .ret)))))))
def Aj6:LF:=⟨Anp,1,0,38,[.cell 2 true 32,.tmp 3]⟩
def Alb:LC:=(sr [mU 2 0] (sr [mU 3 0] (.seq (sr [mt 6 0,A1 7 (.slsl 1 (.t 6) none (some (cI 8))),
  lN 8 0 7,
  mI 9 0] (.block 0 (.loop (sr [ak 10 .lss 9 8] (.seq (EQ 10 0) (.seq (.block 1 (sr [ia 11 1 7 9,lb 12 1 11,mt 5 12] (.reg [mt 13 3,
  aU 14 .shl 13 8,mt 15 5,
  Ep 16 .u64 15,ak 17 .or 14 16,mt 3 17]))) (.reg [aI 18 .add 9 1,mt 9 18]))))))) (sr [mt 19 3,mt 2 19] .ret))))
def Ajp:LF:=⟨Alb,1,0,20,[.tmp 2]⟩
def Agt:LC:=(sr [A1 4 (.mv (.c .nils))] (sr [aB 5 8] (sr [A1 6 (.slarr 8 1 (.t 5) none none),mt 7 1,kl 8 312 [(.t 6),(.t 7)]] (sr [mt 9 0,A1 10 (.slarr 8 1 (.t 5) none none),
  aP 11 1 1 9 10,mt 4 11] .ret))))
def Agm:LF:=⟨Agt,2,0,12,[.tmp 4]⟩
def c68:LC:=(sr [A1 0 (.mv (.c .nilp))] (sr [A1 5 (.mkmap (.ar 32 (.int .u8)) (.ar 64 (.int .u8))),A1 6 (.mkmap (.ar 32 (.int .u8)) (.ar 64 (.int .u8))),A1 7 (.build (.st (.cons .map (.cons (.ar 64 (.int .u8)) (.cons (.ar 64 (.int .u8)) (.cons .bool .nil))))) [(.f 0,1,(.t 6))]),
  bX 8 7,A1 9 (.mkmap (.ar 32 (.int .u8)) .bool),A1 10 (.build (.st (.cons .map (.cons .ptr (.cons .map (.cons .slice .nil))))) [(.f 0,1,(.t 5)),(.f 1,1,(.t 8)),(.f 2,1,(.t 9))]),
  bX 11 10,mt 1 11] (.seq (sr [mI 12 0] (.block 0 (.loop (sr [aI 13 .lss 12 16] (.seq (EQ 13 0) (.seq (.block 1 (sr [mt 14 12,mt 2 14] (sr [mt 16 2,kl 17 197 [(.t 16)],mt 15 17,ee 18 15 0,ee 19 15 1,
  aB 3 32,sb 32 3 18,mt 4 19] (.reg [mt 20 1,la 21 32 3,la 22 32 3,kl 23 213 [(.t 21),(.t 22)],kl 24 212 [(.t 20),(.t 23)]])))) (.reg [aI 25 .add 12 1,mt 12 25]))))))) (sr [mt 26 1,mt 0 26] .ret))))
def f68:LF:=⟨c68,0,0,27,[.tmp 0]⟩
def Ahy:LC:=(sr [bX 3 1,
 aB 4 32,mn 5] (.seq (sr [mt 7 0,A1 8 (.eq false true .ptr (.t 7) (.c .nilp))] (.cond (.t 8) (sr [A1 9 (.build (.ar 32 (.int .u8)) []),A1 10 (.mkif 74 (cI 1)),sb 32 4 9,mt 5 10] .ret) .skip)) (sr [A1 11 (.slarr 64 1 (.t 3) none none),kl 12 319 [(.t 11)],
  aB 6 32,sb 32 6 12] (.seq (.regd [⟨0,0,mt 13 0⟩,⟨1,1,nc 14 13⟩,⟨2,3,fa 15 0 14⟩,⟨3,7,lb 16 1 15⟩,⟨4,0,la 17 32 6⟩,⟨5,0,la 18 64 3⟩,⟨6,63,A0 (.mupd (.ar 32 1 false .int) (.t 16) (.t 17) (.t 18))⟩]) (.seq (.regd [⟨0,0,mt 19 0⟩,⟨1,1,nc 20 19⟩,⟨2,3,fa 21 1 20⟩,⟨3,7,lb 22 1 21⟩,⟨4,0,la 23 32 6⟩,⟨5,0,la 24 64 3⟩,⟨6,63,kl 25 320 [(.t 22),(.t 23),(.t 24)]⟩]) (sr [la 26 32 6,sb 32 4 26,mn 5] .ret))))))
def Af3:LF:=⟨Ahy,2,0,27,[.cell 4 true 32,.tmp 5]⟩
def Al2:LC:=(sr [bX 2 0,
 bX 3 1,
 aB 4 64] (sr [aB 5 64] (.seq (.regd [⟨0,0,A1 6 (.slarr 64 1 (.t 5) none (some (cI 32)))⟩,⟨1,0,A1 7 (.slarr 32 1 (.t 2) none none)⟩,⟨2,3,A1 8 (.copy 1 (.t 6) (.t 7))⟩]) (.seq (.regd [⟨0,0,A1 9 (.slarr 64 1 (.t 5) (some (cI 32)) none)⟩,⟨1,0,A1 10 (.slarr 32 1 (.t 3) none none)⟩,⟨2,3,A1 11 (.copy 1 (.t 9) (.t 10))⟩]) (sr [la 12 64 5,sb 64 4 12] .ret)))))
def Anw:LF:=⟨Al2,2,0,13,[.cell 4 true 64]⟩
def Yb:LC:=(sr [bX 4 1,
 bX 5 2] (.seq (.regd [⟨0,0,mt 9 0⟩,⟨1,1,nc 10 9⟩,⟨2,3,fa 11 0 10⟩,⟨3,7,lb 12 1 11⟩,⟨4,0,la 13 32 4⟩,⟨5,31,A1 14 (.mlook (.ar 32 1 false .int) (.ar 64 (.int .u8)) true (.t 12) (.t 13))⟩,⟨6,63,mt 8 14⟩,⟨7,127,ee 15 8 0⟩,⟨9,0,aB 6 64⟩,⟨10,511,sb 64 6 15⟩,⟨8,127,ee 16 8 1⟩,⟨11,2047,mt 7 16⟩]) (sr [mt 17 7,A1 18 (.un .not (.t 17))] (.cond (.t 18) (.regd [⟨0,0,mt 19 0⟩,⟨1,1,nc 20 19⟩,⟨2,3,fa 21 0 20⟩,⟨3,7,lb 22 1 21⟩,⟨4,0,la 23 32 4⟩,⟨5,0,la 24 64 5⟩,⟨6,63,A0 (.mupd (.ar 32 1 false .int) (.t 22) (.t 23) (.t 24))⟩]) (sr [la 25 64 6,la 26 64 5,A1 27 (.eq true false (.ar 64 1 false .int) (.t 25) (.t 26)),mt 28 27,mg 29 28 true 0,A2 30 28 true (.nilc (.t 29)),A2 31 28 true (.fadr 129 (.t 30)),A2 32 28 true (.load false 1 (.t 31)),A2 33 28 true (.un .not (.t 32)),
  Ju 34 28 33] (.cond (.t 34) (.regd [⟨0,0,mt 35 0⟩,⟨3,0,la 38 64 6⟩,⟨5,3,nc 40 35⟩,⟨6,7,fa 41 1 40⟩,⟨7,15,sb 64 41 38⟩,⟨1,0,mt 36 0⟩,⟨4,0,la 39 64 5⟩,⟨8,127,nc 42 36⟩,⟨9,255,fa 43 65 42⟩,⟨10,511,sb 64 43 39⟩,⟨2,0,mt 37 0⟩,⟨11,2047,nc 44 37⟩,⟨12,4095,fa 45 129 44⟩,⟨13,8191,A0 (.store 1 (.t 45) (.c (.bool true)))⟩]) .skip))))))
def WA:LF:=⟨Yb,3,0,46,[]⟩
def TX:LC:=(sr [bX 3 1,
 aB 4 64,mn 5] (.seq (sr [mt 8 0,A1 9 (.eq false true .ptr (.t 8) (.c .nilp))] (.cond (.t 9) (sr [A1 10 (.build (.ar 64 (.int .u8)) []),A1 11 (.mkif 74 (cI 1)),sb 64 4 10,mt 5 11] .ret) .skip)) (.seq (.seq (.regd [⟨0,0,mt 12 0⟩,⟨1,1,nc 13 12⟩,⟨2,3,fa 14 2 13⟩,⟨3,7,lb 15 1 14⟩,⟨4,0,la 16 32 3⟩,⟨5,31,A1 17 (.mlook (.ar 32 1 false .int) .bool false (.t 15) (.t 16))⟩,⟨6,63,A1 18 (.un .not (.t 17))⟩]) (.cond (.t 18) (.seq (.regd [⟨0,0,mt 19 0⟩,⟨1,1,nc 20 19⟩,⟨2,3,fa 21 2 20⟩,⟨3,7,lb 22 1 21⟩,⟨4,0,la 23 32 3⟩,⟨5,31,A0 (.mupd (.ar 32 1 false .int) (.t 22) (.t 23) (.c (.bool true)))⟩])
 (.regd [⟨1,0,mt 25 0⟩,⟨2,1,nc 26 25⟩,⟨3,3,fa 27 3 26⟩,⟨4,7,lb 28 1 27⟩,⟨5,0,la 29 32 3⟩,⟨6,16,A1 30 (.bsl 32 1 (.ar 32 (.int .u8)) [(.i 32 0,32,(.t 29))])⟩,⟨7,63,aP 31 32 32 28 30⟩,⟨0,0,mt 24 0⟩,⟨8,255,nc 32 24⟩,⟨9,511,fa 33 3 32⟩,⟨10,1023,sb 1 33 31⟩])) .skip)) (.seq (.regd [⟨0,0,mt 35 0⟩,⟨1,1,nc 36 35⟩,⟨2,3,fa 37 0 36⟩,⟨3,7,lb 38 1 37⟩,⟨4,0,la 39 32 3⟩,⟨5,31,A1 40 (.mlook (.ar 32 1 false .int) (.ar 64 (.int .u8)) true (.t 38) (.t 39))⟩,⟨6,63,mt 34 40⟩,⟨7,127,ee 41 34 0⟩,⟨9,0,aB 6 64⟩,⟨10,511,sb 64 6 41⟩,⟨8,127,ee 42 34 1⟩,⟨11,2047,mt 7 42⟩]) (.seq (sr [mt 43 7,A1 44 (.un .not (.t 43))] (.cond (.t 44) (sr [A1 45 (.build (.ar 64 (.int .u8)) []),A1 46 (.mkif 74 (cI 14)),sb 64 4 45,mt 5 46] .ret) .skip)) (sr [la 47 64 6,sb 64 4 47,mn 5] .ret))))))
def TI:LF:=⟨TX,2,0,48,[.cell 4 true 64,.tmp 5]⟩
def c72:LC:=(sr [mI 2 0] (.seq (sr [mt 3 0,A1 4 (.eq false true .ptr (.t 3) (.c .nilp))] (.cond (.t 4) (sr [mI 2 0] .ret) .skip)) (sr [mt 5 0,nc 6 5,fa 7 0 6,lb 8 1 7,
  lN 9 2 8,mt 2 9] .ret)))
def f72:LF:=⟨c72,1,0,10,[.tmp 2]⟩
variable {M:Seat}
structure OkH (M:Seat):Prop where
 k319:Av M 319 Ak1=true
 k418:Av M 418 Als=true
 k419:Av M 419 Am8=true
 k420:Av M 420 Aj6=true
def JL (p:Nat→BitVec 8) (j:Nat):BitVec 8:=if j < 64 then p j else if j=64 then 1 else if j=135 then 128 else 0
def GR (s:List (BitVec 64)) (rest:V):V:=.st 26 (.fcons 0 (.ar 1 25 (ws s)) (.fcons 25 rest .fnil))
def zst:List (BitVec 64):=List.replicate 25 0
theorem Aec (j:Nat):zst.getD j 0=0:=by
 simp only [zst,List.getD,List.getElem?_replicate];split <;> rfl
def Cf (p:Nat→BitVec 8):Dg:=WF (Ly zst (JL p))
theorem UN (ok:OkH M):Af M 418 [] [] 0 (Q3 (.ptr 0 []) [(0,GR zst .nils)] 1):=by
 refine Ab ok.k418 rfl fun x hx=>?_
 refine es 2000 ?_;(simp only [Als,Alv,LZ,seval])
 refine Ll hx [32] (.ptr 0 []) ([(0,GR zst .nils)]) 1 ?_
 simp only [GR,LY,seval]
 exact fun i _=>(Aec i).symm
theorem Vm (ok:OkH M) (s:List (BitVec 64)) (p:Nat→BitVec 8) :
 Af M 419 [.ptr 0 [],.lst 1 64 (fun j=>B (p j))] [(0,GR s .nils)] 1 (Q3 .nili [(0,GR s (.sl 1 [] 0 64 1)),(1,.ar 1 64 (fun j=>B (p j)))] 2):=by
 refine Ab ok.k419 rfl fun x hx=>?_
 refine es 2000 ?_;(simp only [Am8,Amo,GR,LZ,seval])
 refine Au ?_
 refine es 2000 ?_
 (simp only [LZ,seval])
 refine Ll hx [0,145] (.nili) ([(0,GR s (.sl 1 [] 0 64 1)),(1,.ar 1 64 (fun j=>B (p j)))]) 2 ?_
 simp only [GR,LY,seval]
theorem Uf (okA:OkM M) (ok:OkH M) (s:List (BitVec 64)) (p:Nat→BitVec 8) :
 Af M 420 [.imm (GR s (.lst 1 64 (fun j=>B (p j))))] [] 0 (Q3 (Ah (dg (WF (Ly s (JL p)))) .nili) [] 0):=by
 refine Ab ok.k420 rfl fun x hx=>?_
 have m1:min 64 136=64:=rfl
 have m2:∀ i:Nat,(0≤i)=True:=fun i=>eq_true (Nat.zero_le i)
 refine es 2000 ?_;(simp only [Aj6,Anp,GR,m1,m2,LZ,seval])
 refine cpK (G0 okA s (JL p)) (by (try simp only [Mz,LY,seval]) <;> first | exact q1 | ((intro j hj;simp only [JL];repeat' split <;> first | omega | rfl | simp_all | (subst_vars;rfl)))) (by simp only [Mz,LX]) ?_
 (simp only [LZ,seval])
 refine Ai (IA okA (Ly s (JL p))) ?_
 (simp only [LZ,seval])
 refine Ap.mk hx [] [] (Ah (dg (WF (Ly s (JL p)))) .nili) [] 0 Aj (by (simp only [DS,seval])) (by (try simp only [Oh,seval]) <;> exact q2) trivial ⟨rfl,rfl,rfl⟩
theorem GP (okA:OkM M) (ok:OkH M) (p:Nat→BitVec 8) :
 Af M 319 [.lst 1 64 (fun j=>B (p j))] [] 0 (Q3 (dg (Cf p)) [] 0):=by
 refine Ab ok.k319 rfl fun x hx=>?_
 refine es 2000 ?_;(simp only [Ak1,Aka,LZ,seval])
 have zz:=@GR.eq_1;refine Ia (UN ok) ?_
 (simp only [GR,LZ,seval])
 have zz:=@GR.eq_1;refine FA [16] (Vm ok zst p) ?_
 (simp only [GR,LZ,seval])
 have zz:=@GR.eq_1;refine CV (Uf okA ok zst p) ?_
 (simp only [BV,seval])
 refine Ap.mk hx [] [] (dg (WF (Ly zst (JL p)))) [] 0 Aj (by (simp only [DS,seval])) (by (try simp only [Oh,seval]) <;> exact q2) trivial ⟨rfl,rfl,rfl⟩
variable {M:Seat}
structure OkS (M:Seat):Prop extends OkH M where
 k68:Av M 68 f68=true
 k212:Av M 212 Af3=true
 k213:Av M 213 Anw=true
 k320:Av M 320 WA=true
 k328:Av M 328 TI=true
def P3 (a b:Dg):Pr:=Pr.mk' fun j=>if j < 32 then a.at j else b.at (j - 32)
theorem O5 (ok:OkS M) (a b:Dg):Af M 213 [dg a,dg b] [] 0 (Q3 (A9 (P3 a b)) [] 0):=by
 refine Ab ok.k213 rfl fun x hx=>?_
 have m1:min 32 32=32:=rfl
 have m2:∀ i:Nat,(0≤i)=True:=fun i=>eq_true (Nat.zero_le i)
 refine es 2000 ?_;(simp only [Anw,Al2,BA,m1,m2,Mz,seval])
 refine Ap.mk hx [] [] (A9 (P3 a b)) [] 0 Aj (by simp only [En,HK,E6,LZ,seval]) ?_ trivial ⟨rfl,rfl,rfl⟩
 simp only [En,E6,A9,LZ,seval,LY]
 intro j hj
 rw [P3,Pr.at_mk' _ _ hj]
 by_cases h:j < 32
 ·rw [if_neg Aa,if_pos h,if_pos h]
 ·rw [if_pos Aa,if_neg h]
def Aw (ev:Nat) (a b:Pr) (met:Bool):V:=.st 130 (.fcons 0 (.map ev) (.fcons 1 (A9 a) (.fcons 65 (A9 b) (.fcons 129 (.bool met) .fnil))))
structure WS where
 pres:List (Dg × Pr)
 ever:List (Dg × Pr)
 a:Pr
 b:Pr
 met:Bool
def WS.kin (w:WS) (h:Dg) (p:Pr):WS:=match Dt h w.ever with
 | none=>{ w with ever:=CW h p w.ever }
 | some q=>if ¬ q=p∧w.met=false then { w with a:=q,b:=p,met:=true } else w
theorem OC (ok:OkS M) (w:WS) (h:Dg) (p:Pr) :
 Af M 320 [.ptr 0 [],dg h,A9 p] [(0,Aw 1 w.a w.b w.met),(1,Bd A9 Pr.zero w.ever)] 2
  (Q3 (.tup .fnil) [(0,Aw 1 (w.kin h p).a (w.kin h p).b (w.kin h p).met),(1,Bd A9 Pr.zero (w.kin h p).ever)] 2):=by
 refine Ab ok.k320 rfl fun x hx=>?_
 cases hl:Dt h w.ever with
 | none =>
   refine es 2000 ?_;(simp only [WA,Yb,Aw,hl,BA,seval])
   have e:w.kin h p={ w with ever:=CW h p w.ever }:=by simp only [WS.kin,hl]
   rw [e]
   refine Ll hx [0,1] (.tup .fnil) ([(0,Aw 1 w.a w.b w.met),(1,Bd A9 Pr.zero (CW h p w.ever))]) 2 ?_
   simp only [Aw,Cm,seval]
 | some q =>
   by_cases hq:q=p
   ·have e:w.kin h p=w:=by simp only [WS.kin,hl,hq,not_true_eq_false,false_and,if_false]
    refine es 2000 ?_;(simp only [WA,Yb,Aw,hl,hq,BA,seval])
    rw [e]
    refine Ll hx [0,1] (.tup .fnil) ([(0,Aw 1 w.a w.b w.met),(1,Bd A9 Pr.zero w.ever)]) 2 ?_
    simp only [Aw,Cm,seval]
   ·cases hm:w.met with
    | true =>
      have e:w.kin h p=w:=by simp [WS.kin,hl,hm]
      refine es 2000 ?_;(simp only [WA,Yb,Aw,hl,hq,BA,hm,seval])
      rw [e]
      refine Ll hx [0,1] (.tup .fnil) ([(0,Aw 1 w.a w.b w.met),(1,Bd A9 Pr.zero w.ever)]) 2 ?_
      simp only [Aw,hm,Cm,seval]
    | false =>
      have e:w.kin h p={ w with a:=q,b:=p,met:=true }:=by simp [WS.kin,hl,hm,hq]
      refine es 2000 ?_;(simp only [WA,Yb,Aw,hl,hq,BA,hm,seval])
      rw [e]
      refine Ll hx [0,1] (.tup .fnil) ([(0,Aw 1 q p true),(1,Bd A9 Pr.zero w.ever)]) 2 ?_
      simp only [Aw,hm,Cm,seval]
def I9 (va:V):V:=.st 4 (.fcons 0 (.map 1) (.fcons 1 (.ptr 2 []) (.fcons 2 (.map 4) (.fcons 3 va .fnil))))
def Jl:=(Bc @Aw.eq_1 @I9.eq_1)
def F7 (w:WS) (va:V):Hp:=[(0,I9 va),(1,Bd A9 Pr.zero w.pres),(2,Aw 3 w.a w.b w.met),(3,Bd A9 Pr.zero w.ever)]
def WS.add (w:WS) (p:Pr):WS:=({ w with pres:=CW (Cf p.at) p w.pres }:WS).kin (Cf p.at) p
theorem OM (w:WS) (h:Dg) (p:Pr):(w.kin h p).pres=w.pres:=by
 unfold WS.kin;split <;> (try split) <;> rfl
theorem XR (w:WS) (l:List (Dg × Pr)) (h:Dg) (p:Pr):({ w with pres:=l }:WS).kin h p={ w.kin h p with pres:=l }:=by
 unfold WS.kin;dsimp only;split <;> (try split) <;> rfl
theorem Mu (okA:OkM M) (ok:OkS M) (w:WS) (p:Pr)  :
 Af M 212 [.ptr 0 [],A9 p] (F7 w (.nils)) 5 (Q3 (Ah (dg (Cf p.at)) .nili) (F7 (w.add p) (.nils)) 5):=by
 refine Ab ok.k212 rfl fun x hx=>?_
 have e:w.add p={ w.kin (Cf p.at) p with pres:=CW (Cf p.at) p w.pres }:=by rw [WS.add,XR]
 refine es 2000 ?_;(simp only [Af3,Ahy,F7,I9,BA,seval])
 have zz:=@A9.eq_1;refine CV (GP okA ok.toOkH p.at) ?_
 (simp only [BA,seval])
 have zz:=Bc @Ce @Aw.eq_1;refine QN [2,3] (OC ok w (Cf p.at) p) ?_
 (simp only [BA,Aw,seval])
 refine Ll hx [0,1,2,3,4] (Ah (dg (Cf p.at)) .nili) (F7 (w.add p) (.nils)) 5 ?_
 all_goals simp only [F7,Jl,e,Cm,seval]
theorem Uz (okA:OkM M) (ok:OkS M) (w:WS) (p:Pr) (n:Nat) :
 Af M 212 [.ptr 0 [],A9 p] (F7 w (.sl 5 [] 0 n 32)) 6 (Q3 (Ah (dg (Cf p.at)) .nili) (F7 (w.add p) (.sl 5 [] 0 n 32)) 6):=by
 refine Ab ok.k212 rfl fun x hx=>?_
 have e:w.add p={ w.kin (Cf p.at) p with pres:=CW (Cf p.at) p w.pres }:=by rw [WS.add,XR]
 refine es 2000 ?_;(simp only [Af3,Ahy,F7,I9,BA,seval])
 have zz:=@A9.eq_1;refine CV (GP okA ok.toOkH p.at) ?_
 (simp only [BA,seval])
 have zz:=Bc @Ce @Aw.eq_1;refine QN [2,3] (OC ok w (Cf p.at) p) ?_
 (simp only [BA,Aw,seval])
 refine Ll hx [0,1,2,3,4,5] (Ah (dg (Cf p.at)) .nili) (F7 (w.add p) (.sl 5 [] 0 n 32)) 6 ?_
 all_goals simp only [F7,Jl,e,Cm,seval]
def Gv:Nat→WS
 | 0=>⟨[],[],Pr.zero,Pr.zero,false⟩
 | n + 1=>(Gv n).add (P3 (At n) (At n))
def BD (l:List (Dg × Bool)):V:=Bd V.bool false l
def AF (w:WS) (va:V) (l:List (Dg × Bool)):Hp:=[(0,I9 va),(1,Bd A9 Pr.zero w.pres),(2,Aw 3 w.a w.b w.met),(3,Bd A9 Pr.zero w.ever),(4,BD l)]
def Jj:=(N8 @List.cons_append.{0} @List.nil_append.{0} @Aw.eq_1 @AF.eq_1 @I9.eq_1)
def ID:=(Bc @Jj @mach.eq_1)
def Ge:=(Bc @ID @BA)
theorem Ay (H:Hp) (m z:List Nat) (l:List (Dg × Bool)):Ar H m z (BD l) (BD l)=True:=eq_true (Gm H m z V.bool (fun _=>rfl) false l)
def Laa:=(CC @Ce @Ay @dg.eq_1)
def DN:=(Bc @LY @Laa)
theorem DW (l:List (Dg × Bool)):A7 (BD l)=True:=eq_true (Om V.bool (fun _=>trivial) false l)
def EZ:=(Bc @Laa @DW)
theorem Am (m:List Nat) (l:List (Dg × Bool)):(BD l).ren m=BD l:=Tt m V.bool (fun _=>rfl) false l
def Lbh:=(CC @Jj @Dq @Am)
theorem PH (okA:OkM M) (ok:OkS M):Af M 68 [] [] 0 (Q3 (.ptr 0 []) (AF (Gv 16) .nils []) 5):=by
 refine Ab ok.k68 rfl fun x hx=>?_
 refine es 2000 ?_;(simp only [f68,c68,BA,seval])
 refine An (σ:=Nat) (fun n=>n≤16) (fun n=>fr 27 [(1,.ptr 0 []),(12,.int .i64 n)]) (fun n=>AF (Gv n) .nils []) (fun _=>5) (fun n=>16 - n) 0 Aa ?_ ?_
 ·refine Ak.fr [112,16,64,32,80] [] hx AQ Aj ?_ ?_
  ·simp only [LY,seval]
  ·simp only [AF,Jl,Gv,BD,N3,Cm,seval]
 ·intro n hn
  refine es 2000 ?_
  by_cases h16:n=16
  ·subst h16
   (simp only [LZ,seval])
   refine Ll hx [0,1,2,3,4] (.ptr 0 []) (AF (Gv 16) .nils []) 5 ?_
   all_goals simp only [AF,Jl,Ay,Cm,seval]
  ·have d0:((n:Int) < 16)=True:=eq_true Aa
   have w0:IntKind.i64.wrap ((n:Int) + 1)=((n + 1:Nat):Int):=Bw
   (simp only [d0,AF,LZ,seval])
   refine Ai (UT okA n Aa) ?_
   (simp only [BV,seval])
   have zz:=@Ce;refine CV (O5 ok (At n) (At n)) ?_
   (simp only [BA,seval])
   have zz:=CC @Ce @F7.eq_1 Jl;refine Zg [0,1,2,3,4] [0,1,2,3] (Mu okA ok (Gv n) (P3 (At n) (At n))) ?_
   (simp only [Dq,F7,Jl,Ay,Am,w0,seval])
   refine ⟨n + 1,by omega,by omega,?_⟩
   refine Ak.fr [0,1,2,3,4] [] hx AQ Aj ?_ ?_
   ·simp only [LY,seval]
   ·simp only [AF,Jl,Gv,Ay,Cm,seval]
variable {M:Seat}
structure OkV (M:Seat):Prop extends OkS M where
 k70:Av M 70 OQ=true
 k71:Av M 71 f71=true
 k79:Av M 79 f79=true
 k214:Av M 214 Ajn=true
 k216:Av M 216 Ams=true
 k220:Av M 220 Aj5=true
 fn220:GL M 220
def BS (w:BitVec 64):Nat:=(w >>> 56).toNat
def pF (w:BitVec 64) (k:Nat):Nat:=(w >>> k &&& 15#64).toNat
def pN (w:BitVec 64):Int:=(w.setWidth 32).toInt
theorem Ob (w:BitVec 64):(w >>> 56).toInt=(BS w:Int):=by
 have h:(w >>> 56).toNat < 256:=by rw [BitVec.toNat_ushiftRight,Nat.shiftRight_eq_div_pow];have:=w.isLt;omega
 rw [BitVec.toInt_eq_toNat_cond,if_pos Aa];rfl
theorem Ao (w:BitVec 64) (k:Nat):pF w k < 16:=by
 rw [pF,BitVec.toNat_and]
 exact Nat.lt_of_le_of_lt Nat.and_le_right Aj
theorem Agj (w:BitVec 64) (k:Nat):(w >>> k &&& 15#64).toInt=(pF w k:Int):=by
 have h:=Ao w k
 rw [BitVec.toInt_eq_toNat_cond,if_pos (by unfold pF at h;omega)];rfl
theorem B9 (ok:OkV M) (f g:Nat→BitVec 64) (pc:BitVec 64) (hl:Bool) (xt e:BitVec 64) :
 Af M 214 [.ptr 0 [],W e] [(0,mach f g pc hl xt)] 1 (Q3 (.tup .fnil) [(0,mach f g pc true e)] 1):=by
 refine Ab ok.k214 rfl fun x hx=>?_
 refine es 2000 ?_;(simp only [Ajn,Anz,C7,seval])
 refine Ll hx [0] (.tup .fnil) ([(0,mach f g pc true e)]) 1 ?_
 all_goals simp only [mach,LY,seval]
theorem Fd (ok:OkV M) (w:BitVec 64) (k:Nat):Af M 220 [.int .i64 k,.imm (W w)] [] 0 (Q3 (.int .i64 (pF w k:Nat)) [] 0):=by
 refine Ab ok.k220 rfl fun x hx=>?_
 refine es 2000 ?_;(simp only [Aj5,Aol,LZ,seval])
 simp only [Agj]
 repeat refine sd ?_
 refine Ap.mk hx [] [] (.int .i64 (pF w k:Nat)) [] 0 Aj (by (simp only [DS,seval])) (by (try simp only [Oh,seval]) <;> exact q2) trivial ⟨rfl,rfl,rfl⟩
def Bn (w:BitVec 64):V:=.tup (.fcons 0 (.int .i64 (BS w)) (.fcons 1 (.int .i64 (pF w 52)) (.fcons 2 (.int .i64 (pF w 48)) (.fcons 3 (.int .i64 (pF w 44)) (.fcons 4 (.int .i64 (pF w 40)) (.fcons 5 (.int .i64 (pN w)) (.fcons 6 (.bool true) .fnil)))))))
def He:=(Bc @LZ @Bn.eq_1)
theorem A6 (ok:OkV M) (w:BitVec 64) (h1:BS w≤35) (h2:w >>> 32 &&& 255#64=0#64):Af M 79 [W w] [] 0 (Q3 (Bn w) [] 0):=by
 refine Ab ok.k79 rfl fun x hx=>?_
 have e1:((35:Int) < (BS w:Int))=False:=eq_false Aa
 refine es 2000 ?_;(simp only [f79,c79,Ob,e1,h2,LZ,seval])
 have wn:IntKind.i64.wrap (w.setWidth 32).toInt=pN w:=by
  have h1:=BitVec.toInt_lt (x:=w.setWidth 32)
  have h2:=BitVec.le_toInt (x:=w.setWidth 32)
  rw [B5 Aa];rfl
 refine oyK (ok.fn220) (Fd ok w 52) (by (try simp only [LY,seval]) <;> exact q1) (by simp only [LX]) ?_
 (simp only [LZ,seval])
 refine oyK (ok.fn220) (Fd ok w 48) (by (try simp only [LY,seval]) <;> exact q1) (by simp only [LX]) ?_
 (simp only [LZ,seval])
 refine oyK (ok.fn220) (Fd ok w 44) (by (try simp only [LY,seval]) <;> exact q1) (by simp only [LX]) ?_
 (simp only [LZ,seval])
 refine oyK (ok.fn220) (Fd ok w 40) (by (try simp only [LY,seval]) <;> exact q1) (by simp only [LX]) ?_
 (simp only [wn,LZ,seval])
 refine Ap.mk hx [] [] (Bn w) [] 0 Aj (by simp only [SB,HE,LZ,seval]) ?_ trivial ⟨rfl,rfl,rfl⟩
 simp only [He,En,E6,GK,seval,LY]
theorem H7 (ok:OkV M) (w:BitVec 64) (h1:¬ (BS w≤35∧w >>> 32 &&& 255#64=0#64)):Af M 79 [W w] [] 0 (Q3 (.tup (.fcons 0 (.int .i64 0) (.fcons 1 (.int .i64 0) (.fcons 2 (.int .i64 0) (.fcons 3 (.int .i64 0) (.fcons 4 (.int .i64 0) (.fcons 5 (.int .i64 0) (.fcons 6 (.bool false) .fnil)))))))) [] 0):=by
 refine Ab ok.k79 rfl fun x hx=>?_
 by_cases hp:BS w≤35
 ·have e1:((35:Int) < (BS w:Int))=False:=eq_false Aa
  have e2:(w >>> 32 &&& 255#64=0#64)=False:=eq_false (fun h=>h1 ⟨hp,h⟩)
  refine es 2000 ?_;(simp only [f79,c79,Ob,e1,e2,LZ,seval])
  refine Ap.mk hx [] [] (.tup (.fcons 0 (.int .i64 0) (.fcons 1 (.int .i64 0) (.fcons 2 (.int .i64 0) (.fcons 3 (.int .i64 0) (.fcons 4 (.int .i64 0) (.fcons 5 (.int .i64 0) (.fcons 6 (.bool false) .fnil)))))))) [] 0 Aj (by (simp only [DS,seval])) (by (try simp only [Oh,seval]) <;> exact q2) trivial ⟨rfl,rfl,rfl⟩
 ·have e1:((35:Int) < (BS w:Int))=True:=eq_true Aa
  refine es 2000 ?_;(simp only [f79,c79,Ob,e1,LZ,seval])
  refine Ap.mk hx [] [] (.tup (.fcons 0 (.int .i64 0) (.fcons 1 (.int .i64 0) (.fcons 2 (.int .i64 0) (.fcons 3 (.int .i64 0) (.fcons 4 (.int .i64 0) (.fcons 5 (.int .i64 0) (.fcons 6 (.bool false) .fnil)))))))) [] 0 Aj (by (simp only [DS,seval])) (by (try simp only [Oh,seval]) <;> exact q2) trivial ⟨rfl,rfl,rfl⟩
abbrev A8:BitVec 64:=18446744073709551614#64
theorem FI (ok:OkV M) (f g:Nat→BitVec 64) (pc xt:BitVec 64) (hpc:¬ 8192#64≤pc) (w:BitVec 64) (hw:f pc.toNat=w) (hop:BS w=28) (h2:w >>> 32 &&& 255#64=0#64) (wh:BitVec 64) (hwh:g (pF w 48) + BitVec.ofInt 64 (pN w)=wh) (hlt:¬ 8192#64≤wh) :
 Af M 70 [.ptr 0 [],.ptr 1 []] [(0,mach f g pc false xt)] 2 (Q3 .nili [(0,mach (Ig f wh.toNat (g (pF w 44))) g (pc + 1#64) false xt)] 2):=by
 refine Ab ok.k70 rfl fun x hx=>?_
 have hp:pc.toNat < 8192:=Gy
 have a1:=Ao w 52
 have a2:=Ao w 48
 have a3:=Ao w 44
 have a4:=Ao w 40
 have hp2:wh.toNat < 8192:=by rw [BitVec.le_def] at hlt;simpa using hlt
 refine es 2000 ?_;(simp only [OQ,Qz,C7,hpc,hw,seval])
 repeat refine sd ?_
 have zz:=@Bn.eq_1;refine Ng (A6 ok w Aa h2) ?_
 (simp only [He,hop,hlt,hwh,seval])
 repeat refine sd ?_
 refine Ll hx [0,1] (.nili) ([(0,mach (Ig f wh.toNat (g (pF w 44))) g (pc + 1#64) false xt)]) 2 ?_
 all_goals simp only [mach,Q5,LY,seval]
theorem G9 (ok:OkV M) (f g:Nat→BitVec 64) (pc xt:BitVec 64) (hpc:¬ 8192#64≤pc) (w:BitVec 64) (hw:f pc.toNat=w) (hop:BS w=27) (h2:w >>> 32 &&& 255#64=0#64) (wh:BitVec 64) (hwh:g (pF w 48) + BitVec.ofInt 64 (pN w)=wh) (hlt:¬ 8192#64≤wh) :
 Af M 70 [.ptr 0 [],.ptr 1 []] [(0,mach f g pc false xt)] 2 (Q3 .nili [(0,mach f (Ig g (pF w 52) (f wh.toNat)) (pc + 1#64) false xt)] 2):=by
 refine Ab ok.k70 rfl fun x hx=>?_
 have hp:pc.toNat < 8192:=Gy
 have a1:=Ao w 52
 have a2:=Ao w 48
 have a3:=Ao w 44
 have a4:=Ao w 40
 have hp2:wh.toNat < 8192:=by rw [BitVec.le_def] at hlt;simpa using hlt
 refine es 2000 ?_;(simp only [OQ,Qz,C7,hpc,hw,seval])
 repeat refine sd ?_
 have zz:=@Bn.eq_1;refine Ng (A6 ok w Aa h2) ?_
 (simp only [He,hop,hlt,hwh,seval])
 repeat refine sd ?_
 refine Ll hx [0,1] (.nili) ([(0,mach f (Ig g (pF w 52) (f wh.toNat)) (pc + 1#64) false xt)]) 2 ?_
 all_goals simp only [mach,Q5,LY,seval]
theorem DP (ok:OkV M) (f g:Nat→BitVec 64) (pc xt:BitVec 64) (hpc:¬ 8192#64≤pc) (w:BitVec 64) (hw:f pc.toNat=w) (hop:BS w=28) (h2:w >>> 32 &&& 255#64=0#64) (wh:BitVec 64) (hwh:g (pF w 48) + BitVec.ofInt 64 (pN w)=wh) (hlt:8192#64≤wh) :
 Af M 70 [.ptr 0 [],.ptr 1 []] [(0,mach f g pc false xt)] 2 (Q3 .nili [(0,mach f g pc true A8)] 2):=by
 refine Ab ok.k70 rfl fun x hx=>?_
 have hp:pc.toNat < 8192:=Gy
 have a1:=Ao w 52
 have a2:=Ao w 48
 have a3:=Ao w 44
 have a4:=Ao w 40
 refine es 2000 ?_;(simp only [OQ,Qz,C7,hpc,hw,seval])
 repeat refine sd ?_
 have zz:=@Bn.eq_1;refine Ng (A6 ok w Aa h2) ?_
 (simp only [He,hop,hlt,hwh,seval])
 repeat refine sd ?_
 have zz:=@mach.eq_1;refine FA [0] (B9 ok f g pc false xt A8) ?_
 (simp only [C7,seval])
 repeat refine sd ?_
 refine Ll hx [0,1] (.nili) ([(0,mach f g pc true A8)]) 2 ?_
 all_goals simp only [mach,Q5,LY,seval]
theorem Ei (ok:OkV M) (f g:Nat→BitVec 64) (pc xt:BitVec 64) (hpc:¬ 8192#64≤pc) (w:BitVec 64) (hw:f pc.toNat=w) (hop:BS w=27) (h2:w >>> 32 &&& 255#64=0#64) (wh:BitVec 64) (hwh:g (pF w 48) + BitVec.ofInt 64 (pN w)=wh) (hlt:8192#64≤wh) :
 Af M 70 [.ptr 0 [],.ptr 1 []] [(0,mach f g pc false xt)] 2 (Q3 .nili [(0,mach f g pc true A8)] 2):=by
 refine Ab ok.k70 rfl fun x hx=>?_
 have hp:pc.toNat < 8192:=Gy
 have a1:=Ao w 52
 have a2:=Ao w 48
 have a3:=Ao w 44
 have a4:=Ao w 40
 refine es 2000 ?_;(simp only [OQ,Qz,C7,hpc,hw,seval])
 repeat refine sd ?_
 have zz:=@Bn.eq_1;refine Ng (A6 ok w Aa h2) ?_
 (simp only [He,hop,hlt,hwh,seval])
 repeat refine sd ?_
 have zz:=@mach.eq_1;refine FA [0] (B9 ok f g pc false xt A8) ?_
 (simp only [C7,seval])
 repeat refine sd ?_
 refine Ll hx [0,1] (.nili) ([(0,mach f g pc true A8)]) 2 ?_
 all_goals simp only [mach,Q5,LY,seval]
theorem IG (ok:OkV M) (f g:Nat→BitVec 64) (pc xt:BitVec 64) (hpc:¬ 8192#64≤pc) (w:BitVec 64) (hw:f pc.toNat=w) (hop:BS w=26) (h2:w >>> 32 &&& 255#64=0#64) :
 Af M 70 [.ptr 0 [],.ptr 1 []] [(0,mach f g pc false xt)] 2 (Q3 .nili [(0,mach f (Ig g (pF w 52) (BitVec.ofInt 64 (pN w))) (pc + 1#64) false xt)] 2):=by
 refine Ab ok.k70 rfl fun x hx=>?_
 have hp:pc.toNat < 8192:=Gy
 have a1:=Ao w 52
 have a2:=Ao w 48
 have a3:=Ao w 44
 have a4:=Ao w 40
 refine es 2000 ?_;(simp only [OQ,Qz,C7,hpc,hw,seval])
 repeat refine sd ?_
 have zz:=@Bn.eq_1;refine Ng (A6 ok w Aa h2) ?_
 (simp only [He,hop,seval])
 repeat refine sd ?_
 refine Ll hx [0,1] (.nili) ([(0,mach f (Ig g (pF w 52) (BitVec.ofInt 64 (pN w))) (pc + 1#64) false xt)]) 2 ?_
 all_goals simp only [mach,Q5,LY,seval]
theorem EA (ok:OkV M) (f g:Nat→BitVec 64) (pc xt:BitVec 64) (hpc:¬ 8192#64≤pc) (w:BitVec 64) (hw:f pc.toNat=w) (hop:BS w=0) (h2:w >>> 32 &&& 255#64=0#64) :
 Af M 70 [.ptr 0 [],.ptr 1 []] [(0,mach f g pc false xt)] 2 (Q3 .nili [(0,mach f g pc true (g (pF w 48)))] 2):=by
 refine Ab ok.k70 rfl fun x hx=>?_
 have hp:pc.toNat < 8192:=Gy
 have a1:=Ao w 52
 have a2:=Ao w 48
 have a3:=Ao w 44
 have a4:=Ao w 40
 refine es 2000 ?_;(simp only [OQ,Qz,C7,hpc,hw,seval])
 repeat refine sd ?_
 have zz:=@Bn.eq_1;refine Ng (A6 ok w Aa h2) ?_
 (simp only [He,hop,seval])
 repeat refine sd ?_
 have zz:=@mach.eq_1;refine FA [0] (B9 ok f g pc false xt (g (pF w 48))) ?_
 (simp only [C7,seval])
 refine Ll hx [0,1] (.nili) ([(0,mach f g pc true (g (pF w 48)))]) 2 ?_
 all_goals simp only [mach,Q5,LY,seval]
end Mv
