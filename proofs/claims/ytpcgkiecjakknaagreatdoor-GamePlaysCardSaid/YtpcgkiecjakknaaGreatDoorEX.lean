/- A part. -/
import Derived.Test.YtpcgkiecjakknaaGreatDoorEW
set_option linter.all false
set_option maxRecDepth 20000
set_option maxHeartbeats 4000000
namespace Mv
open Go
variable {M:Seat}
structure OkS (M:Seat):Prop extends OkH M where
 k68:Au M 68 f68=true
 k212:Au M 212 Aet=true
 k213:Au M 213 f213=true
 k320:Au M 320 Tq=true
 k328:Au M 328 Aha=true
def MA (a b:Dg):Pr:=Pr.mk' fun j=>if j < 32 then a.at j else b.at (j - 32)
theorem NR (ok:OkS M) (a b:Dg):Ag M 213 [dg a,dg b] [] 0 (Q3 (Bk (MA a b)) [] 0):=by
 refine Ab ok.k213 rfl fun x hx=>?_
 have m1:min 32 32=32:=rfl
 have m2:∀ i:Nat,(0≤i)=True:=fun i=>eq_true (Nat.zero_le i)
 refine es 2000 ?_;(simp only [f213,Aeo,EE,m1,m2,KU,seval])
 refine Ar.mk hx [] [] (Bk (MA a b)) [] 0 Am (by simp only [Dz,G1,DC,LZ,seval]) ?_ trivial ⟨rfl,rfl,rfl⟩
 simp only [Dz,DC,Bk,LZ,seval,LY]
 intro j hj
 rw [MA,Pr.at_mk' _ _ hj]
 by_cases h:j < 32
 ·rw [if_neg Aa,if_pos h,if_pos h]
 ·rw [if_pos Aa,if_neg h]
def DV (ev:Nat) (a b:Pr) (met:Bool):V:=.st 130 (.fcons 0 (.map ev) (.fcons 1 (Bk a) (.fcons 65 (Bk b) (.fcons 129 (.bool met) .fnil))))
structure WS where
 pres:List (Dg × Pr)
 ever:List (Dg × Pr)
 a:Pr
 b:Pr
 met:Bool
def WS.kin (w:WS) (h:Dg) (p:Pr):WS:=match Q7 h w.ever with
 | none=>{ w with ever:=Hm h p w.ever }
 | some q=>if ¬ q=p∧w.met=false then { w with a:=q,b:=p,met:=true } else w
theorem SW (ok:OkS M) (w:WS) (h:Dg) (p:Pr) :
 Ag M 320 [.ptr 0 [],dg h,Bk p] [(0,DV 1 w.a w.b w.met),(1,BR Bk Pr.zero w.ever)] 2
  (Q3 (.tup .fnil) [(0,DV 1 (w.kin h p).a (w.kin h p).b (w.kin h p).met),(1,BR Bk Pr.zero (w.kin h p).ever)] 2):=by
 refine Ab ok.k320 rfl fun x hx=>?_
 cases hl:Q7 h w.ever with
 | none =>
   refine es 2000 ?_;(simp only [Tq,Uf,DV,hl,EE,seval])
   have e:w.kin h p={ w with ever:=Hm h p w.ever }:=by simp only [WS.kin,hl]
   rw [e]
   refine Rv hx [0,1] (.tup .fnil) ([(0,DV 1 w.a w.b w.met),(1,BR Bk Pr.zero (Hm h p w.ever))]) 2 ?_
   simp only [DV,Fz,seval]
 | some q =>
   by_cases hq:q=p
   ·have e:w.kin h p=w:=by simp only [WS.kin,hl,hq,not_true_eq_false,false_and,if_false]
    refine es 2000 ?_;(simp only [Tq,Uf,DV,hl,hq,EE,seval])
    rw [e]
    refine Rv hx [0,1] (.tup .fnil) ([(0,DV 1 w.a w.b w.met),(1,BR Bk Pr.zero w.ever)]) 2 ?_
    simp only [DV,Fz,seval]
   ·cases hm:w.met with
    | true =>
      have e:w.kin h p=w:=by simp [WS.kin,hl,hm]
      refine es 2000 ?_;(simp only [Tq,Uf,DV,hl,hq,EE,hm,seval])
      rw [e]
      refine Rv hx [0,1] (.tup .fnil) ([(0,DV 1 w.a w.b w.met),(1,BR Bk Pr.zero w.ever)]) 2 ?_
      simp only [DV,hm,Fz,seval]
    | false =>
      have e:w.kin h p={ w with a:=q,b:=p,met:=true }:=by simp [WS.kin,hl,hm,hq]
      refine es 2000 ?_;(simp only [Tq,Uf,DV,hl,hq,EE,hm,seval])
      rw [e]
      refine Rv hx [0,1] (.tup .fnil) ([(0,DV 1 q p true),(1,BR Bk Pr.zero w.ever)]) 2 ?_
      simp only [DV,hm,Fz,seval]
def VU (va:V):V:=.st 4 (.fcons 0 (.map 1) (.fcons 1 (.ptr 2 []) (.fcons 2 (.map 4) (.fcons 3 va .fnil))))
def Zm:=(Bb @DV.eq_1 @VU.eq_1)
def PF (w:WS) (va:V):Hp:=[(0,VU va),(1,BR Bk Pr.zero w.pres),(2,DV 3 w.a w.b w.met),(3,BR Bk Pr.zero w.ever)]
def WS.add (w:WS) (p:Pr):WS:=({ w with pres:=Hm (DW p.at) p w.pres }:WS).kin (DW p.at) p
theorem Ac4 (w:WS) (l:List (Dg × Pr)) (h:Dg) (p:Pr):({ w with pres:=l }:WS).kin h p={ w.kin h p with pres:=l }:=by
 unfold WS.kin;dsimp only;split <;> (try split) <;> rfl
theorem S4 (okA:OkM M) (ok:OkS M) (w:WS) (p:Pr)  :
 Ag M 212 [.ptr 0 [],Bk p] (PF w (.nils)) 5 (Q3 (Ah (dg (DW p.at)) .nili) (PF (w.add p) (.nils)) 5):=by
 refine Ab ok.k212 rfl fun x hx=>?_
 have e:w.add p={ w.kin (DW p.at) p with pres:=Hm (DW p.at) p w.pres }:=by rw [WS.add,Ac4]
 refine es 2000 ?_;(simp only [Aet,Af6,PF,VU,EE,seval])
 have zz:=@Bk.eq_1;refine Ce (C9 okA ok.toOkH p.at) ?_
 (simp only [EE,seval])
 have zz:=Bb @J3 @DV.eq_1;refine omY [2,3] (SW ok w (DW p.at) p) ?_
 (simp only [EE,DV,seval])
 refine Rv hx [0,1,2,3,4] (Ah (dg (DW p.at)) .nili) (PF (w.add p) (.nils)) 5 ?_
 all_goals simp only [PF,Zm,e,Fz,seval]
def C7:Nat→WS
 | 0=>⟨[],[],Pr.zero,Pr.zero,false⟩
 | n + 1=>(C7 n).add (MA (At n) (At n))
def E8 (l:List (Dg × Bool)):V:=BR V.bool false l
def EZ (w:WS) (va:V) (l:List (Dg × Bool)):Hp:=[(0,VU va),(1,BR Bk Pr.zero w.pres),(2,DV 3 w.a w.b w.met),(3,BR Bk Pr.zero w.ever),(4,E8 l)]
def La2:=(GM @List.cons_append.{0} @List.nil_append.{0} @DV.eq_1 @EZ.eq_1 @VU.eq_1)
theorem Du (H:Hp) (m z:List Nat) (l:List (Dg × Bool)):Az H m z (E8 l) (E8 l)=True:=eq_true (HW H m z V.bool (fun _=>rfl) false l)
def Laa:=(C4 @J3 @Du @dg.eq_1)
def Lbx:=(Bb @LY @Laa)
theorem RP (l:List (Dg × Bool)):AC (E8 l)=True:=eq_true (NQ V.bool (fun _=>trivial) false l)
theorem Iu (m:List Nat) (l:List (Dg × Bool)):(E8 l).ren m=E8 l:=QE m V.bool (fun _=>rfl) false l
theorem Tc (okA:OkM M) (ok:OkS M):Ag M 68 [] [] 0 (Q3 (.ptr 0 []) (EZ (C7 16) .nils []) 5):=by
 refine Ab ok.k68 rfl fun x hx=>?_
 refine es 2000 ?_;(simp only [f68,c68,EE,seval])
 refine An (σ:=Nat) (fun n=>n≤16) (fun n=>fr 27 [(1,.ptr 0 []),(12,.int .i64 n)]) (fun n=>EZ (C7 n) .nils []) (fun _=>5) (fun n=>16 - n) 0 Aa ?_ ?_
 ·refine Ao.fr [112,16,64,32,80] [] hx AQ Am ?_ ?_
  ·simp only [LY,seval]
  ·simp only [EZ,Zm,C7,E8,Zl,Fz,seval]
 ·intro n hn
  refine es 2000 ?_
  by_cases h16:n=16
  ·subst h16
   (simp only [LZ,seval])
   refine Rv hx [0,1,2,3,4] (.ptr 0 []) (EZ (C7 16) .nils []) 5 ?_
   all_goals simp only [EZ,Zm,Du,Fz,seval]
  ·have d0:((n:Int) < 16)=True:=eq_true Aa
   have w0:IntKind.i64.wrap ((n:Int) + 1)=((n + 1:Nat):Int):=AZ
   (simp only [d0,EZ,LZ,seval])
   refine Ak (R4 okA n Aa) ?_
   (simp only [AH,seval])
   have zz:=@J3;refine Ce (NR ok (At n) (At n)) ?_
   (simp only [EE,seval])
   have zz:=C4 @J3 @PF.eq_1 Zm;refine Om [0,1,2,3,4] [0,1,2,3] (S4 okA ok (C7 n) (MA (At n) (At n))) ?_
   (simp only [NC,PF,Zm,Du,Iu,w0,seval])
   refine ⟨n + 1,by omega,by omega,?_⟩
   refine Ao.fr [0,1,2,3,4] [] hx AQ Am ?_ ?_
   ·simp only [LY,seval]
   ·simp only [EZ,Zm,C7,Du,Fz,seval]
def c70:LC:=(sr [mn 4] (.seq (sr [mt 14 0,A1 15 (.eq false true .ptr (.t 14) (.c .nilp)),mt 16 15,mg 17 16 false 1,A2 18 16 false (.eq false true .ptr (.t 17) (.c .nilp)),
  BV 19 16 18] (.cond (.t 19) (sr [A1 20 (.mkif 74 (cI 1)),mt 4 20] .ret) .skip)) (.seq (sr [mt 21 0,nc 22 21,fa 23 8209 22,lb 24 1 23] (.cond (.t 24) (sr [mn 4] .ret) .skip)) (.seq (sr [mt 25 0,nc 26 25,fa 27 8208 26,lb 28 1 27,
  aU 29 .geq 28 8192] (.cond (.t 29) (sr [mt 30 0,kl 31 214 [(.t 30),(cU 18446744073709551614)]] (sr [mn 4] .ret)) .skip)) (.seq (.regd [⟨0,0,mt 33 0⟩,⟨1,0,mt 34 0⟩,⟨2,2,nc 35 34⟩,⟨3,6,fa 36 8208 35⟩,⟨4,14,lb 37 1 36⟩,⟨5,1,nc 38 33⟩,⟨6,33,fa 39 0 38⟩,⟨7,127,ib 40 8192 1 39 37⟩,⟨8,255,lb 41 1 40⟩,⟨9,511,kl 42 79 [(.t 41)]⟩,⟨10,1023,mt 32 42⟩,⟨11,2047,ee 43 32 0⟩,⟨12,2047,ee 44 32 1⟩,⟨13,2047,ee 45 32 2⟩,⟨14,2047,ee 46 32 3⟩,⟨15,2047,ee 47 32 4⟩,⟨16,2047,ee 48 32 5⟩,⟨17,2047,ee 49 32 6⟩,⟨18,4095,mt 5 43⟩,⟨19,270335,mt 6 44⟩,⟨20,802815,mt 7 45⟩,⟨21,1867775,mt 8 46⟩,⟨22,3997695,mt 9 47⟩,⟨23,8257535,mt 10 48⟩,⟨24,16777215,mt 11 49⟩]) (.seq (sr [mt 50 11,A1 51 (.un .not (.t 50))] (.cond (.t 51) (sr [mt 52 0,kl 53 214 [(.t 52),(cU 18446744073709551614)]] (sr [mn 4] .ret)) .skip)) (sr [mt 54 0,nc 55 54,fa 56 8192 55,mt 12 56] (sr [mt 57 12,mt 58 7,nc 59 57,ib 60 16 1 59 58,lb 61 1 60,mt 62 10,
  D0 63 .u64 62,ak 64 .add 61 63,mt 13 64] (.seq (.block 0 (sr [mt 66 5,aI 67 .eql 66 0,mt 65 67] (.cond (.t 65) (sr [mt 68 0,mt 69 12,mt 70 7,nc 71 69,ib 72 16 1 71 70,lb 73 1 72,kl 74 214 [(.t 68),(.t 73)]] (sr [mn 4] .ret)) (sr [mt 76 5,aI 77 .lss 76 26,mt 75 77] (.cond (.t 75) (.regd [⟨2,0,mt 81 5⟩,⟨3,0,mt 82 12⟩,⟨4,0,mt 83 7⟩,⟨5,2,nc 84 82⟩,⟨6,14,ib 85 16 1 84 83⟩,⟨7,30,lb 86 1 85⟩,⟨8,0,mt 87 12⟩,⟨9,0,mt 88 8⟩,⟨10,64,nc 89 87⟩,⟨11,448,ib 90 16 1 89 88⟩,⟨12,960,lb 91 1 90⟩,⟨13,0,mt 92 12⟩,⟨14,0,mt 93 9⟩,⟨15,2048,nc 94 92⟩,⟨16,14336,ib 95 16 1 94 93⟩,⟨17,30720,lb 96 1 95⟩,⟨18,65535,kl 97 215 [(.t 81),(.t 86),(.t 91),(.t 96)]⟩,⟨0,0,mt 79 12⟩,⟨1,0,mt 80 6⟩,⟨19,131071,mt 78 97⟩,⟨20,655359,ee 98 78 0⟩,⟨22,131072,nc 100 79⟩,⟨23,4194303,ib 101 16 1 100 80⟩,⟨24,8388607,sb 1 101 98⟩,⟨21,655359,ee 99 78 1⟩]) (sr [mt 103 5,aI 104 .eql 103 26,mt 102 104] (.cond (.t 102) (.reg [mt 105 12,mt 106 6,mt 107 10,
  D0 108 .u64 107,nc 109 105,ib 110 16 1 109 106,sb 1 110 108]) (sr [mt 112 5,aI 113 .eql 112 27,mt 114 113,mg 115 114 false 5,A2 116 114 false (.ari .eql (.t 115) (cI 28)),
  BV 117 114 116,mt 111 117] (.cond (.t 111) (.seq (sr [mt 118 13,
  aU 119 .geq 118 8192] (.cond (.t 119) (sr [mt 120 0,kl 121 214 [(.t 120),(cU 18446744073709551614)]] (sr [mn 4] .ret)) .skip)) (sr [mt 122 5,aI 123 .eql 122 27] (.cond (.t 123) (.regd [⟨0,0,mt 124 12⟩,⟨1,0,mt 125 6⟩,⟨2,0,mt 126 0⟩,⟨3,0,mt 127 13⟩,⟨4,4,nc 128 126⟩,⟨5,20,fa 129 0 128⟩,⟨6,60,ib 130 8192 1 129 127⟩,⟨7,124,lb 131 1 130⟩,⟨8,1,nc 132 124⟩,⟨9,511,ib 133 16 1 132 125⟩,⟨10,1023,sb 1 133 131⟩]) (.regd [⟨0,0,mt 134 0⟩,⟨1,0,mt 135 13⟩,⟨2,0,mt 136 12⟩,⟨3,0,mt 137 8⟩,⟨4,4,nc 138 136⟩,⟨5,28,ib 139 16 1 138 137⟩,⟨6,60,lb 140 1 139⟩,⟨7,1,nc 141 134⟩,⟨8,129,fa 142 0 141⟩,⟨9,511,ib 143 8192 1 142 135⟩,⟨10,1023,sb 1 143 140⟩])))) (sr [mt 145 5,aI 146 .lss 145 34,mt 144 146] (.cond (.t 144) (sr [mt 147 0,mt 148 5,mt 149 6,mt 150 7,mt 151 10,
  D0 152 .u64 151,kl 153 216 [(.t 147),(.t 148),(.t 149),(.t 150),(.t 152)]] (sr [mn 4] .ret)) (.seq (.regd [⟨0,0,mt 155 0⟩,⟨1,0,mt 156 1⟩,⟨2,0,mt 157 5⟩,⟨3,0,mt 158 12⟩,⟨4,0,mt 159 7⟩,⟨5,8,nc 160 158⟩,⟨6,56,ib 161 16 1 160 159⟩,⟨7,120,lb 162 1 161⟩,⟨8,0,mt 163 12⟩,⟨9,0,mt 164 8⟩,⟨10,256,nc 165 163⟩,⟨11,1792,ib 166 16 1 165 164⟩,⟨12,3840,lb 167 1 166⟩,⟨13,8191,kl 168 217 [(.t 155),(.t 156),(.t 157),(.t 162),(.t 167)]⟩,⟨14,16383,A1 169 (.un .not (.t 168))⟩,⟨15,32767,mt 154 169⟩]) (.cond (.t 154) (sr [mn 4] .ret) .skip))))))))))))) (sr [mt 170 0,nc 171 170,fa 172 8208 171,lb 173 1 172,
  aU 174 .add 173 1,nc 175 170,fa 176 8208 175,sb 1 176 174] (sr [mn 4] .ret)))))))))))
def f70:LF:=⟨c70,2,0,177,[.tmp 4]⟩
def c76:LC:=(sr [mU 12 0,mn 13] (.seq (sr [mt 17 0,aI 18 .lss 17 0,mt 19 18,mg 20 19 false 0,A2 21 19 false (.ari .gtr (.t 20) (cI 35)),
  BV 22 19 21,mt 23 22,mg 24 23 false 5,mg 25 23 false 5,A2 26 23 false (.conv .i32 (.t 25)),A2 27 23 false (.conv .i64 (.t 26)),A2 28 23 false (.ari .neq (.t 24) (.t 27)),
  BV 29 23 28] (.cond (.t 29) (sr [A1 30 (.mkif 74 (cI 2)),
  mU 12 0,mt 13 30] .ret) .skip)) (sr [mt 31 0,
  D0 32 .u64 31,mt 14 32] (.seq (sr [mt 33 1,mt 34 2,mt 35 3,mt 36 4,A1 37 (.bsl 1 4 (.int .i64) [(.i 1 0,1,(.t 33)),(.i 1 1,1,(.t 34)),(.i 1 2,1,(.t 35)),(.i 1 3,1,(.t 36))]),
  lN 38 0 37,
  mI 39 0] (.block 0 (.loop (sr [ak 40 .lss 39 38] (.seq (Dd 40 0) (.seq (.block 1 (sr [ia 41 1 37 39,lb 42 1 41,mt 16 42] (.seq (sr [mt 43 16,aI 44 .lss 43 0,mt 45 44,mg 46 45 false 16,A2 47 45 false (.ari .gtr (.t 46) (cI 15)),
  BV 48 45 47] (.cond (.t 48) (sr [A1 49 (.mkif 74 (cI 2)),
  mU 12 0,mt 13 49] .ret) .skip)) (.reg [mt 50 14,
  aU 51 .shl 50 4,mt 52 16,
  D0 53 .u64 52,ak 54 .or 51 53,mt 14 54])))) (.reg [aI 55 .add 39 1,mt 39 55]))))))) (sr [mt 56 14,
  aU 57 .shl 56 40,mt 58 5,
  D0 59 .u32 58,
  D0 60 .u64 59,ak 61 .or 57 60,mt 12 61,mn 13] .ret)))))
def f76:LF:=⟨c76,6,0,62,[.tmp 12,.tmp 13]⟩
def c79:LC:=(sr [bX 1 0,
 mI 2 0,
 mI 3 0,
 mI 4 0,
 mI 5 0,
 mI 6 0,
 mI 7 0,A1 8 (.mv (.c (.bool false)))] (sr [lb 10 1 1,
  aU 11 .shr 10 56,
  D0 12 .i64 11,mt 2 12] (.seq (sr [mt 13 2,aI 14 .gtr 13 35,mt 15 14,A2 16 15 false (.load false 1 (.t 1)),A2 17 15 false (.ari .shr (.t 16) (cU 32)),A2 18 15 false (.ari .and (.t 17) (cU 255)),A2 19 15 false (.ari .neq (.t 18) (cU 0)),
  BV 20 15 19] (.cond (.t 20) (sr [mI 2 0,
  mI 3 0,
  mI 4 0,
  mI 5 0,
  mI 6 0,
  mI 7 0,A1 8 (.mv (.c (.bool false)))] .ret) .skip)) (sr [A1 21 (.mkfn 220 [(.t 1)]),mt 9 21] (.seq (.regd [⟨1,0,mt 23 9⟩,⟨2,1,⟨(some 24),.dyn (.t 23) [(cI 52)],none⟩⟩,⟨3,0,mt 25 9⟩,⟨4,7,⟨(some 26),.dyn (.t 25) [(cI 48)],none⟩⟩,⟨5,0,mt 27 9⟩,⟨6,31,⟨(some 28),.dyn (.t 27) [(cI 44)],none⟩⟩,⟨7,0,mt 29 9⟩,⟨8,127,⟨(some 30),.dyn (.t 29) [(cI 40)],none⟩⟩,⟨0,0,mt 22 2⟩,⟨9,0,lb 31 1 1⟩,⟨10,512,D0 32 .i32 31⟩,⟨11,1536,D0 33 .i64 32⟩,⟨12,511,mt 2 22⟩,⟨13,4607,mt 3 24⟩,⟨14,12799,mt 4 26⟩,⟨15,29183,mt 5 28⟩,⟨16,61951,mt 6 30⟩,⟨17,131071,mt 7 33⟩,⟨18,262143,A1 8 (.mv (.c (.bool true)))⟩]) .ret)))))
def f79:LF:=⟨c79,1,0,34,[.tmp 2,.tmp 3,.tmp 4,.tmp 5,.tmp 6,.tmp 7,.tmp 8]⟩
def Aig:LC:=.reg [mt 4 0,mt 5 0,mt 6 1,nc 7 4,fa 8 8209 7,A0 (.store 1 (.t 8) (.c (.bool true))),nc 9 5,fa 10 8210 9,sb 1 10 6]
def f214:LF:=⟨Aig,2,0,11,[]⟩
def Ah9:LC:=(sr [mt 11 0,nc 12 11,fa 13 8192 12,mt 10 13] (.seq (sr [mt 14 1] (.block 0 (.seq (sr [aI 16 .eql 14 30,mt 15 16] (.cond (.t 15) .skip (.reg [aI 17 .eql 14 31,mt 15 17]))) (.cond (.t 15) (sr [mt 18 10,mt 19 3,nc 20 18,ib 21 16 1 20 19,lb 22 1 21,
  aU 23 .eql 22 0,mt 24 1,aI 25 .eql 24 30,A1 26 (.eq true false .bool (.t 23) (.t 25))] (.cond (.t 26) (sr [mt 27 0,nc 28 27,fa 29 8208 28,lb 30 1 29,
  aU 31 .add 30 1,nc 32 27,fa 33 8208 32,sb 1 33 31] .ret) .skip)) (sr [aI 35 .eql 14 33,mt 34 35] (.cond (.t 34) (.reg [mt 36 10,mt 37 3,nc 38 36,ib 39 16 1 38 37,lb 40 1 39,mt 4 40]) .skip)))))) (.seq (sr [mt 41 4,
  aU 42 .geq 41 8192] (.cond (.t 42) (sr [mt 43 0,kl 44 214 [(.t 43),(cU 18446744073709551614)]] .ret) .skip)) (.seq (sr [mt 45 1,aI 46 .eql 45 32] (.cond (.t 46) (.regd [⟨0,0,mt 47 10⟩,⟨1,0,mt 48 2⟩,⟨2,0,mt 49 0⟩,⟨3,4,nc 50 49⟩,⟨4,12,fa 51 8208 50⟩,⟨5,28,lb 52 1 51⟩,⟨6,60,aU 53 .add 52 1⟩,⟨7,1,nc 54 47⟩,⟨8,255,ib 55 16 1 54 48⟩,⟨9,511,sb 1 55 53⟩]) .skip)) (.reg [mt 56 0,mt 57 4,nc 58 56,fa 59 8208 58,sb 1 59 57])))))
def Ae3:LF:=⟨Ah9,5,0,60,[]⟩
def Age:LC:=(sr [mI 3 0] (sr [lb 4 1 1,mt 5 0,ak 6 .shr 4 5,
  aU 7 .and 6 15,
  D0 8 .i64 7,mt 3 8] .ret))
def Afl:LF:=⟨Age,1,1,9,[.tmp 3]⟩
def Us:LC:=(sr [mU 8 0,mn 9] (.seq (sr [mt 10 0] (.block 0 (.seq (.block 17 (.seq (.block 16 (.seq (.block 15 (.seq (.block 14 (.seq (.block 13 (.seq (.block 12 (.seq (.block 11 (.seq (.block 10 (.seq (.block 9 (.seq (.block 8 (.seq (.block 7 (.seq (.block 6 (.seq (.block 5 (.seq (.block 4 (.seq (.block 3 (.seq (.block 2 (.seq (.block 1 (.seq (.seq (sr [aI 12 .eql 10 1,mt 11 12] (.cond (.t 11) (.exit 1) .skip)) (.seq (sr [aI 14 .eql 10 2,mt 13 14] (.cond (.t 13) (.exit 2) .skip)) (.seq (sr [aI 16 .eql 10 3,mt 15 16] (.cond (.t 15) (.exit 3) .skip)) (.seq (.seq (sr [aI 18 .eql 10 4,mt 17 18] (.cond (.t 17) .skip (sr [aI 19 .eql 10 5,mt 17 19] (.cond (.t 17) .skip (sr [aI 20 .eql 10 6,mt 17 20] (.cond (.t 17) .skip (.reg [aI 21 .eql 10 7,mt 17 21]))))))) (.cond (.t 17) (.exit 4) .skip)) (.seq (.seq (sr [aI 23 .eql 10 8,mt 22 23] (.cond (.t 22) .skip (.reg [aI 24 .eql 10 9,mt 22 24]))) (.cond (.t 22) (.exit 5) .skip)) (.seq (sr [aI 26 .eql 10 10,mt 25 26] (.cond (.t 25) (.exit 6) .skip)) (.seq (.seq (sr [aI 28 .eql 10 11,mt 27 28] (.cond (.t 27) .skip (sr [aI 29 .eql 10 12,mt 27 29] (.cond (.t 27) .skip (sr [aI 30 .eql 10 13,mt 27 30] (.cond (.t 27) .skip (sr [aI 31 .eql 10 14,mt 27 31] (.cond (.t 27) .skip (.reg [aI 32 .eql 10 15,mt 27 32]))))))))) (.cond (.t 27) (.exit 7) .skip)) (.seq (sr [aI 34 .eql 10 17,mt 33 34] (.cond (.t 33) (.exit 8) .skip)) (.seq (sr [aI 36 .eql 10 16,mt 35 36] (.cond (.t 35) (.exit 9) .skip)) (.seq (sr [aI 38 .eql 10 19,mt 37 38] (.cond (.t 37) (.exit 10) .skip)) (.seq (sr [aI 40 .eql 10 18,mt 39 40] (.cond (.t 39) (.exit 11) .skip)) (.seq (sr [aI 42 .eql 10 21,mt 41 42] (.cond (.t 41) (.exit 12) .skip)) (.seq (sr [aI 44 .eql 10 20,mt 43 44] (.cond (.t 43) (.exit 13) .skip)) (.seq (sr [aI 46 .eql 10 22,mt 45 46] (.cond (.t 45) (.exit 14) .skip)) (.seq (sr [aI 48 .eql 10 23,mt 47 48] (.cond (.t 47) (.exit 15) .skip)) (.seq (sr [aI 50 .eql 10 25,mt 49 50] (.cond (.t 49) (.exit 16) .skip)) (sr [aI 52 .eql 10 24,mt 51 52] (.cond (.t 51) (.exit 17) .skip))))))))))))))))))
 (.exit 0))) (.seq (sr [mt 53 1,mt 54 2,ak 55 .add 53 54,mt 8 55,mn 9] .ret)
 (.exit 0)))) (.seq (sr [mt 56 1,mt 57 2,ak 58 .sub 56 57,mt 8 58,mn 9] .ret)
 (.exit 0)))) (.seq (sr [mt 59 1,mt 60 2,ak 61 .mul 59 60,mt 8 61,mn 9] .ret)
 (.exit 0)))) (.seq (sr [mt 62 0,mt 63 1,mt 64 2,kl 65 321 [(.t 62),(.t 63),(.t 64)],mt 8 65,mn 9] .ret)
 (.exit 0)))) (.seq (sr [mt 66 0,mt 67 1,mt 68 2,mt 69 3,kl 70 322 [(.t 66),(.t 67),(.t 68),(.t 69)],mt 8 70,mn 9] .ret)
 (.exit 0)))) (.seq (sr [mt 71 1,mt 72 2,kl 73 323 [(.t 71),(.t 72)],mt 8 73,mn 9] .ret)
 (.exit 0)))) (.seq (sr [mt 74 0,mt 75 1,mt 76 2,kl 77 324 [(.t 74),(.t 75),(.t 76)],mt 8 77,mn 9] .ret)
 (.exit 0)))) (.reg [mt 78 2,mt 79 1,mt 1 78,mt 2 79]))) (.seq (sr [mt 80 1,mt 81 2,ak 82 .lss 80 81,kl 83 325 [(.t 82)],mt 8 83,mn 9] .ret)
 (.exit 0)))) (.reg [mt 84 2,mt 85 1,mt 1 84,mt 2 85]))) (.seq (sr [mt 86 1,
  D0 87 .i64 86,mt 88 2,
  D0 89 .i64 88,ak 90 .lss 87 89,kl 91 325 [(.t 90)],mt 8 91,mn 9] .ret)
 (.exit 0)))) (.reg [mU 2 0]))) (.seq (sr [mt 92 1,mt 93 2,ak 94 .eql 92 93,kl 95 325 [(.t 94)],mt 8 95,mn 9] .ret)
 (.exit 0)))) (.seq (sr [mt 96 1,mt 97 2,ak 98 .and 96 97,mt 8 98,mn 9] .ret)
 (.exit 0)))) (.seq (sr [mt 99 1,mt 100 2,ak 101 .or 99 100,mt 8 101,mn 9] .ret)
 (.exit 0)))) (.reg [mU 2 18446744073709551615]))) (.seq (sr [mt 102 1,mt 103 2,ak 104 .xor 102 103,mt 8 104,mn 9] .ret)
 (.exit 0))))) (sr [A1 105 (.mkif 74 (cI 10)),
  mU 8 0,mt 9 105] .ret)))
def f215:LF:=⟨Us,4,0,106,[.tmp 8,.tmp 9]⟩
variable {M:Seat}
structure OkV (M:Seat):Prop extends OkS M where
 k70:Au M 70 f70=true
 k79:Au M 79 f79=true
 k214:Au M 214 f214=true
 k216:Au M 216 Ae3=true
 k220:Au M 220 Afl=true
 fn220:EC M 220
def CP (w:BitVec 64):Nat:=(w >>> 56).toNat
def pF (w:BitVec 64) (k:Nat):Nat:=(w >>> k &&& 15#64).toNat
def pN (w:BitVec 64):Int:=(w.setWidth 32).toInt
theorem Lw (w:BitVec 64):(w >>> 56).toInt=(CP w:Int):=by
 have h:(w >>> 56).toNat < 256:=by rw [BitVec.toNat_ushiftRight,Nat.shiftRight_eq_div_pow];have:=w.isLt;omega
 rw [BitVec.toInt_eq_toNat_cond,if_pos Aa];rfl
theorem A5 (w:BitVec 64) (k:Nat):pF w k < 16:=by
 rw [pF,BitVec.toNat_and]
 exact Nat.lt_of_le_of_lt Nat.and_le_right Am
theorem Ab7 (w:BitVec 64) (k:Nat):(w >>> k &&& 15#64).toInt=(pF w k:Int):=by
 have h:=A5 w k
 rw [BitVec.toInt_eq_toNat_cond,if_pos (by unfold pF at h;omega)];rfl
theorem RU (ok:OkV M) (f g:Nat→BitVec 64) (pc:BitVec 64) (hl:Bool) (xt e:BitVec 64) :
 Ag M 214 [.ptr 0 [],W e] [(0,A3 f g pc hl xt)] 1 (Q3 (.tup .fnil) [(0,A3 f g pc true e)] 1):=by
 refine Ab ok.k214 rfl fun x hx=>?_
 refine es 2000 ?_;(simp only [f214,Aig,Zt,seval])
 refine Rv hx [0] (.tup .fnil) ([(0,A3 f g pc true e)]) 1 ?_
 all_goals simp only [A3,LY,seval]
theorem Eu (ok:OkV M) (w:BitVec 64) (k:Nat):Ag M 220 [.int .i64 k,.imm (W w)] [] 0 (Q3 (.int .i64 (pF w k:Nat)) [] 0):=by
 refine Ab ok.k220 rfl fun x hx=>?_
 refine es 2000 ?_;(simp only [Afl,Age,LZ,seval])
 simp only [Ab7]
 repeat refine sd ?_
 refine Ar.mk hx [] [] (.int .i64 (pF w k:Nat)) [] 0 Am (by (simp only [CU,seval])) (by (try simp only [OJ,seval]) <;> exact q2) trivial ⟨rfl,rfl,rfl⟩
def BB (w:BitVec 64):V:=.tup (.fcons 0 (.int .i64 (CP w)) (.fcons 1 (.int .i64 (pF w 52)) (.fcons 2 (.int .i64 (pF w 48)) (.fcons 3 (.int .i64 (pF w 44)) (.fcons 4 (.int .i64 (pF w 40)) (.fcons 5 (.int .i64 (pN w)) (.fcons 6 (.bool true) .fnil)))))))
def Mx:=(Bb @LZ @BB.eq_1)
theorem AO (ok:OkV M) (w:BitVec 64) (h1:CP w≤35) (h2:w >>> 32 &&& 255#64=0#64):Ag M 79 [W w] [] 0 (Q3 (BB w) [] 0):=by
 refine Ab ok.k79 rfl fun x hx=>?_
 have e1:((35:Int) < (CP w:Int))=False:=eq_false Aa
 refine es 2000 ?_;(simp only [f79,c79,Lw,e1,h2,LZ,seval])
 have wn:IntKind.i64.wrap (w.setWidth 32).toInt=pN w:=by
  have h1:=BitVec.toInt_lt (x:=w.setWidth 32)
  have h2:=BitVec.le_toInt (x:=w.setWidth 32)
  rw [AY Aa];rfl
 refine oyK (ok.fn220) (Eu ok w 52) (by (try simp only [LY,seval]) <;> exact q1) (by simp only [LX]) ?_
 (simp only [LZ,seval])
 refine oyK (ok.fn220) (Eu ok w 48) (by (try simp only [LY,seval]) <;> exact q1) (by simp only [LX]) ?_
 (simp only [LZ,seval])
 refine oyK (ok.fn220) (Eu ok w 44) (by (try simp only [LY,seval]) <;> exact q1) (by simp only [LX]) ?_
 (simp only [LZ,seval])
 refine oyK (ok.fn220) (Eu ok w 40) (by (try simp only [LY,seval]) <;> exact q1) (by simp only [LX]) ?_
 (simp only [wn,LZ,seval])
 refine Ar.mk hx [] [] (BB w) [] 0 Am (by simp only [Laj,G5,LZ,seval]) ?_ trivial ⟨rfl,rfl,rfl⟩
 simp only [Mx,Dz,DC,FY,seval,LY]
abbrev Bn:BitVec 64:=18446744073709551614#64
theorem Jl (ok:OkV M) (f g:Nat→BitVec 64) (pc xt:BitVec 64) (hpc:¬ 8192#64≤pc) (w:BitVec 64) (hw:f pc.toNat=w) (hop:CP w=28) (h2:w >>> 32 &&& 255#64=0#64) (wh:BitVec 64) (hwh:g (pF w 48) + BitVec.ofInt 64 (pN w)=wh) (hlt:¬ 8192#64≤wh) :
 Ag M 70 [.ptr 0 [],.ptr 1 []] [(0,A3 f g pc false xt)] 2 (Q3 .nili [(0,A3 (FI f wh.toNat (g (pF w 44))) g (pc + 1#64) false xt)] 2):=by
 refine Ab ok.k70 rfl fun x hx=>?_
 have hp:pc.toNat < 8192:=YU
 have a1:=A5 w 52
 have a2:=A5 w 48
 have a3:=A5 w 44
 have a4:=A5 w 40
 have hp2:wh.toNat < 8192:=by rw [BitVec.le_def] at hlt;simpa using hlt
 refine es 2000 ?_;(simp only [f70,c70,Zt,hpc,hw,seval])
 repeat refine sd ?_
 have zz:=@BB.eq_1;refine G0 (AO ok w Aa h2) ?_
 (simp only [Mx,hop,hlt,hwh,seval])
 repeat refine sd ?_
 refine Rv hx [0,1] (.nili) ([(0,A3 (FI f wh.toNat (g (pF w 44))) g (pc + 1#64) false xt)]) 2 ?_
 all_goals simp only [A3,Zh,LY,seval]
theorem Np (ok:OkV M) (f g:Nat→BitVec 64) (pc xt:BitVec 64) (hpc:¬ 8192#64≤pc) (w:BitVec 64) (hw:f pc.toNat=w) (hop:CP w=26) (h2:w >>> 32 &&& 255#64=0#64) :
 Ag M 70 [.ptr 0 [],.ptr 1 []] [(0,A3 f g pc false xt)] 2 (Q3 .nili [(0,A3 f (FI g (pF w 52) (BitVec.ofInt 64 (pN w))) (pc + 1#64) false xt)] 2):=by
 refine Ab ok.k70 rfl fun x hx=>?_
 have hp:pc.toNat < 8192:=YU
 have a1:=A5 w 52
 have a2:=A5 w 48
 have a3:=A5 w 44
 have a4:=A5 w 40
 refine es 2000 ?_;(simp only [f70,c70,Zt,hpc,hw,seval])
 repeat refine sd ?_
 have zz:=@BB.eq_1;refine G0 (AO ok w Aa h2) ?_
 (simp only [Mx,hop,seval])
 repeat refine sd ?_
 refine Rv hx [0,1] (.nili) ([(0,A3 f (FI g (pF w 52) (BitVec.ofInt 64 (pN w))) (pc + 1#64) false xt)]) 2 ?_
 all_goals simp only [A3,Zh,LY,seval]
structure Mc where
 f:Nat→BitVec 64
 g:Nat→BitVec 64
 pc:BitVec 64
 hl:Bool
 xt:BitVec 64
def Mc.v (m:Mc):V:=A3 m.f m.g m.pc m.hl m.xt
def Mz (M:Seat) (m m':Mc):Prop:=Ag M 70 [.ptr 0 [],.ptr 1 []] [(0,m.v)] 2 (Q3 .nili [(0,m'.v)] 2)
structure OkI (M:Seat):Prop extends OkV M where
 k76:Au M 76 f76=true
theorem Ao7 (w:BitVec 64):pN w=if w.toNat % 4294967296 < 2147483648 then ((w.toNat % 4294967296:Nat):Int) else ((w.toNat % 4294967296:Nat):Int) - 4294967296:=by
 rw [pN,BitVec.toInt_eq_toNat_cond,BitVec.toNat_setWidth]
 split <;> split <;> omega
def QJ (op:Int) (d a b c:Nat) (n:Int):BitVec 64 :=
 (((((BitVec.ofInt 64 op <<< 4 ||| BitVec.ofInt 64 d) <<< 4 ||| BitVec.ofInt 64 a) <<< 4 ||| BitVec.ofInt 64 b) <<< 4 ||| BitVec.ofInt 64 c) <<< 40) ||| BitVec.ofInt 64 (IntKind.u32.wrap n)
theorem Fg {M:Seat} (ok:OkI M) (op:Int) (d a b c:Nat) (n:Int) (hd:d < 16) (ha:a < 16) (hb:b < 16) (hc:c < 16) (h1:0≤op∧op≤35) (h2:-2147483648≤n∧n < 2147483648) :
 Ag M 76 [.int .i64 op,.int .i64 d,.int .i64 a,.int .i64 b,.int .i64 c,.int .i64 n] [] 0 (Q3 (Ah (W (QJ op d a b c n)) .nili) [] 0):=by
 refine Ab ok.k76 rfl fun x hx=>?_
 have l1:∀ q:Nat,q < 16→(((q:Int) < 0)=False):=fun q _=>eq_false Aa
 have l2:∀ q:Nat,q < 16→((15:Int) < (q:Int))=False:=fun q h=>eq_false Aa
 have w1:IntKind.i64.wrap 1=1:=rfl
 have w2:IntKind.i64.wrap 2=2:=rfl
 have w3:IntKind.i64.wrap 3=3:=rfl
 have w4:IntKind.i64.wrap 4=4:=rfl
 have e1:(op < 0)=False:=eq_false Aa
 have e2:((35:Int) < op)=False:=eq_false Aa
 have e3:IntKind.i64.wrap (IntKind.i32.wrap n)=n:=by
  have:IntKind.i32.wrap n=n:=by
   have e:IntKind.i32.wrap n=if n % 4294967296 ≥ 2147483648 then n % 4294967296 - 4294967296 else n % 4294967296:=Tk
   rw [e];split <;> omega
  rw [this,AY Aa]
 refine es 2000 ?_;(simp only [f76,c76,e1,e2,e3,LZ,seval])
 refine AW ?_
 refine es 2000 ?_
 (simp only [l1 d hd,l2 d hd,w1,w2,w3,w4,LZ,seval])
 repeat refine sd ?_
 refine AW ?_
 refine es 2000 ?_
 (simp only [l1 a ha,l2 a ha,w1,w2,w3,w4,LZ,seval])
 repeat refine sd ?_
 refine AW ?_
 refine es 2000 ?_
 (simp only [l1 b hb,l2 b hb,w1,w2,w3,w4,LZ,seval])
 repeat refine sd ?_
 refine AW ?_
 refine es 2000 ?_
 (simp only [l1 c hc,l2 c hc,w1,w2,w3,w4,LZ,seval])
 repeat refine sd ?_
 refine AW ?_
 refine es 2000 ?_
 (simp only [LZ,seval])
 have zz:=@QJ.eq_1;exact Bf hx [] ⟨rfl,rfl,rfl⟩
structure In where
 op:Int
 d:Int
 a:Int
 b:Int
 c:Int
 n:Int
 raw:BitVec 64
instance:Inhabited In:=⟨⟨0,0,0,0,0,0,0#64⟩⟩
variable {M:Seat}
def YH (n:Nat) (u:Nat→BitVec 64) (j:Nat):BitVec 64:=if j < n then u j else 0#64
theorem Oq (okA:OkM M) (n:Nat) (hn:n≤8192) (u:Nat→BitVec 64):Ag M 74 [.lst 1 n (fun j=>W (u j))] [] 0 (Q3 (Ah (.ptr 0 []) .nili) [(0,A3 (YH n u) (fun _=>0#64) 0#64 false 0#64)] 1):=by
 refine Ab okA.k74 rfl fun x hx=>?_
 have e0:((8192:Int) < (n:Int))=False:=eq_false Aa
 have m1:min n 8192=n:=Aa
 have m2:∀ i:Nat,(0≤i)=True:=fun i=>eq_true (Nat.zero_le i)
 refine es 2000 ?_;(simp only [f74,c74,e0,m1,m2,LZ,seval])
 have zz:=C4 @A3.eq_1 @YH.eq_1 @NM;exact Bf hx [96] ⟨rfl,rfl,rfl⟩
structure OkW (M:Seat):Prop extends OkI M where
 k215:Au M 215 f215=true
theorem Nl (ok:OkW M) (a b c:BitVec 64):Ag M 215 [.int .i64 1,W a,W b,W c] [] 0 (Q3 (Ah (W (a + b)) .nili) [] 0):=by
 refine Ab ok.k215 rfl fun x hx=>?_
 refine es 2000 ?_;(simp only [f215,Us,LZ,seval])
 exact Ar.mkZ hx [] ⟨rfl,rfl,rfl⟩
theorem Lr (ok:OkW M) (f g:Nat→BitVec 64) (pc xt:BitVec 64) (hpc:¬ 8192#64≤pc) (w:BitVec 64) (hw:f pc.toNat=w) (hop:CP w=1) (h2:w >>> 32 &&& 255#64=0#64) :
 Ag M 70 [.ptr 0 [],.ptr 1 []] [(0,A3 f g pc false xt)] 2 (Q3 .nili [(0,A3 f (FI g (pF w 52) (g (pF w 48) + g (pF w 44))) (pc + 1#64) false xt)] 2):=by
 refine Ab ok.k70 rfl fun x hx=>?_
 have hp:pc.toNat < 8192:=YU
 have a1:=A5 w 52
 have a2:=A5 w 48
 have a3:=A5 w 44
 have a4:=A5 w 40
 refine es 2000 ?_;(simp only [f70,c70,Zt,hpc,hw,seval])
 repeat refine sd ?_
 have zz:=@BB.eq_1;refine G0 (AO ok.toOkV w Aa h2) ?_
 (simp only [Mx,hop,seval])
 repeat refine sd ?_
 refine Bq (Nl ok (g (pF w 48)) (g (pF w 44)) (g (pF w 40))) ?_
 (simp only [AH,seval])
 repeat refine sd ?_
 have zz:=Bb @A3.eq_1 Zh;exact Bf hx [0,1] ⟨rfl,rfl,rfl⟩
def i32 (n:Int):Int:=if n % 4294967296 ≥ 2147483648 then n % 4294967296 - 4294967296 else n % 4294967296
structure OkO (M:Seat):Prop extends OkW M where
def wrd (p:Nat→BitVec 8):Nat→BitVec 64
 | 0=>0
 | k + 1=>(wrd p k <<< (8#64).toNat) ||| (p k).setWidth 64
def WK (w:BitVec 64) (j:Nat):BitVec 8:=(w >>> (56 - 8 * j)).setWidth 8
def JB (f:Nat→BitVec 64) (j:Nat):BitVec 8:=WK (f (j / 8)) (j % 8)
end Mv
