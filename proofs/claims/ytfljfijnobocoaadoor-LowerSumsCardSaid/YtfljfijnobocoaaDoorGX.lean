/- A part. -/
import Derived.Test.YtfljfijnobocoaaDoorGW
set_option linter.all false
set_option maxRecDepth 20000
set_option maxHeartbeats 4000000
namespace Mv
open Go
variable {M:Seat}
structure OkS (M:Seat):Prop extends OkH M where
 k68:Ar M 68 f68=true
 k212:Ar M 212 Akc=true
 k213:Ar M 213 Ajv=true
 k320:Ar M 320 US=true
def Pw (a b:Dg):Pr:=Pr.mk' fun j=>if j < 32 then a.at j else b.at (j - 32)
theorem Ox (ok:OkS M) (a b:Dg):As M 213 [dg a,dg b] [] 0 (Q3 (CS (Pw a b)) [] 0):=by
 refine Ac ok.k213 rfl fun x hx=>?_;have m1:min 32 32=32:=rfl;have m2:∀ i:Nat,(0≤i)=True:=fun i=>eq_true (Nat.zero_le i);refine eX ?_;simp only [Ajv,Apb,AW,m1,m2,Lz,seval];refine Ay.mk hx [] [] (CS (Pw a b)) [] 0 Ab (by simp only [EO,H9,Ez,LZ,seval]) ?_ trivial ⟨rfl,rfl,rfl⟩;simp only [EO,Ez,CS,LZ,seval,LY];intro j hj;rw [Pw,Pr.at_mk' _ _ hj];by_cases h:j < 32
 ·rw [if_neg Aa,if_pos h,if_pos h]
 ·rw [if_pos Aa,if_neg h]
def Fv (ev:Nat) (a b:Pr) (met:Bool):V:=.st 130 (.fcons 0 (.map ev) (.fcons 1 (CS a) (.fcons 65 (CS b) (.fcons 129 (.bool met) .fnil))))
structure WS where
 pres:List (Dg × Pr)
 ever:List (Dg × Pr)
 a:Pr
 b:Pr
 met:Bool
def WS.kin (w:WS) (h:Dg) (p:Pr):WS:=match lkp h w.ever with
 | none=>{ w with ever:=Iz h p w.ever }
 | some q=>if ¬ q=p∧w.met=false then { w with a:=q,b:=p,met:=true } else w
theorem W9 (ok:OkS M) (w:WS) (h:Dg) (p:Pr) :
 As M 320 [.ptr 0 [],dg h,CS p] [(0,Fv 1 w.a w.b w.met),(1,G9 CS Pr.zero w.ever)] 2
  (Q3 (.tup .fnil) [(0,Fv 1 (w.kin h p).a (w.kin h p).b (w.kin h p).met),(1,G9 CS Pr.zero (w.kin h p).ever)] 2):=by
 refine Ac ok.k320 rfl fun x hx=>?_;cases hl:lkp h w.ever with
 | none =>
   refine eX ?_;simp only [US,Wl,Fv,hl,AW,seval];have e:w.kin h p={ w with ever:=Iz h p w.ever }:=by simp only [WS.kin,hl]
   rw [e];refine Vf hx [0,1] (.tup .fnil) ([(0,Fv 1 w.a w.b w.met),(1,G9 CS Pr.zero (Iz h p w.ever))]) 2 ?_;simp only [Fv,Laz,seval]
 | some q =>
   by_cases hq:q=p
   ·have e:w.kin h p=w:=by simp only [WS.kin,hl,hq,not_true_eq_false,false_and,if_false]
    refine eX ?_;simp only [US,Wl,Fv,hl,hq,AW,seval];rw [e];refine Vf hx [0,1] (.tup .fnil) ([(0,Fv 1 w.a w.b w.met),(1,G9 CS Pr.zero w.ever)]) 2 ?_;simp only [Fv,Laz,seval]
   ·cases hm:w.met with
    | true =>
      have e:w.kin h p=w:=by simp [WS.kin,hl,hm]
      refine eX ?_;simp only [US,Wl,Fv,hl,hq,AW,hm,seval];rw [e];refine Vf hx [0,1] (.tup .fnil) ([(0,Fv 1 w.a w.b w.met),(1,G9 CS Pr.zero w.ever)]) 2 ?_;simp only [Fv,hm,Laz,seval]
    | false =>
      have e:w.kin h p={ w with a:=q,b:=p,met:=true }:=by simp [WS.kin,hl,hm,hq]
      refine eX ?_;simp only [US,Wl,Fv,hl,hq,AW,hm,seval];rw [e];refine Vf hx [0,1] (.tup .fnil) ([(0,Fv 1 q p true),(1,G9 CS Pr.zero w.ever)]) 2 ?_;simp only [Fv,hm,Laz,seval]
def Aae (va:V):V:=.st 4 (.fcons 0 (.map 1) (.fcons 1 (.ptr 2 []) (.fcons 2 (.map 4) (.fcons 3 va .fnil))))
def Lbz:=(BK @Fv.eq_1 @Aae.eq_1)
def Ri (w:WS) (va:V):Hp:=[(0,Aae va),(1,G9 CS Pr.zero w.pres),(2,Fv 3 w.a w.b w.met),(3,G9 CS Pr.zero w.ever)]
def WS.add (w:WS) (p:Pr):WS:=({ w with pres:=Iz (I8 p.at) p w.pres }:WS).kin (I8 p.at) p
theorem Ak2 (w:WS) (l:List (Dg × Pr)) (h:Dg) (p:Pr):({ w with pres:=l }:WS).kin h p={ w.kin h p with pres:=l }:=by
 unfold WS.kin;dsimp only;split <;> (try split) <;> rfl
theorem TC (okA:OkM M) (ok:OkS M) (w:WS) (p:Pr)  :
 As M 212 [.ptr 0 [],CS p] (Ri w (.nils)) 5 (Q3 (AP (dg (I8 p.at)) .nili) (Ri (w.add p) (.nils)) 5):=by
 refine Ac ok.k212 rfl fun x hx=>?_;have e:w.add p={ w.kin (I8 p.at) p with pres:=Iz (I8 p.at) p w.pres }:=by rw [WS.add,Ak2]
 refine eX ?_;simp only [Akc,Ao0,Ri,Aae,AW,seval];have zz:=@CS.eq_1;refine IQ (Rg okA ok.toOkH p.at) ?_;simp only [AW,seval];have zz:=BK @LMS @Fv.eq_1;refine omY [2,3] (W9 ok w (I8 p.at) p) ?_;simp only [AW,Fv,seval];refine Vf hx [0,1,2,3,4] (AP (dg (I8 p.at)) .nili) (Ri (w.add p) (.nils)) 5 ?_;all_goals simp only [Ri,Lbz,e,Laz,seval]
def PT:Nat→WS
 | 0=>⟨[],[],Pr.zero,Pr.zero,false⟩
 | n + 1=>(PT n).add (Pw (Dd n) (Dd n))
def JC (l:List (Dg × Bool)):V:=G9 V.bool false l
def HA (w:WS) (va:V) (l:List (Dg × Bool)):Hp:=[(0,Aae va),(1,G9 CS Pr.zero w.pres),(2,Fv 3 w.a w.b w.met),(3,G9 CS Pr.zero w.ever),(4,JC l)]
theorem Gc (H:Hp) (m z:List Nat) (l:List (Dg × Bool)):Aw H m z (JC l) (JC l)=True:=eq_true (RM H m z V.bool (fun _=>rfl) false l)
theorem Mu (l:List (Dg × Bool)):AG (JC l)=True:=eq_true (P4 V.bool (fun _=>trivial) false l)
theorem Ke (m:List Nat) (l:List (Dg × Bool)):(JC l).ren m=JC l:=SX m V.bool (fun _=>rfl) false l
theorem OA (okA:OkM M) (ok:OkS M):As M 68 [] [] 0 (Q3 (.ptr 0 []) (HA (PT 16) .nils []) 5):=by
 refine Ac ok.k68 rfl fun x hx=>?_;refine eX ?_;simp only [f68,c68,AW,seval];refine Au (σ:=Nat) (fun n=>n≤16) (fun n=>fr 27 [(1,.ptr 0 []),(12,.int .i64 n)]) (fun n=>HA (PT n) .nils []) (fun _=>5) (fun n=>16 - n) 0 Aa ?_ ?_
 ·refine Av.fr [112,16,64,32,80] [] hx Bg Ab ?_ ?_
  ·simp only [LY,seval]
  ·simp only [HA,Lbz,PT,JC,pr0,Laz,seval]
 ·intro n hn;refine eX ?_;by_cases h16:n=16
  ·subst h16;simp only [LZ,seval];refine Vf hx [0,1,2,3,4] (.ptr 0 []) (HA (PT 16) .nils []) 5 ?_;all_goals simp only [HA,Lbz,Gc,Laz,seval]
  ·have d0:((n:Int) < 16)=True:=eq_true Aa;have w0:IntKind.i64.wrap ((n:Int) + 1)=((n + 1:Nat):Int):=B7;simp only [d0,HA,LZ,seval];refine Ap (Vm okA n Aa) ?_;simp only [EM,seval];have zz:=@LMS;refine IQ (Ox ok (Dd n) (Dd n)) ?_;simp only [AW,seval];have zz:=Jr @LMS @Ri.eq_1 Lbz;refine cbY [0,1,2,3,4] [0,1,2,3] (TC okA ok (PT n) (Pw (Dd n) (Dd n))) ?_;simp only [Lax,Ri,Lbz,Gc,Ke,w0,seval];refine ⟨n + 1,by omega,by omega,?_⟩;refine Av.fr [0,1,2,3,4] [] hx Bg Ab ?_ ?_
   ·simp only [LY,seval]
   ·simp only [HA,Lbz,PT,Gc,Laz,seval]
end Mv
namespace Mv
open Go
def c70:LC:=(sr [mn 4] (.seq (sr [mt 14 0,A1 15 (.eq false true .ptr (.t 14) (.c .nilp)),mt 16 15,mg 17 16 false 1,A2 18 16 false (.eq false true .ptr (.t 17) (.c .nilp)),
  FB 19 16 18] (.cond (.t 19) (sr [A1 20 (.mkif 74 (cI 1)),mt 4 20] .ret) .skip)) (.seq (sr [mt 21 0,nc 22 21,fa 23 8209 22,lb 24 1 23] (.cond (.t 24) (sr [mn 4] .ret) .skip)) (.seq (sr [mt 25 0,nc 26 25,fa 27 8208 26,lb 28 1 27,
  aU 29 .geq 28 8192] (.cond (.t 29) (sr [mt 30 0,kl 31 214 [(.t 30),(cU 18446744073709551614)]] (sr [mn 4] .ret)) .skip)) (.seq (.regd [⟨0,0,mt 33 0⟩,⟨1,0,mt 34 0⟩,⟨2,2,nc 35 34⟩,⟨3,6,fa 36 8208 35⟩,⟨4,14,lb 37 1 36⟩,⟨5,1,nc 38 33⟩,⟨6,33,fa 39 0 38⟩,⟨7,127,ib 40 8192 1 39 37⟩,⟨8,255,lb 41 1 40⟩,⟨9,511,kl 42 79 [(.t 41)]⟩,⟨10,1023,mt 32 42⟩,⟨11,2047,ee 43 32 0⟩,⟨12,2047,ee 44 32 1⟩,⟨13,2047,ee 45 32 2⟩,⟨14,2047,ee 46 32 3⟩,⟨15,2047,ee 47 32 4⟩,⟨16,2047,ee 48 32 5⟩,⟨17,2047,ee 49 32 6⟩,⟨18,4095,mt 5 43⟩,⟨19,270335,mt 6 44⟩,⟨20,802815,mt 7 45⟩,⟨21,1867775,mt 8 46⟩,⟨22,3997695,mt 9 47⟩,⟨23,8257535,mt 10 48⟩,⟨24,16777215,mt 11 49⟩]) (.seq (sr [mt 50 11,A1 51 (.un .not (.t 50))] (.cond (.t 51) (sr [mt 52 0,kl 53 214 [(.t 52),(cU 18446744073709551614)]] (sr [mn 4] .ret)) .skip)) (sr [mt 54 0,nc 55 54,fa 56 8192 55,mt 12 56] (sr [mt 57 12,mt 58 7,nc 59 57,ib 60 16 1 59 58,lb 61 1 60,mt 62 10,
  Ea 63 .u64 62,ak 64 .add 61 63,mt 13 64] (.seq (.block 0 (sr [mt 66 5,aI 67 .eql 66 0,mt 65 67] (.cond (.t 65) (sr [mt 68 0,mt 69 12,mt 70 7,nc 71 69,ib 72 16 1 71 70,lb 73 1 72,kl 74 214 [(.t 68),(.t 73)]] (sr [mn 4] .ret)) (sr [mt 76 5,aI 77 .lss 76 26,mt 75 77] (.cond (.t 75) (.regd [⟨2,0,mt 81 5⟩,⟨3,0,mt 82 12⟩,⟨4,0,mt 83 7⟩,⟨5,2,nc 84 82⟩,⟨6,14,ib 85 16 1 84 83⟩,⟨7,30,lb 86 1 85⟩,⟨8,0,mt 87 12⟩,⟨9,0,mt 88 8⟩,⟨10,64,nc 89 87⟩,⟨11,448,ib 90 16 1 89 88⟩,⟨12,960,lb 91 1 90⟩,⟨13,0,mt 92 12⟩,⟨14,0,mt 93 9⟩,⟨15,2048,nc 94 92⟩,⟨16,14336,ib 95 16 1 94 93⟩,⟨17,30720,lb 96 1 95⟩,⟨18,65535,kl 97 215 [(.t 81),(.t 86),(.t 91),(.t 96)]⟩,⟨0,0,mt 79 12⟩,⟨1,0,mt 80 6⟩,⟨19,131071,mt 78 97⟩,⟨20,655359,ee 98 78 0⟩,⟨22,131072,nc 100 79⟩,⟨23,4194303,ib 101 16 1 100 80⟩,⟨24,8388607,sb 1 101 98⟩,⟨21,655359,ee 99 78 1⟩]) (sr [mt 103 5,aI 104 .eql 103 26,mt 102 104] (.cond (.t 102) (.reg [mt 105 12,mt 106 6,mt 107 10,
  Ea 108 .u64 107,nc 109 105,ib 110 16 1 109 106,sb 1 110 108]) (sr [mt 112 5,aI 113 .eql 112 27,mt 114 113,mg 115 114 false 5,A2 116 114 false (.ari .eql (.t 115) (cI 28)),
  FB 117 114 116,mt 111 117] (.cond (.t 111) (.seq (sr [mt 118 13,
  aU 119 .geq 118 8192] (.cond (.t 119) (sr [mt 120 0,kl 121 214 [(.t 120),(cU 18446744073709551614)]] (sr [mn 4] .ret)) .skip)) (sr [mt 122 5,aI 123 .eql 122 27] (.cond (.t 123) (.regd [⟨0,0,mt 124 12⟩,⟨1,0,mt 125 6⟩,⟨2,0,mt 126 0⟩,⟨3,0,mt 127 13⟩,⟨4,4,nc 128 126⟩,⟨5,20,fa 129 0 128⟩,⟨6,60,ib 130 8192 1 129 127⟩,⟨7,124,lb 131 1 130⟩,⟨8,1,nc 132 124⟩,⟨9,511,ib 133 16 1 132 125⟩,⟨10,1023,sb 1 133 131⟩]) (.regd [⟨0,0,mt 134 0⟩,⟨1,0,mt 135 13⟩,⟨2,0,mt 136 12⟩,⟨3,0,mt 137 8⟩,⟨4,4,nc 138 136⟩,⟨5,28,ib 139 16 1 138 137⟩,⟨6,60,lb 140 1 139⟩,⟨7,1,nc 141 134⟩,⟨8,129,fa 142 0 141⟩,⟨9,511,ib 143 8192 1 142 135⟩,⟨10,1023,sb 1 143 140⟩])))) (sr [mt 145 5,aI 146 .lss 145 34,mt 144 146] (.cond (.t 144) (sr [mt 147 0,mt 148 5,mt 149 6,mt 150 7,mt 151 10,
  Ea 152 .u64 151,kl 153 216 [(.t 147),(.t 148),(.t 149),(.t 150),(.t 152)]] (sr [mn 4] .ret)) (.seq (.regd [⟨0,0,mt 155 0⟩,⟨1,0,mt 156 1⟩,⟨2,0,mt 157 5⟩,⟨3,0,mt 158 12⟩,⟨4,0,mt 159 7⟩,⟨5,8,nc 160 158⟩,⟨6,56,ib 161 16 1 160 159⟩,⟨7,120,lb 162 1 161⟩,⟨8,0,mt 163 12⟩,⟨9,0,mt 164 8⟩,⟨10,256,nc 165 163⟩,⟨11,1792,ib 166 16 1 165 164⟩,⟨12,3840,lb 167 1 166⟩,⟨13,8191,kl 168 217 [(.t 155),(.t 156),(.t 157),(.t 162),(.t 167)]⟩,⟨14,16383,A1 169 (.un .not (.t 168))⟩,⟨15,32767,mt 154 169⟩]) (.cond (.t 154) (sr [mn 4] .ret) .skip))))))))))))) (sr [mt 170 0,nc 171 170,fa 172 8208 171,lb 173 1 172,
  aU 174 .add 173 1,nc 175 170,fa 176 8208 175,sb 1 176 174] (sr [mn 4] .ret)))))))))))
def f70:LF:=⟨c70,2,0,177,[.tmp 4]⟩
def c71:LC:=(sr [mI 6 0,mn 7] (.seq (.block 0 (sr [mt 10 0,A1 11 (.eq false true .ptr (.t 10) (.c .nilp)),mt 12 11,mg 13 12 false 1,A2 14 12 false (.eq false true .ptr (.t 13) (.c .nilp)),
  FB 15 12 14,mt 9 15] (.cond (.t 9) (sr [A1 16 (.mkif 74 (cI 1)),
  mI 6 0,mt 7 16] .ret) (sr [mt 18 2,aI 19 .lss 18 0,mt 17 19] (.cond (.t 17) (sr [A1 20 (.mkif 74 (cI 2)),
  mI 6 0,mt 7 20] .ret) .skip))))) (sr [mI 8 0] (.seq (.block 1 (.loop (.seq (sr [mt 21 8,mt 22 2,ak 23 .lss 21 22,mt 24 23,mg 25 24 true 0,A2 26 24 true (.nilc (.t 25)),A2 27 24 true (.fadr 8209 (.t 26)),A2 28 24 true (.load false 1 (.t 27)),A2 29 24 true (.un .not (.t 28)),
  N6 30 24 29]
 (Fy 30 1)) (.block 2 (sr [mt 31 0,mt 32 1,kl 33 70 [(.t 31),(.t 32)]] (.reg [mt 34 8,aI 35 .add 34 1,mt 8 35])))))) (sr [mt 36 8,mt 6 36,mn 7] .ret)))))
def f71:LF:=⟨c71,3,0,37,[.tmp 6,.tmp 7]⟩
def c76:LC:=(sr [mU 12 0,mn 13] (.seq (sr [mt 17 0,aI 18 .lss 17 0,mt 19 18,mg 20 19 false 0,A2 21 19 false (.ari .gtr (.t 20) (cI 35)),
  FB 22 19 21,mt 23 22,mg 24 23 false 5,mg 25 23 false 5,A2 26 23 false (.conv .i32 (.t 25)),A2 27 23 false (.conv .i64 (.t 26)),A2 28 23 false (.ari .neq (.t 24) (.t 27)),
  FB 29 23 28] (.cond (.t 29) (sr [A1 30 (.mkif 74 (cI 2)),
  mU 12 0,mt 13 30] .ret) .skip)) (sr [mt 31 0,
  Ea 32 .u64 31,mt 14 32] (.seq (sr [mt 33 1,mt 34 2,mt 35 3,mt 36 4,A1 37 (.bsl 1 4 zI [(.i 1 0,1,(.t 33)),(.i 1 1,1,(.t 34)),(.i 1 2,1,(.t 35)),(.i 1 3,1,(.t 36))]),
  lN 38 0 37,
  mI 39 0] (.block 0 (.loop (sr [ak 40 .lss 39 38] (.seq (Fy 40 0) (.seq (.block 1 (sr [ia 41 1 37 39,lb 42 1 41,mt 16 42] (.seq (sr [mt 43 16,aI 44 .lss 43 0,mt 45 44,mg 46 45 false 16,A2 47 45 false (.ari .gtr (.t 46) (cI 15)),
  FB 48 45 47] (.cond (.t 48) (sr [A1 49 (.mkif 74 (cI 2)),
  mU 12 0,mt 13 49] .ret) .skip)) (.reg [mt 50 14,
  aU 51 .shl 50 4,mt 52 16,
  Ea 53 .u64 52,ak 54 .or 51 53,mt 14 54])))) (.reg [aI 55 .add 39 1,mt 39 55]))))))) (sr [mt 56 14,
  aU 57 .shl 56 40,mt 58 5,
  Ea 59 .u32 58,
  Ea 60 .u64 59,ak 61 .or 57 60,mt 12 61,mn 13] .ret)))))
def f76:LF:=⟨c76,6,0,62,[.tmp 12,.tmp 13]⟩
def c79:LC:=(sr [bX 1 0,
 mI 2 0,
 mI 3 0,
 mI 4 0,
 mI 5 0,
 mI 6 0,
 mI 7 0,A1 8 (.mv (.c (.bool false)))] (sr [lb 10 1 1,
  aU 11 .shr 10 56,
  Ea 12 .i64 11,mt 2 12] (.seq (sr [mt 13 2,aI 14 .gtr 13 35,mt 15 14,A2 16 15 false (.load false 1 (.t 1)),A2 17 15 false (.ari .shr (.t 16) (cU 32)),A2 18 15 false (.ari .and (.t 17) (cU 255)),A2 19 15 false (.ari .neq (.t 18) (cU 0)),
  FB 20 15 19] (.cond (.t 20) (sr [mI 2 0,
  mI 3 0,
  mI 4 0,
  mI 5 0,
  mI 6 0,
  mI 7 0,A1 8 (.mv (.c (.bool false)))] .ret) .skip)) (sr [A1 21 (.mkfn 220 [(.t 1)]),mt 9 21] (.seq (.regd [⟨1,0,mt 23 9⟩,⟨2,1,⟨(some 24),.dyn (.t 23) [(cI 52)],none⟩⟩,⟨3,0,mt 25 9⟩,⟨4,7,⟨(some 26),.dyn (.t 25) [(cI 48)],none⟩⟩,⟨5,0,mt 27 9⟩,⟨6,31,⟨(some 28),.dyn (.t 27) [(cI 44)],none⟩⟩,⟨7,0,mt 29 9⟩,⟨8,127,⟨(some 30),.dyn (.t 29) [(cI 40)],none⟩⟩,⟨0,0,mt 22 2⟩,⟨9,0,lb 31 1 1⟩,⟨10,512,Ea 32 .i32 31⟩,⟨11,1536,Ea 33 .i64 32⟩,⟨12,511,mt 2 22⟩,⟨13,4607,mt 3 24⟩,⟨14,12799,mt 4 26⟩,⟨15,29183,mt 5 28⟩,⟨16,61951,mt 6 30⟩,⟨17,131071,mt 7 33⟩,⟨18,262143,A1 8 (.mv (.c (.bool true)))⟩]) .ret)))))
def f79:LF:=⟨c79,1,0,34,[.tmp 2,.tmp 3,.tmp 4,.tmp 5,.tmp 6,.tmp 7,.tmp 8]⟩
def Ama:LC:=.reg [mt 4 0,mt 5 0,mt 6 1,nc 7 4,fa 8 8209 7,A0 (.store 1 (.t 8) (.c (.bool true))),nc 9 5,fa 10 8210 9,sb 1 10 6]
def Agt:LF:=⟨Ama,2,0,11,[]⟩
def Am8:LC:=(sr [mt 11 0,nc 12 11,fa 13 8192 12,mt 10 13] (.seq (sr [mt 14 1] (.block 0 (.seq (sr [aI 16 .eql 14 30,mt 15 16] (.cond (.t 15) .skip (.reg [aI 17 .eql 14 31,mt 15 17]))) (.cond (.t 15) (sr [mt 18 10,mt 19 3,nc 20 18,ib 21 16 1 20 19,lb 22 1 21,
  aU 23 .eql 22 0,mt 24 1,aI 25 .eql 24 30,A1 26 (.eq true false .bool (.t 23) (.t 25))] (.cond (.t 26) (sr [mt 27 0,nc 28 27,fa 29 8208 28,lb 30 1 29,
  aU 31 .add 30 1,nc 32 27,fa 33 8208 32,sb 1 33 31] .ret) .skip)) (sr [aI 35 .eql 14 33,mt 34 35] (.cond (.t 34) (.reg [mt 36 10,mt 37 3,nc 38 36,ib 39 16 1 38 37,lb 40 1 39,mt 4 40]) .skip)))))) (.seq (sr [mt 41 4,
  aU 42 .geq 41 8192] (.cond (.t 42) (sr [mt 43 0,kl 44 214 [(.t 43),(cU 18446744073709551614)]] .ret) .skip)) (.seq (sr [mt 45 1,aI 46 .eql 45 32] (.cond (.t 46) (.regd [⟨0,0,mt 47 10⟩,⟨1,0,mt 48 2⟩,⟨2,0,mt 49 0⟩,⟨3,4,nc 50 49⟩,⟨4,12,fa 51 8208 50⟩,⟨5,28,lb 52 1 51⟩,⟨6,60,aU 53 .add 52 1⟩,⟨7,1,nc 54 47⟩,⟨8,255,ib 55 16 1 54 48⟩,⟨9,511,sb 1 55 53⟩]) .skip)) (.reg [mt 56 0,mt 57 4,nc 58 56,fa 59 8208 58,sb 1 59 57])))))
def Ajn:LF:=⟨Am8,5,0,60,[]⟩
def Ams:LC:=(sr [mI 3 0] (sr [lb 4 1 1,mt 5 0,ak 6 .shr 4 5,
  aU 7 .and 6 15,
  Ea 8 .i64 7,mt 3 8] .ret))
def Aj8:LF:=⟨Ams,1,1,9,[.tmp 3]⟩
def Adk:LC:=(sr [mU 8 0,mn 9] (.seq (sr [mt 10 0] (.block 0 (.seq (.block 17 (.seq (.block 16 (.seq (.block 15 (.seq (.block 14 (.seq (.block 13 (.seq (.block 12 (.seq (.block 11 (.seq (.block 10 (.seq (.block 9 (.seq (.block 8 (.seq (.block 7 (.seq (.block 6 (.seq (.block 5 (.seq (.block 4 (.seq (.block 3 (.seq (.block 2 (.seq (.block 1 (.seq (.seq (sr [aI 12 .eql 10 1,mt 11 12] (.cond (.t 11) (.exit 1) .skip)) (.seq (sr [aI 14 .eql 10 2,mt 13 14] (.cond (.t 13) (.exit 2) .skip)) (.seq (sr [aI 16 .eql 10 3,mt 15 16] (.cond (.t 15) (.exit 3) .skip)) (.seq (.seq (sr [aI 18 .eql 10 4,mt 17 18] (.cond (.t 17) .skip (sr [aI 19 .eql 10 5,mt 17 19] (.cond (.t 17) .skip (sr [aI 20 .eql 10 6,mt 17 20] (.cond (.t 17) .skip (.reg [aI 21 .eql 10 7,mt 17 21]))))))) (.cond (.t 17) (.exit 4) .skip)) (.seq (.seq (sr [aI 23 .eql 10 8,mt 22 23] (.cond (.t 22) .skip (.reg [aI 24 .eql 10 9,mt 22 24]))) (.cond (.t 22) (.exit 5) .skip)) (.seq (sr [aI 26 .eql 10 10,mt 25 26] (.cond (.t 25) (.exit 6) .skip)) (.seq (.seq (sr [aI 28 .eql 10 11,mt 27 28] (.cond (.t 27) .skip (sr [aI 29 .eql 10 12,mt 27 29] (.cond (.t 27) .skip (sr [aI 30 .eql 10 13,mt 27 30] (.cond (.t 27) .skip (sr [aI 31 .eql 10 14,mt 27 31] (.cond (.t 27) .skip (.reg [aI 32 .eql 10 15,mt 27 32]))))))))) (.cond (.t 27) (.exit 7) .skip)) (.seq (sr [aI 34 .eql 10 17,mt 33 34] (.cond (.t 33) (.exit 8) .skip)) (.seq (sr [aI 36 .eql 10 16,mt 35 36] (.cond (.t 35) (.exit 9) .skip)) (.seq (sr [aI 38 .eql 10 19,mt 37 38] (.cond (.t 37) (.exit 10) .skip)) (.seq (sr [aI 40 .eql 10 18,mt 39 40] (.cond (.t 39) (.exit 11) .skip)) (.seq (sr [aI 42 .eql 10 21,mt 41 42] (.cond (.t 41) (.exit 12) .skip)) (.seq (sr [aI 44 .eql 10 20,mt 43 44] (.cond (.t 43) (.exit 13) .skip)) (.seq (sr [aI 46 .eql 10 22,mt 45 46] (.cond (.t 45) (.exit 14) .skip)) (.seq (sr [aI 48 .eql 10 23,mt 47 48] (.cond (.t 47) (.exit 15) .skip)) (.seq (sr [aI 50 .eql 10 25,mt 49 50] (.cond (.t 49) (.exit 16) .skip)) (sr [aI 52 .eql 10 24,mt 51 52] (.cond (.t 51) (.exit 17) .skip))))))))))))))))))
 (.exit 0))) (.seq (sr [mt 53 1,mt 54 2,ak 55 .add 53 54,mt 8 55,mn 9] .ret)
 (.exit 0)))) (.seq (sr [mt 56 1,mt 57 2,ak 58 .sub 56 57,mt 8 58,mn 9] .ret)
 (.exit 0)))) (.seq (sr [mt 59 1,mt 60 2,ak 61 .mul 59 60,mt 8 61,mn 9] .ret)
 (.exit 0)))) (.seq (sr [mt 62 0,mt 63 1,mt 64 2,kl 65 321 [(.t 62),(.t 63),(.t 64)],mt 8 65,mn 9] .ret)
 (.exit 0)))) (.seq (sr [mt 66 0,mt 67 1,mt 68 2,mt 69 3,kl 70 322 [(.t 66),(.t 67),(.t 68),(.t 69)],mt 8 70,mn 9] .ret)
 (.exit 0)))) (.seq (sr [mt 71 1,mt 72 2,kl 73 323 [(.t 71),(.t 72)],mt 8 73,mn 9] .ret)
 (.exit 0)))) (.seq (sr [mt 74 0,mt 75 1,mt 76 2,kl 77 324 [(.t 74),(.t 75),(.t 76)],mt 8 77,mn 9] .ret)
 (.exit 0)))) (.reg [mt 78 2,mt 79 1,mt 1 78,mt 2 79]))) (.seq (sr [mt 80 1,mt 81 2,ak 82 .lss 80 81,kl 83 325 [(.t 82)],mt 8 83,mn 9] .ret)
 (.exit 0)))) (.reg [mt 84 2,mt 85 1,mt 1 84,mt 2 85]))) (.seq (sr [mt 86 1,
  Ea 87 .i64 86,mt 88 2,
  Ea 89 .i64 88,ak 90 .lss 87 89,kl 91 325 [(.t 90)],mt 8 91,mn 9] .ret)
 (.exit 0)))) (.reg [mU 2 0]))) (.seq (sr [mt 92 1,mt 93 2,ak 94 .eql 92 93,kl 95 325 [(.t 94)],mt 8 95,mn 9] .ret)
 (.exit 0)))) (.seq (sr [mt 96 1,mt 97 2,ak 98 .and 96 97,mt 8 98,mn 9] .ret)
 (.exit 0)))) (.seq (sr [mt 99 1,mt 100 2,ak 101 .or 99 100,mt 8 101,mn 9] .ret)
 (.exit 0)))) (.reg [mU 2 18446744073709551615]))) (.seq (sr [mt 102 1,mt 103 2,ak 104 .xor 102 103,mt 8 104,mn 9] .ret)
 (.exit 0))))) (sr [A1 105 (.mkif 74 (cI 10)),
  mU 8 0,mt 9 105] .ret)))
def Xg:LF:=⟨Adk,4,0,106,[.tmp 8,.tmp 9]⟩
variable {M:Seat}
structure OkV (M:Seat):Prop extends OkS M where
 k70:Ar M 70 f70=true
 k71:Ar M 71 f71=true
 k79:Ar M 79 f79=true
 k214:Ar M 214 Agt=true
 k216:Ar M 216 Ajn=true
 k220:Ar M 220 Aj8=true
 fn220:Fs M 220
def Xf (w:BitVec 64):Nat:=(w >>> 56).toNat
def pF (w:BitVec 64) (k:Nat):Nat:=(w >>> k &&& 15#64).toNat
def pN (w:BitVec 64):Int:=(w.setWidth 32).toInt
theorem Adr (w:BitVec 64):(w >>> 56).toInt=(Xf w:Int):=by
 have h:(w >>> 56).toNat < 256:=by rw [BitVec.toNat_ushiftRight,Nat.shiftRight_eq_div_pow];have:=w.isLt;omega
 rw [BitVec.toInt_eq_toNat_cond,if_pos Aa];rfl
theorem Cf (w:BitVec 64) (k:Nat):pF w k < 16:=by
 rw [pF,BitVec.toNat_and];exact Nat.lt_of_le_of_lt Nat.and_le_right Ab
theorem Ah3 (w:BitVec 64) (k:Nat):(w >>> k &&& 15#64).toInt=(pF w k:Int):=by
 have h:=Cf w k;rw [BitVec.toInt_eq_toNat_cond,if_pos (by unfold pF at h;omega)];rfl
theorem M5 (ok:OkV M) (f g:Nat→BitVec 64) (pc:BitVec 64) (hl:Bool) (xt e:BitVec 64) :
 As M 214 [.ptr 0 [],W e] [(0,AL f g pc hl xt)] 1 (Q3 (.tup .fnil) [(0,AL f g pc true e)] 1):=by
 refine Ac ok.k214 rfl fun x hx=>?_;refine eX ?_;simp only [Agt,Ama,PG,seval];refine Vf hx [0] (.tup .fnil) ([(0,AL f g pc true e)]) 1 ?_;all_goals simp only [AL,LY,seval]
theorem EU (ok:OkV M) (w:BitVec 64) (k:Nat):As M 220 [.int .i64 k,.imm (W w)] [] 0 (Q3 (.int .i64 (pF w k:Nat)) [] 0):=by
 refine Ac ok.k220 rfl fun x hx=>?_;refine eX ?_;simp only [Aj8,Ams,LZ,seval];simp only [Ah3];repeat refine sd ?_
 refine Ay.mk hx [] [] (.int .i64 (pF w k:Nat)) [] 0 Ab (by (simp only [Dz,seval])) (by (try simp only [DK,seval]) <;> exact q2) trivial ⟨rfl,rfl,rfl⟩
def Fg (w:BitVec 64):V:=.tup (.fcons 0 (.int .i64 (Xf w)) (.fcons 1 (.int .i64 (pF w 52)) (.fcons 2 (.int .i64 (pF w 48)) (.fcons 3 (.int .i64 (pF w 44)) (.fcons 4 (.int .i64 (pF w 40)) (.fcons 5 (.int .i64 (pN w)) (.fcons 6 (.bool true) .fnil)))))))
def Lba:=(BK @LZ @Fg.eq_1)
theorem CY (ok:OkV M) (w:BitVec 64) (h1:Xf w≤35) (h2:w >>> 32 &&& 255#64=0#64):As M 79 [W w] [] 0 (Q3 (Fg w) [] 0):=by
 refine Ac ok.k79 rfl fun x hx=>?_;have e1:((35:Int) < (Xf w:Int))=False:=eq_false Aa;refine eX ?_;simp only [f79,c79,Adr,e1,h2,LZ,seval];have wn:IntKind.i64.wrap (w.setWidth 32).toInt=pN w:=by
  have h1:=BitVec.toInt_lt (x:=w.setWidth 32);have h2:=BitVec.le_toInt (x:=w.setWidth 32);rw [AR Aa];rfl
 refine oyK (ok.fn220) (EU ok w 52) (by (try simp only [LY,seval]) <;> exact q1) (by simp only [LX]) ?_;simp only [LZ,seval];refine oyK (ok.fn220) (EU ok w 48) (by (try simp only [LY,seval]) <;> exact q1) (by simp only [LX]) ?_;simp only [LZ,seval];refine oyK (ok.fn220) (EU ok w 44) (by (try simp only [LY,seval]) <;> exact q1) (by simp only [LX]) ?_;simp only [LZ,seval];refine oyK (ok.fn220) (EU ok w 40) (by (try simp only [LY,seval]) <;> exact q1) (by simp only [LX]) ?_;simp only [wn,LZ,seval];refine Ay.mk hx [] [] (Fg w) [] 0 Ab (by simp only [Laj,Lk,LZ,seval]) ?_ trivial ⟨rfl,rfl,rfl⟩;simp only [Lba,EO,Ez,KI,seval,LY]
abbrev XZ:BitVec 64:=18446744073709551614#64
theorem FF (ok:OkV M) (f g:Nat→BitVec 64) (pc xt:BitVec 64) (hpc:¬ 8192#64≤pc) (w:BitVec 64) (hw:f pc.toNat=w) (hop:Xf w=28) (h2:w >>> 32 &&& 255#64=0#64) (wh:BitVec 64) (hwh:g (pF w 48) + BitVec.ofInt 64 (pN w)=wh) (hlt:¬ 8192#64≤wh) :
 As M 70 [.ptr 0 [],.ptr 1 []] [(0,AL f g pc false xt)] 2 (Q3 .nili [(0,AL (Df f wh.toNat (g (pF w 44))) g (pc + 1#64) false xt)] 2):=by
 refine Ac ok.k70 rfl fun x hx=>?_;have hp:pc.toNat < 8192:=Um;have a1:=Cf w 52;have a2:=Cf w 48;have a3:=Cf w 44;have a4:=Cf w 40;have hp2:wh.toNat < 8192:=by rw [BitVec.le_def] at hlt;simpa using hlt
 refine eX ?_;simp only [f70,c70,PG,hpc,hw,seval];repeat refine sd ?_
 have zz:=@Fg.eq_1;refine opY (CY ok w Aa h2) ?_;simp only [Lba,hop,hlt,hwh,seval];repeat refine sd ?_
 refine Vf hx [0,1] (.nili) ([(0,AL (Df f wh.toNat (g (pF w 44))) g (pc + 1#64) false xt)]) 2 ?_;all_goals simp only [AL,Lc1,LY,seval]
theorem KX (ok:OkV M) (f g:Nat→BitVec 64) (pc xt:BitVec 64) (hpc:¬ 8192#64≤pc) (w:BitVec 64) (hw:f pc.toNat=w) (hop:Xf w=27) (h2:w >>> 32 &&& 255#64=0#64) (wh:BitVec 64) (hwh:g (pF w 48) + BitVec.ofInt 64 (pN w)=wh) (hlt:¬ 8192#64≤wh) :
 As M 70 [.ptr 0 [],.ptr 1 []] [(0,AL f g pc false xt)] 2 (Q3 .nili [(0,AL f (Df g (pF w 52) (f wh.toNat)) (pc + 1#64) false xt)] 2):=by
 refine Ac ok.k70 rfl fun x hx=>?_;have hp:pc.toNat < 8192:=Um;have a1:=Cf w 52;have a2:=Cf w 48;have a3:=Cf w 44;have a4:=Cf w 40;have hp2:wh.toNat < 8192:=by rw [BitVec.le_def] at hlt;simpa using hlt
 refine eX ?_;simp only [f70,c70,PG,hpc,hw,seval];repeat refine sd ?_
 have zz:=@Fg.eq_1;refine opY (CY ok w Aa h2) ?_;simp only [Lba,hop,hlt,hwh,seval];repeat refine sd ?_
 refine Vf hx [0,1] (.nili) ([(0,AL f (Df g (pF w 52) (f wh.toNat)) (pc + 1#64) false xt)]) 2 ?_;all_goals simp only [AL,Lc1,LY,seval]
theorem FJ (ok:OkV M) (f g:Nat→BitVec 64) (pc xt:BitVec 64) (hpc:¬ 8192#64≤pc) (w:BitVec 64) (hw:f pc.toNat=w) (hop:Xf w=26) (h2:w >>> 32 &&& 255#64=0#64) :
 As M 70 [.ptr 0 [],.ptr 1 []] [(0,AL f g pc false xt)] 2 (Q3 .nili [(0,AL f (Df g (pF w 52) (BitVec.ofInt 64 (pN w))) (pc + 1#64) false xt)] 2):=by
 refine Ac ok.k70 rfl fun x hx=>?_;have hp:pc.toNat < 8192:=Um;have a1:=Cf w 52;have a2:=Cf w 48;have a3:=Cf w 44;have a4:=Cf w 40;refine eX ?_;simp only [f70,c70,PG,hpc,hw,seval];repeat refine sd ?_
 have zz:=@Fg.eq_1;refine opY (CY ok w Aa h2) ?_;simp only [Lba,hop,seval];repeat refine sd ?_
 refine Vf hx [0,1] (.nili) ([(0,AL f (Df g (pF w 52) (BitVec.ofInt 64 (pN w))) (pc + 1#64) false xt)]) 2 ?_;all_goals simp only [AL,Lc1,LY,seval]
theorem GE (ok:OkV M) (f g:Nat→BitVec 64) (pc xt:BitVec 64) (hpc:¬ 8192#64≤pc) (w:BitVec 64) (hw:f pc.toNat=w) (hop:Xf w=0) (h2:w >>> 32 &&& 255#64=0#64) :
 As M 70 [.ptr 0 [],.ptr 1 []] [(0,AL f g pc false xt)] 2 (Q3 .nili [(0,AL f g pc true (g (pF w 48)))] 2):=by
 refine Ac ok.k70 rfl fun x hx=>?_;have hp:pc.toNat < 8192:=Um;have a1:=Cf w 52;have a2:=Cf w 48;have a3:=Cf w 44;have a4:=Cf w 40;refine eX ?_;simp only [f70,c70,PG,hpc,hw,seval];repeat refine sd ?_
 have zz:=@Fg.eq_1;refine opY (CY ok w Aa h2) ?_;simp only [Lba,hop,seval];repeat refine sd ?_
 have zz:=@b5;refine cmY [0] (M5 ok f g pc false xt (g (pF w 48))) ?_;simp only [PG,seval];refine Vf hx [0,1] (.nili) ([(0,AL f g pc true (g (pF w 48)))]) 2 ?_;all_goals simp only [AL,Lc1,LY,seval]
def c8:=@Fg.eq_1
end Mv
