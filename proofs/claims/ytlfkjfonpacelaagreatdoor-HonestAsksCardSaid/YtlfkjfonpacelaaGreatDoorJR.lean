/- A part. -/
import Derived.Test.YtlfkjfonpacelaaGreatDoorJL
set_option linter.all false
set_option maxRecDepth 20000
set_option maxHeartbeats 16000000
namespace Mv
open Go
def As2:LC:=(sr [mU 2 0,
 mI 3 0] (sr [mt 8 0,kl 9 361 [(.t 8)],mt 7 9,ee 10 7 0,ee 11 7 1,ee 12 7 2,mt 4 10,mt 5 11,mt 6 12] (.seq (sr [mt 13 6,aI 14 .neq 13 0] (.cond (.t 14) (sr [mt 15 6,
  mU 2 0,mt 3 15] .ret) .skip)) (sr [mt 16 4,aI 17 .add 16 1,mt 18 5,
  aV 19 .mul 2 18,kl 20 362 [(.t 17),(.t 19)],ee 21 20 0,ee 22 20 1,mt 2 21,mt 3 22] .ret))))
def Ap7:LF:=⟨As2,1,0,23,[.tmp 2,.tmp 3]⟩
def Anv:LC:=(sr [mU 2 0,
 mI 3 0] (sr [mt 9 0,kl 10 361 [(.t 9)],mt 8 10,ee 11 8 0,ee 12 8 1,ee 13 8 2,mt 4 11,mt 5 12,mt 6 13] (.seq (sr [mt 14 6,aI 15 .neq 14 0,mt 16 15,mg 17 16 false 4,A2 18 16 false (.ari .eql (.t 17) (cI 24)),
  CQ 19 16 18] (.cond (.t 19) (sr [mU 2 0,
  mI 3 2] .ret) .skip)) (sr [mt 21 4,aI 22 .add 21 1,mt 23 5,
  aV 24 .mul 2 23,
  aU 25 .add 24 2,kl 26 362 [(.t 22),(.t 25)],mt 20 26,ee 27 20 0,ee 28 20 1,mt 7 27,mt 6 28] (.seq (sr [mt 29 6,aI 30 .neq 29 0] (.cond (.t 30) (sr [mU 2 0,
  mI 3 45] .ret) .skip)) (sr [mt 31 7,mt 2 31,
  mI 3 0] .ret))))))
def Ajv:LF:=⟨Anv,1,0,32,[.tmp 2,.tmp 3]⟩
def Arx:LC:=(sr [mU 4 0,
 mI 5 0] (sr [mt 11 0,kl 12 361 [(.t 11)],mt 10 12,ee 13 10 0,ee 14 10 1,ee 15 10 2,mt 6 13,mt 7 14,mt 8 15] (.seq (sr [mt 16 8,aI 17 .neq 16 0,mt 18 17,mg 19 18 false 1,mg 20 18 false 6,A2 21 18 false (.ari .lss (.t 19) (.t 20)),
  CQ 22 18 21,mt 23 22,mg 24 23 false 1,A2 25 23 false (.ari .gtr (.t 24) (cI 24)),
  CQ 26 23 25] (.cond (.t 26) (sr [mU 4 0,
  mI 5 2] .ret) .skip)) (.seq (sr [mt 27 6,mt 9 27] (.block 0 (.loop (.seq (sr [mt 28 9,mt 29 1,ak 30 .lss 28 29]
 (DJ 30 0)) (.seq (.block 1 (.reg [mt 33 7,
  aV 34 .mul 2 33,
  aU 35 .add 34 1,mt 7 35])) (.reg [mt 31 9,aI 32 .add 31 1,mt 9 32])))))) (sr [mt 36 7,mt 4 36,
  mI 5 0] .ret)))))
def Apd:LF:=⟨Arx,2,0,37,[.tmp 4,.tmp 5]⟩
def At9:LC:=(sr [mI 2 0,
 mU 3 0,
 mI 4 0] (sr [mU 5 1] (.seq (sr [mI 6 0] (.block 0 (.loop (.seq (sr [mt 7 6,aI 8 .leq 7 24]
 (DJ 8 0)) (.seq (.block 1 (.seq (sr [mt 11 0,mt 12 5,ak 13 .geq 11 12,mt 14 13,mg 15 14 true 0,mg 16 14 true 5,A2 17 14 true (.ari .mul (cU 2) (.t 16)),A2 18 14 true (.ari .lss (.t 15) (.t 17)),
  HR 19 14 18] (.cond (.t 19) (sr [mt 20 6,mt 21 0,mt 22 5,ak 23 .sub 21 22,mt 2 20,mt 3 23,
  mI 4 0] .ret) .skip)) (.reg [mt 24 5,
  aU 25 .mul 24 2,mt 5 25]))) (.reg [mt 9 6,aI 10 .add 9 1,mt 6 10])))))) (sr [mI 2 0,
  mU 3 0,
  mI 4 2] .ret))))
def Auf:LF:=⟨At9,1,0,26,[.tmp 2,.tmp 3,.tmp 4]⟩
def Ajf:LC:=(sr [mU 4 0,
 mI 5 0] (.seq (sr [mt 8 0,aI 9 .lss 8 0,mt 10 9,mg 11 10 false 0,A2 12 10 false (.ari .gtr (.t 11) (cI 24)),
  CQ 13 10 12] (.cond (.t 13) (sr [mU 4 0,
  mI 5 2] .ret) .skip)) (sr [mU 6 1] (.seq (sr [mI 7 0] (.block 0 (.loop (.seq (sr [mt 14 7,mt 15 0,ak 16 .lss 14 15]
 (DJ 16 0)) (.seq (.block 1 (.reg [mt 19 6,
  aU 20 .mul 19 2,mt 6 20])) (.reg [mt 17 7,aI 18 .add 17 1,mt 7 18])))))) (.seq (sr [mt 21 1,mt 22 6,ak 23 .geq 21 22] (.cond (.t 23) (sr [mU 4 0,
  mI 5 2] .ret) .skip)) (sr [mt 24 6,mt 25 1,ak 26 .add 24 25,mt 4 26,
  mI 5 0] .ret))))))
def Ale:LF:=⟨Ajf,2,0,27,[.tmp 4,.tmp 5]⟩
variable {M:Seat}
structure OkDp (M:Seat):Prop where
 k361:Ar M 361 Auf=true
 k362:Ar M 362 Ale=true
 k266:Ar M 266 Ap7=true
 k267:Ar M 267 Ajv=true
 k270:Ar M 270 Apd=true
def p2 (d:Nat):BitVec 64:=BitVec.ofNat 64 (2 ^ d)
theorem Lg {d:Nat} (hd:d≤25):(p2 d).toNat=2 ^ d:=by
 have:2 ^ d≤33554432:=Nat.pow_le_pow_right (n:=2) Al hd;rw [p2,BitVec.toNat_ofNat,Nat.mod_eq_of_lt Aa]
theorem Un (d:Nat):p2 d * 2#64=p2 (d + 1):=by rw [p2,p2,Nat.pow_succ,BitVec.ofNat_mul]
theorem U7 (d:Nat):2#64 * p2 d=p2 (d + 1):=by rw [p2,p2,Nat.pow_succ,BitVec.ofNat_mul,BitVec.mul_comm]
theorem EP (ok:OkDp M) {k i:Nat} (hk:k≤24) (hi:i < 2 ^ k):Ae M 361 [W (pw k i)] [] 0 (Q3 (B0 (.int .i64 k) (W (BitVec.ofNat 64 i)) (.int .i64 0)) [] 0):=by
 have hn:=M3 hk hi;refine Ab ok.k361 rfl fun x hx=>?_;refine eX ?_;simp only [Auf,At9,LZ,seval];refine Am (σ:=Nat) (fun d=>d≤k) (fun d=>fr 26 [(0,W (pw k i)),(5,W (p2 d)),(6,.int .i64 d)]) (fun _=>[]) (fun _=>0) (fun d=>k - d) 0 Aa ?_ ?_
 ·refine Ak.fr [] [] hx AG Al ?_ ?_;all_goals simp only [p2,Nat.pow_zero,Int.natCast_zero,LY,seval]
 ·intro d hd;refine eX ?_;have w0:((d:Int)≤24)=True:=eq_true Aa;have z0:IntKind.i64.wrap ((d:Int) + 1)=((d + 1:Nat):Int):=AW
  have hge:(p2 d≤pw k i)=True:=eq_true (by
   rw [BitVec.le_def,hn,Lg Aa];have:=Nat.pow_le_pow_right (n:=2) Al hd
   omega)
  by_cases hdk:d=k
  ·subst hdk;have hlt:(pw d i < p2 (d + 1))=True:=eq_true (by rw [BitVec.lt_def,hn,Lg Aa,Nat.pow_succ];omega);have e1:pw d i - p2 d=BitVec.ofNat 64 i:=by have:=Zh hk hi;rw [sh1] at this;exact this
   simp only [w0,hge,U7,hlt,e1,LZ,seval];have zz:=@l5;exact AI hx [] ⟨rfl,rfl,rfl⟩
  ·have hlt:(pw k i < p2 (d + 1))=False:=eq_false (by
    rw [BitVec.lt_def,hn,Lg Aa];have:=Nat.pow_le_pow_right (n:=2) Al (show d + 1≤k by omega)
    omega)
   simp only [w0,hge,U7,hlt,Un,z0,LZ,seval];refine ⟨d + 1,by omega,by omega,?_⟩;refine Ak.fr [] [] hx AG Al ?_ ?_;all_goals simp only [LY,seval]
theorem JD (ok:OkDp M) {k i:Nat} (hk:k≤24) (hi:i < 2 ^ k):Ae M 362 [.int .i64 k,W (BitVec.ofNat 64 i)] [] 0 (Q3 (Ai (W (pw k i)) (.int .i64 0)) [] 0):=by
 have hp:=UO hk;refine Ab ok.k362 rfl fun x hx=>?_;have e0:((k:Int) < 0)=False:=eq_false Aa;have e1:((24:Int) < (k:Int))=False:=eq_false Aa;have hc:(p2 k≤BitVec.ofNat 64 i)=(2 ^ k≤i):=by
  rw [BitVec.le_def,Lg Aa,BitVec.toNat_ofNat,Nat.mod_eq_of_lt Aa]
 have e2:p2 k + BitVec.ofNat 64 i=pw k i:=by rw [p2,pw,BitVec.ofNat_add]
 refine eX ?_;simp only [Ale,Ajf,e0,e1,LZ,seval];refine Am (σ:=Nat) (fun d=>d≤k) (fun d=>fr 27 [(0,.int .i64 k),(1,W (BitVec.ofNat 64 i)),(6,W (p2 d)),(7,.int .i64 d)]) (fun _=>[]) (fun _=>0) (fun d=>k - d) 0 Aa ?_ ?_
 ·refine Ak.fr [] [] hx AG Al ?_ ?_;all_goals simp only [p2,Nat.pow_zero,Int.natCast_zero,LY,seval]
 ·intro d hd;refine eX ?_;have z0:IntKind.i64.wrap ((d:Int) + 1)=((d + 1:Nat):Int):=AW;by_cases hdk:d=k
  ·subst hdk;have w0:((d:Int) < (d:Int))=False:=eq_false Aa;first
   | (have hc2 := hc.trans (eq_false Aa)
      simp only [w0,hc2,e2,LZ,seval]
      (have zz:=@d9;exact AI hx [] ⟨rfl,rfl,rfl⟩))
   | (have hc2 := hc.trans (eq_true hi.1)
      simp only [w0,hc2,e2,LZ,seval]
      (have zz:=@d9;exact AI hx [] ⟨rfl,rfl,rfl⟩))
  ·have w0:((d:Int) < (k:Int))=True:=eq_true Aa;simp only [w0,Un,z0,LZ,seval];refine ⟨d + 1,by omega,by omega,?_⟩;refine Ak.fr [] [] hx AG Al ?_ ?_;all_goals simp only [LY,seval]
theorem PU (ok:OkDp M) {k i:Nat} (hk:k≤24) (hi:2 ^ k≤i∧i < 2 ^ 26):Ae M 362 [.int .i64 k,W (BitVec.ofNat 64 i)] [] 0 (Q3 (Ai (W 0#64) (.int .i64 2)) [] 0):=by
 have hp:=UO hk;refine Ab ok.k362 rfl fun x hx=>?_;have e0:((k:Int) < 0)=False:=eq_false Aa;have e1:((24:Int) < (k:Int))=False:=eq_false Aa;have hc:(p2 k≤BitVec.ofNat 64 i)=(2 ^ k≤i):=by
  rw [BitVec.le_def,Lg Aa,BitVec.toNat_ofNat,Nat.mod_eq_of_lt Aa]
 have e2:p2 k + BitVec.ofNat 64 i=pw k i:=by rw [p2,pw,BitVec.ofNat_add]
 refine eX ?_;simp only [Ale,Ajf,e0,e1,LZ,seval];refine Am (σ:=Nat) (fun d=>d≤k) (fun d=>fr 27 [(0,.int .i64 k),(1,W (BitVec.ofNat 64 i)),(6,W (p2 d)),(7,.int .i64 d)]) (fun _=>[]) (fun _=>0) (fun d=>k - d) 0 Aa ?_ ?_
 ·refine Ak.fr [] [] hx AG Al ?_ ?_;all_goals simp only [p2,Nat.pow_zero,Int.natCast_zero,LY,seval]
 ·intro d hd;refine eX ?_;have z0:IntKind.i64.wrap ((d:Int) + 1)=((d + 1:Nat):Int):=AW;by_cases hdk:d=k
  ·subst hdk;have w0:((d:Int) < (d:Int))=False:=eq_false Aa;first
   | (have hc2 := hc.trans (eq_false Aa)
      simp only [w0,hc2,e2,LZ,seval]
      (have zz:=@d9;exact AI hx [] ⟨rfl,rfl,rfl⟩))
   | (have hc2 := hc.trans (eq_true hi.1)
      simp only [w0,hc2,e2,LZ,seval]
      (have zz:=@d9;exact AI hx [] ⟨rfl,rfl,rfl⟩))
  ·have w0:((d:Int) < (k:Int))=True:=eq_true Aa;simp only [w0,Un,z0,LZ,seval];refine ⟨d + 1,by omega,by omega,?_⟩;refine Ak.fr [] [] hx AG Al ?_ ?_;all_goals simp only [LY,seval]
theorem HX (ok:OkDp M) {k i:Nat} (hk:k < 24) (hi:i < 2 ^ k):Ae M 266 [W (pw k i)] [] 0 (Q3 (Ai (W (pw (k + 1) (2 * i))) (.int .i64 0)) [] 0):=by
 have hM:=JD ok (k:=k + 1) (i:=2 * i) Aa KX;refine Ab ok.k266 rfl fun x hx=>?_;have z1:IntKind.i64.wrap ((k:Int) + 1)=((k + 1:Nat):Int):=AW;refine eX ?_;simp only [Ap7,As2,LZ,seval];refine Aj (EP ok (Nat.le_of_lt hk) hi) ?_;simp only [B0,z1,R5,LZ,seval];refine Aj (hM) ?_;simp only [Bb,seval];have zz:=@d9;exact AI hx [] ⟨rfl,rfl,rfl⟩
theorem Hr (ok:OkDp M) {k i:Nat} (hk:k < 24) (hi:i + 1 < 2 ^ k):Ae M 267 [W (pw k i)] [] 0 (Q3 (Ai (W (pw (k + 1) (2 * i + 2))) (.int .i64 0)) [] 0):=by
 have hM:=JD ok (k:=k + 1) (i:=2 * i + 2) Aa KX;refine Ab ok.k267 rfl fun x hx=>?_;have z1:IntKind.i64.wrap ((k:Int) + 1)=((k + 1:Nat):Int):=AW;have e0:((k:Int)=24)=False:=eq_false Aa;refine eX ?_;simp only [Ajv,Anv,LZ,seval];refine Aj (EP ok (Nat.le_of_lt hk) (show i < 2 ^ k by omega)) ?_;simp only [B0,z1,e0,R5,SW,LZ,seval];refine Aj (hM) ?_;simp only [Bb,seval];have zz:=@d9;exact AI hx [] ⟨rfl,rfl,rfl⟩
theorem MV (ok:OkDp M) {k i:Nat} (hk:k < 24) (hi:i + 1=2 ^ k):Ae M 267 [W (pw k i)] [] 0 (Q3 (Ai (W 0#64) (.int .i64 45)) [] 0):=by
 have hM:=PU ok (k:=k + 1) (i:=2 * i + 2) Aa (by rw [Nat.pow_succ];have:=UO (show k≤24 by omega);omega);refine Ab ok.k267 rfl fun x hx=>?_;have z1:IntKind.i64.wrap ((k:Int) + 1)=((k + 1:Nat):Int):=AW;have e0:((k:Int)=24)=False:=eq_false Aa;refine eX ?_;simp only [Ajv,Anv,LZ,seval];refine Aj (EP ok (Nat.le_of_lt hk) (show i < 2 ^ k by omega)) ?_;simp only [B0,z1,e0,R5,SW,LZ,seval];refine Aj (hM) ?_;simp only [Bb,seval];have zz:=@d9;exact AI hx [] ⟨rfl,rfl,rfl⟩
theorem Yf (k i d:Nat):2#64 * BitVec.ofNat 64 (E3 (k + d) k i) + 1#64=BitVec.ofNat 64 (E3 (k + d + 1) k i):=by
 rw [← BitVec.ofNat_mul,← BitVec.ofNat_add]
 congr 1
 unfold E3;rw [show k + d - k=d by omega,show k + d + 1 - k=d + 1 by omega,Nat.pow_succ];have:=Nat.one_le_two_pow (n:=d);have h2:1 * 2 ^ d≤(i + 1) * 2 ^ d:=Nat.mul_le_mul_right _ Aa;have h3:(i + 1) * (2 ^ d * 2)=2 * ((i + 1) * 2 ^ d):=by rw [← Nat.mul_assoc,Nat.mul_comm]
 omega
theorem GD (ok:OkDp M) {D k i:Nat} (hD:D≤24) (hk:k≤D) (hi:i < 2 ^ k):Ae M 270 [W (pw k i),.int .i64 D] [] 0 (Q3 (Ai (W (BitVec.ofNat 64 (E3 D k i))) (.int .i64 0)) [] 0):=by
 refine Ab ok.k270 rfl fun x hx=>?_;have e0:((D:Int) < (k:Int))=False:=eq_false Aa;have e1:((24:Int) < (D:Int))=False:=eq_false Aa;refine eX ?_;simp only [Apd,Arx,LZ,seval];refine Aj (EP ok (show k≤24 by omega) hi) ?_;simp only [B0,e0,e1,LZ,seval];refine Am (σ:=Nat) (fun d=>k + d≤D) (fun d=>fr 37 [(1,.int .i64 D),(7,W (BitVec.ofNat 64 (E3 (k + d) k i))),(9,.int .i64 ((k + d:Nat):Int))]) (fun _=>[]) (fun _=>0) (fun d=>D - (k + d)) 0 Aa ?_ ?_
 ·refine Ak.fr [] [] hx AG Al ?_ ?_;all_goals simp only [E3,Nat.add_zero,Nat.sub_self,Nat.pow_zero,Nat.mul_one,Nat.add_sub_cancel,LY,seval]
 ·intro d hd;refine eX ?_;have z0:IntKind.i64.wrap (((k + d:Nat):Int) + 1)=((k + (d + 1):Nat):Int):=AW;by_cases hdk:k + d=D
  ·have w0:(((k + d:Nat):Int) < (D:Int))=False:=eq_false Aa;subst hdk;simp only [w0,LZ,seval];have zz:=@d9;exact AI hx [] ⟨rfl,rfl,rfl⟩
  ·have w0:(((k + d:Nat):Int) < (D:Int))=True:=eq_true Aa;simp only [w0,Yf,z0,LZ,seval];refine ⟨d + 1,by omega,by omega,?_⟩;refine Ak.fr [] [] hx AG Al ?_ ?_;all_goals simp only [Nat.add_assoc,LY,seval]
structure Lv where
 kd:Int
 pl:Int
 bd:Int
 v:BitVec 64
def Lv.w (e:Lv):V:=.st 4 (.fcons 0 (.int .i64 e.kd) (.fcons 1 (.int .i64 e.pl) (.fcons 2 (.int .i64 e.bd) (.fcons 3 (W e.v) .fnil))))
def Cl.d (c:Cl):V:=.st 43 (.fcons 0 (.int .i64 c.par) (.fcons 1 (.int .i64 (Gg c.pos:Nat)) (.fcons 2 (W c.pos) (.fcons 3 (dg c.val) (.fcons 35 (.int .i64 c.pl) (.fcons 36 (.int .i64 c.bond) (.fcons 37 (W c.us) (.fcons 38 (W c.at') (.fcons 39 (.bool c.st) (.fcons 40 (.bool c.rs) (.fcons 41 (.bool c.co) (.fcons 42 (.int .i64 c.by') .fnil))))))))))))
def CB (d:Int) (l g:BitVec 64) (s:Dg) (cs ld:V):V:=.st 37 (.fcons 0 (.int .i64 d) (.fcons 1 (W l) (.fcons 2 (W g) (.fcons 3 (dg s) (.fcons 35 cs (.fcons 36 ld .fnil))))))
def C3 (n:Nat) (c:Nat→Cl):V:=.ar 43 n fun j=>(c j).d
def Aqw:LC:=(sr [A1 4 (.mv (.c (.bool false)))] (sr [mt 7 0,kl 8 151 [(.t 7)],kl 9 68 [],mt 5 8,mt 6 9] (.seq (sr [mt 10 5,A1 11 (.eq false true .ptr (.t 10) (.c .nilp)),mt 12 11,mg 13 12 false 6,A2 14 12 false (.eq false true .ptr (.t 13) (.c .nilp)),
  CQ 15 12 14] (.cond (.t 15) (sr [A1 4 (.mv (.c (.bool false)))] .ret) .skip)) (sr [mt 16 5,mt 17 6,mt 18 1,
  DL 19 .u64 18,
  aJ 20 .shl 1 19,kl 21 71 [(.t 16),(.t 17),(.t 20)]] (sr [mt 22 5,nc 23 22,fa 24 8209 23,lb 25 1 24,A1 26 (.un .not (.t 25)),mt 27 26,mg 28 27 false 5,A2 29 27 false (.nilc (.t 28)),A2 30 27 false (.fadr 8210 (.t 29)),A2 31 27 false (.load false 1 (.t 30)),A2 32 27 false (.ari .neq (.t 31) (cU 18446744073709551615)),
  CQ 33 27 32,mt 4 33] .ret)))))
def Aj7:LF:=⟨Aqw,2,0,34,[.tmp 4]⟩
def Y9:LC:=(sr [bX 3 1] (.seq (.regd [⟨0,0,mt 13 0⟩,⟨1,1,nc 14 13⟩,⟨2,3,fa 15 4 14⟩,⟨3,7,lb 16 1 15⟩,⟨4,0,fa 17 5 3⟩,⟨5,16,lb 18 1 17⟩,⟨6,48,aU 19 .rem 18 20⟩,⟨7,127,ak 20 .add 16 19⟩,⟨8,255,nc 21 13⟩,⟨9,511,fa 22 4 21⟩,⟨10,1023,sb 1 22 20⟩]) (.seq (sr [mt 23 0,nc 24 23,fa 25 1 24,lb 26 1 25,kl 27 117 [(.t 26)],aI 28 .eql 27 0] (.cond (.t 28) .ret .skip)) (.seq (.regd [⟨3,0,mt 32 0⟩,⟨4,1,nc 33 32⟩,⟨5,3,fa 34 1 33⟩,⟨6,7,lb 35 1 34⟩,⟨7,15,kl 36 117 [(.t 35)]⟩,⟨0,0,fa 29 0 3⟩,⟨1,32,lb 30 1 29⟩,⟨2,96,DL 31 .u64 30⟩,⟨8,31,DL 37 .u64 36⟩,⟨9,511,ak 38 .rem 31 37⟩,⟨10,1023,DL 39 .i64 38⟩,⟨11,2047,mt 4 39⟩]) (sr [fa 40 2 3,lb 41 1 40,
  DL 42 .u64 41,
  aU 43 .rem 42 7,
  DL 44 .i64 43,
  aJ 45 .add 1 44,mt 5 45] (.seq (sr [fa 46 4 3,lb 47 1 46] (.cond (.t 47) (.seq (.regd [⟨0,0,mt 49 0⟩,⟨1,1,nc 50 49⟩,⟨2,3,fa 51 0 50⟩,⟨3,7,lb 52 1 51⟩,⟨4,0,fa 53 1 3⟩,⟨5,16,lb 54 1 53⟩,⟨6,48,DL 55 .u64 54⟩,⟨7,0,mt 56 0⟩,⟨8,128,nc 57 56⟩,⟨9,384,fa 58 3 57⟩,⟨10,896,lb 59 1 58⟩,⟨11,1920,lN 60 0 59⟩,⟨12,3968,DL 61 .u64 60⟩,⟨13,8176,ak 62 .rem 55 61⟩,⟨14,16383,kl 63 155 [(.t 52),(.t 62)]⟩,⟨15,32767,mt 48 63⟩,⟨16,65535,ee 64 48 0⟩,⟨18,0,A1 6 (.alloc zS)⟩,⟨19,262143,sb 116 6 64⟩,⟨17,65535,ee 65 48 1⟩,⟨20,1048575,mt 7 65⟩]) (.seq (sr [mt 66 7,A1 67 (.eq false true (.iface [74]) (.t 66) (.c .nili))] (.cond (.t 67) (.regd [⟨0,0,mt 68 0⟩,⟨1,1,nc 69 68⟩,⟨2,3,fa 70 1 69⟩,⟨3,7,lb 71 1 70⟩,⟨4,0,mt 72 4⟩,⟨5,0,fa 73 3 3⟩,⟨6,32,lb 74 1 73⟩,⟨7,0,la 75 116 6⟩,⟨8,0,mt 76 5⟩,⟨9,0,mt 77 0⟩,⟨10,512,nc 78 77⟩,⟨11,1536,fa 79 4 78⟩,⟨12,3584,lb 80 1 79⟩,⟨13,8191,kl 81 114 [(.t 71),(.t 72),(.t 74),(.t 75),(.t 76),(.t 80)]⟩]) .skip)) .ret)) .skip)) (sr [mt 83 0,nc 84 83,fa 85 1 84,lb 86 1 85,mt 87 4,kl 88 111 [(.t 86),(.t 87)],mt 82 88,ee 89 82 0,ee 90 82 1,A1 8 (.alloc zC),sb 42 8 89,mt 9 90] (sr [fa 92 1 8,lb 93 1 92,kl 94 130 [(.t 93)],mt 91 94,ee 95 91 0,ee 96 91 1,ee 97 91 2,mt 10 95,mt 11 96,mt 12 97]
 (.regd [⟨7,0,mt 105 0⟩,⟨8,0,fa 106 1 3⟩,⟨9,2,lb 107 1 106⟩,⟨10,7,kl 108 253 [(.t 105),(.t 107)]⟩,⟨12,0,mt 110 10⟩,⟨13,16,aI 111 .add 110 1⟩,⟨14,63,kl 112 120 [(.t 111)]⟩,⟨0,0,mt 98 0⟩,⟨1,128,nc 99 98⟩,⟨2,384,fa 100 1 99⟩,⟨3,896,lb 101 1 100⟩,⟨4,0,mt 102 4⟩,⟨5,0,fa 103 3 3⟩,⟨6,4096,lb 104 1 103⟩,⟨11,0,mt 109 5⟩,⟨15,0,mt 113 0⟩,⟨16,32768,nc 114 113⟩,⟨17,98304,fa 115 4 114⟩,⟨18,229376,lb 116 1 115⟩,⟨19,524287,kl 117 110 [(.t 101),(.t 102),(.t 104),(.t 108),(.t 109),(.t 112),(.t 116)]⟩])))))))))
def Abx:LF:=⟨Y9,2,0,118,[]⟩
def Asn:LC:=(sr [A1 2 (.mv (.c .nilp))] (sr [mt 9 0,nc 10 9,fa 11 1 10,lb 12 1 11,kl 13 119 [(.t 12)],A1 14 (.fld 0 1 false (.t 13)),A1 15 (.build (.st (.cons .slice .nil)) []),
  bX 16 15,A1 17 (.build (.st (.cons zI (.cons zU (.cons zU (.cons zD (.cons .slice (.cons .ptr .nil))))))) [(.f 0,1,(.t 14)),(.f 36,1,(.t 16))]),
  bX 18 17,mt 3 18] (.seq (sr [mt 19 0,nc 20 19,fa 21 1 20,lb 22 1 21,kl 23 117 [(.t 22)],
  mI 24 0] (.block 0 (.loop (sr [ak 25 .lss 24 23] (.seq (DJ 25 0) (.seq (.block 1 (sr [mt 26 24,mt 4 26] (sr [mt 27 0,nc 28 27,fa 29 1 28,lb 30 1 29,mt 31 4,kl 32 164 [(.t 30),(.t 31)],A1 5 (.alloc zC),sb 42 5 32] (sr [fa 34 1 5,lb 35 1 34,kl 36 130 [(.t 35)],mt 33 36,ee 37 33 0,ee 38 33 1,ee 39 33 2,mt 6 37,mt 7 38,mt 8 39]
 (.regd [⟨1,0,mt 41 3⟩,⟨2,1,nc 42 41⟩,⟨3,3,fa 43 35 42⟩,⟨4,7,lb 44 1 43⟩,⟨5,0,fa 45 0 5⟩,⟨6,16,lb 46 1 45⟩,⟨7,0,mt 47 6⟩,⟨8,0,fa 48 1 5⟩,⟨9,128,lb 49 1 48⟩,⟨10,0,fa 50 2 5⟩,⟨11,512,la 51 32 50⟩,⟨12,0,fa 52 38 5⟩,⟨13,2048,lb 53 1 52⟩,⟨14,0,fa 54 39 5⟩,⟨15,8192,lb 55 1 54⟩,⟨16,32752,A1 56 (.build (.st (.cons zI (.cons zI (.cons zU (.cons zD (.cons zI (.cons zI (.cons zU (.cons zU (.cons .bool (.cons .bool (.cons .bool (.cons zI .nil))))))))))))) [(.f 0,1,(.t 46)),(.f 1,1,(.t 47)),(.f 2,1,(.t 49)),(.f 3,32,(.t 51)),(.f 39,1,(.t 53)),(.f 40,1,(.t 55))])⟩,⟨17,65520,A1 57 (.bsl 43 1 (.st (.cons zI (.cons zI (.cons zU (.cons zD (.cons zI (.cons zI (.cons zU (.cons zU (.cons .bool (.cons .bool (.cons .bool (.cons zI .nil))))))))))))) [(.i 43 0,43,(.t 56))])⟩,⟨18,131071,aP 58 43 104 44 57⟩,⟨0,0,mt 40 3⟩,⟨19,524287,nc 59 40⟩,⟨20,1048575,fa 60 35 59⟩,⟨21,2097151,sb 1 60 58⟩]))))) (.reg [aI 61 .add 24 1,mt 24 61]))))))) (sr [mt 62 3,mt 2 62] .ret))))
def Aoj:LF:=⟨Asn,1,0,63,[.tmp 2]⟩
def Apr:LC:=(sr [A1 4 (.mv (.c .nils))] (sr [A1 5 (.mv (.c .nils))] (.seq (sr [mI 6 0] (.block 0 (.loop (.seq (sr [mt 9 6,mt 10 0,nc 11 10,fa 12 35 11,lb 13 1 12,
  lN 14 0 13,ak 15 .lss 9 14]
 (DJ 15 0)) (.seq (.block 1 (.seq (.regd [⟨0,0,mt 19 0⟩,⟨1,1,nc 20 19⟩,⟨2,3,fa 21 35 20⟩,⟨3,7,lb 22 1 21⟩,⟨4,0,mt 23 6⟩,⟨5,31,ia 24 43 22 23⟩,⟨6,63,fa 25 2 24⟩,⟨7,127,lb 26 1 25⟩,⟨8,0,mt 27 0⟩,⟨9,256,nc 28 27⟩,⟨10,768,fa 29 0 28⟩,⟨11,1792,lb 30 1 29⟩,⟨12,4095,kl 31 270 [(.t 26),(.t 30)]⟩,⟨13,8191,mt 18 31⟩,⟨14,16383,ee 32 18 0⟩,⟨15,16383,ee 33 18 1⟩,⟨16,32767,mt 7 32⟩,⟨17,131071,mt 8 33⟩])
 (.regd [⟨0,0,mt 34 5⟩,⟨1,0,mt 35 0⟩,⟨2,2,nc 36 35⟩,⟨3,6,fa 37 35 36⟩,⟨4,14,lb 38 1 37⟩,⟨5,0,mt 39 6⟩,⟨6,62,ia 40 43 38 39⟩,⟨7,126,fa 41 3 40⟩,⟨8,254,la 42 32 41⟩,⟨9,0,mt 43 1⟩,⟨10,0,mt 44 7⟩,⟨11,1536,ia 45 32 43 44⟩,⟨12,3584,la 46 32 45⟩,⟨13,8190,A1 47 (.eq false false (.ar 32 1 false .int) (.t 42) (.t 46))⟩,⟨14,16382,A1 48 (.bsl 1 1 .bool [(.i 1 0,1,(.t 47))])⟩,⟨15,32767,aP 49 1 1 34 48⟩,⟨16,65535,mt 5 49⟩]))) (.reg [mt 16 6,aI 17 .add 16 1,mt 6 17])))))) (sr [mt 50 5,mt 4 50] .ret))))
def Ad2:LF:=⟨Apr,2,0,51,[.tmp 4]⟩
def Apn:LC:=(sr [A1 4 (.alloc zC)] (sr [mt 8 0,mt 9 1,kl 10 111 [(.t 8),(.t 9)],mt 7 10,ee 11 7 0,ee 12 7 1,A1 5 (.alloc zC),sb 42 5 11,mt 6 12] (sr [la 13 42 5,sb 42 4 13] .ret)))
def Afg:LF:=⟨Apn,2,0,14,[.cell 4 true 42]⟩
def Pc:LC:=(sr [A1 6 (.mv (.c (.bool false)))] (.seq (sr [mt 10 2,aI 11 .lss 10 0] (.cond (.t 11) (sr [A1 6 (.mv (.c (.bool true)))] .ret) .skip)) (.seq (sr [mt 12 1,mt 13 2,ia 14 1 12 13,lb 15 1 14,A1 16 (.un .not (.t 15))] (.cond (.t 16) (sr [A1 6 (.mv (.c (.bool false)))] .ret) .skip)) (sr [mt 17 0,nc 18 17,fa 19 35 18,lb 20 1 19,mt 21 2,ia 22 43 20 21,fa 23 0 22,lb 24 1 23,mt 7 24] (.seq (sr [mt 25 7,aI 26 .lss 25 0] (.cond (.t 26) (sr [A1 6 (.mv (.c (.bool true)))] .ret) .skip)) (sr [mt 28 0,nc 29 28,fa 30 35 29,lb 31 1 30,mt 32 7,ia 33 43 31 32,fa 34 2 33,lb 35 1 34,kl 36 266 [(.t 35)],mt 27 36,ee 37 27 0,ee 38 27 1,mt 8 37,mt 9 38] (.seq (sr [mt 39 1,mt 40 7,ia 41 1 39 40,lb 42 1 41] (.cond (.t 42) (.reg [mt 44 0,nc 45 44,fa 46 35 45,lb 47 1 46,mt 48 7,ia 49 43 47 48,fa 50 2 49,lb 51 1 50,kl 52 267 [(.t 51)],mt 43 52,ee 53 43 0,ee 54 43 1,mt 8 53,mt 9 54]) .skip)) (.seq (sr [mt 55 9,aI 56 .neq 55 0,mt 57 56,mg 58 57 false 0,A2 59 57 false (.nilc (.t 58)),A2 60 57 false (.fadr 35 (.t 59)),A2 61 57 false (.load false 1 (.t 60)),mg 62 57 false 2,A2 63 57 false (.isl 43 (.t 61) (.t 62)),A2 64 57 false (.fadr 2 (.t 63)),A2 65 57 false (.load false 1 (.t 64)),mg 66 57 false 8,A2 67 57 false (.ari .neq (.t 65) (.t 66)),
  CQ 68 57 67] (.cond (.t 68) (sr [A1 6 (.mv (.c (.bool false)))] .ret) .skip)) (sr [mt 69 0,mt 70 1,mt 71 0,nc 72 71,fa 73 35 72,lb 74 1 73,mt 75 7,ia 76 43 74 75,fa 77 0 76,lb 78 1 77,kl 79 165 [(.t 69),(.t 70),(.t 78)],mt 6 79] .ret)))))))))
def Ki:LF:=⟨Pc,3,0,80,[.tmp 6]⟩
def WI:LC:=(sr [mt 171 17,A1 172 (.un .not (.t 171))] (.cond (.t 172) (.reg [mt 173 7,la 174 36 12,A1 175 (.bsl 36 1 (.st (.cons zI (.cons .bool (.cons .bool (.cons zD (.cons zU .nil)))))) [(.i 36 0,36,(.t 174))]),
  aP 176 36 56 173 175,mt 7 176]) .skip))
def XI:LC:=(.seq (sr [mt 124 18,mt 125 0,nc 126 125,fa 127 35 126,lb 128 1 127,
 lN 129 0 128,ak 130 .lss 124 129]
 (DJ 130 2)) (.seq (.block 3 (.regd [⟨0,0,mt 133 17⟩,⟨1,1,mt 134 133⟩,⟨2,3,mg 135 134 false 0⟩,⟨3,7,A2 136 134 false (.nilc (.t 135))⟩,⟨4,15,A2 137 134 false (.fadr 35 (.t 136))⟩,⟨5,31,A2 138 134 false (.load false 1 (.t 137))⟩,⟨6,3,mg 139 134 false 18⟩,⟨7,127,A2 140 134 false (.isl 43 (.t 138) (.t 139))⟩,⟨8,255,A2 141 134 false (.fadr 0 (.t 140))⟩,⟨9,511,A2 142 134 false (.load false 1 (.t 141))⟩,⟨10,3,mg 143 134 false 8⟩,⟨11,2047,A2 144 134 false (.ari .eql (.t 142) (.t 143))⟩,⟨12,4095,mg 145 134 false 144⟩,⟨13,8191,mg 146 145 true 0⟩,⟨14,16383,A2 147 145 true (.nilc (.t 146))⟩,⟨15,32767,A2 148 145 true (.fadr 35 (.t 147))⟩,⟨16,65535,A2 149 145 true (.load false 1 (.t 148))⟩,⟨17,8191,mg 150 145 true 18⟩,⟨18,262143,A2 151 145 true (.isl 43 (.t 149) (.t 150))⟩,⟨19,524287,A2 152 145 true (.fadr 2 (.t 151))⟩,⟨20,1048575,A2 153 145 true (.load false 1 (.t 152))⟩,⟨21,8191,mg 154 145 true 13⟩,⟨22,4194303,A2 155 145 true (.ari .eql (.t 153) (.t 154))⟩,⟨23,8388607,A2 156 134 false (.pick (.t 145) (.t 155) (.c (.bool false)))⟩,⟨24,16777215,mg 157 134 false 156⟩,⟨25,33554431,mg 158 157 true 0⟩,⟨26,67108863,A2 159 157 true (.nilc (.t 158))⟩,⟨27,134217727,A2 160 157 true (.fadr 35 (.t 159))⟩,⟨28,268435455,A2 161 157 true (.load false 1 (.t 160))⟩,⟨29,33554431,mg 162 157 true 18⟩,⟨30,1073741823,A2 163 157 true (.isl 43 (.t 161) (.t 162))⟩,⟨31,2147483647,A2 164 157 true (.fadr 3 (.t 163))⟩,⟨32,4294967295,A2 165 157 true (.load true 32 (.t 164))⟩,⟨33,33554431,A2 166 157 true (.fadr 3 (.t 12))⟩,⟨34,8623489023,A2 167 157 true (.load true 32 (.t 166))⟩,⟨35,34359738367,A2 168 157 true (.eq false false (.ar 32 1 false .int) (.t 165) (.t 167))⟩,⟨36,68719476735,A2 169 134 false (.pick (.t 157) (.t 168) (.c (.bool false)))⟩,⟨37,137438953471,CQ 170 134 169⟩,⟨38,274877906943,mt 17 170⟩])) (.reg [mt 131 18,aI 132 .add 131 1,mt 18 132])))
def MZ:LC:=(.seq (sr [mt 25 8,mt 26 0,nc 27 26,fa 28 35 27,lb 29 1 28,
 lN 30 0 29,ak 31 .lss 25 30]
 (DJ 31 0)) (.seq (.block 1 (sr [mt 34 0,nc 35 34,fa 36 35 35,lb 37 1 36,mt 38 8,ia 39 43 37 38,la 40 43 39,A1 9 (.alloc (.st (.cons zI (.cons zI (.cons zU (.cons zD (.cons zI (.cons zI (.cons zU (.cons zU (.cons .bool (.cons .bool (.cons .bool (.cons zI .nil)))))))))))))),sb 43 9 40] (.seq (sr [fa 41 1 9,lb 42 1 41,aI 43 .rem 42 2,mt 44 6,ak 45 .neq 43 44,mt 46 45,A2 47 46 false (.fadr 40 (.t 9)),A2 48 46 false (.load false 1 (.t 47)),
  CQ 49 46 48,mt 50 49,mg 51 50 false 0,mg 52 50 false 5,A2 53 50 false (.fadr 0 (.t 9)),A2 54 50 false (.load false 1 (.t 53)),⟨(some 55),.call 165 [(.t 51),(.t 52),(.t 54)],(some (50,false))⟩,A2 56 50 false (.un .not (.t 55)),
  CQ 57 50 56] (.cond (.t 57) (.exit 1) .skip)) (.seq (.regd [⟨0,0,fa 59 2 9⟩,⟨1,1,lb 60 1 59⟩,⟨2,0,mt 61 0⟩,⟨3,4,nc 62 61⟩,⟨4,12,fa 63 0 62⟩,⟨5,28,lb 64 1 63⟩,⟨6,63,kl 65 270 [(.t 60),(.t 64)]⟩,⟨7,127,mt 58 65⟩,⟨8,255,ee 66 58 0⟩,⟨9,255,ee 67 58 1⟩,⟨10,511,mt 10 66⟩,⟨11,2047,mt 11 67⟩]) (sr [mt 68 8,mt 69 5,mt 70 8,ia 71 1 69 70,lb 72 1 71,A1 73 (.build (.st (.cons zI (.cons .bool (.cons .bool (.cons zD (.cons zU .nil)))))) [(.f 0,1,(.t 68)),(.f 2,1,(.t 72))]),A1 12 (.alloc (.st (.cons zI (.cons .bool (.cons .bool (.cons zD (.cons zU .nil))))))),sb 36 12 73] (.seq (.seq (.regd [⟨0,0,fa 74 1 9⟩,⟨1,1,lb 75 1 74⟩,⟨2,0,mt 76 0⟩,⟨3,4,nc 77 76⟩,⟨4,12,fa 78 0 77⟩,⟨5,28,lb 79 1 78⟩,⟨6,63,ak 80 .eql 75 79⟩]) (.cond (.t 80) (sr [fa 81 1 12,A0 (.store 1 (.t 81) (.c (.bool true)))] (sr [mt 82 10,fa 83 35 12,sb 1 83 82] (.seq (sr [fa 84 2 12,lb 85 1 84] (.cond (.t 85) (.reg [mt 86 10,
  aU 87 .add 86 1,fa 88 35 12,sb 1 88 87]) .skip)) (.seq (sr [fa 89 39 9,lb 90 1 89,A1 91 (.un .not (.t 90))] (.cond (.t 91) (.reg [mt 92 7,la 93 36 12,A1 94 (.bsl 36 1 (.st (.cons zI (.cons .bool (.cons .bool (.cons zD (.cons zU .nil)))))) [(.i 36 0,36,(.t 93))]),
  aP 95 36 56 92 94,mt 7 95]) .skip))
 (.exit 1))))) .skip)) (sr [fa 97 2 9,lb 98 1 97,kl 99 266 [(.t 98)],mt 96 99,ee 100 96 0,ee 101 96 1,mt 13 100,mt 14 101] (.seq (sr [fa 102 2 12,lb 103 1 102] (.cond (.t 103) (.reg [fa 105 2 9,lb 106 1 105,kl 107 267 [(.t 106)],mt 104 107,ee 108 104 0,ee 109 104 1,mt 13 108]) .skip)) (sr [mt 111 13,mt 112 0,nc 113 112,fa 114 0 113,lb 115 1 114,kl 116 270 [(.t 111),(.t 115)],mt 110 116,ee 117 110 0,ee 118 110 1,mt 15 117,mt 16 118] (sr [mt 119 1,mt 120 15,ia 121 32 119 120,la 122 32 121,fa 123 3 12,sb 32 123 122] (sr [A1 17 (.mv (.c (.bool false)))] (.seq (sr [mI 18 0] (.block 2 (.loop (XI))))
 (WI))))))))))))) (.reg [mt 32 8,aI 33 .add 32 1,mt 8 33])))
def Ahy:LC:=(sr [mt 177 7,mt 4 177] .ret)
def Ar3:LC:=(sr [A1 4 (.mv (.c .nils))] (sr [mt 19 0,mt 20 1,kl 21 163 [(.t 19),(.t 20)],mt 5 21] (sr [mI 6 0] (.seq (sr [mt 22 5,
  iJ 23 1 22 0,lb 24 1 23] (.cond (.t 24) (.reg [mI 6 1]) .skip)) (sr [A1 7 (.mv (.c .nils))] (.seq (sr [mI 8 0] (.block 0 (.loop (MZ))))
 (Ahy)))))))
def Aj4:LF:=⟨Ar3,2,0,178,[.tmp 4]⟩
end Mv
