/- A part. -/
import Derived.Test.YtfljfijnobocoaaDoorGZ
set_option linter.all false
set_option maxRecDepth 20000
set_option maxHeartbeats 4000000
namespace Mv
open Go
variable {M:Seat}
theorem Xk {A B c:BitVec 64} (h1:A < c):TA A B < c:=by
 rw [BitVec.lt_def] at *
 rw [MM];have hB:=B.isLt;apply (Nat.div_lt_iff_lt_mul Ab).2;exact Nat.lt_of_le_of_lt (Nat.mul_le_mul_left _ (Nat.le_of_lt hB)) (Nat.mul_lt_mul_of_pos_right h1 Ab)
theorem Ae3 {A B c:BitVec 64} (h1:A < c) (h2:B < c):Zm A B < c:=by
 rw [BitVec.lt_def] at *
 unfold Zm;split
 ·show 0 < _;omega
 ·show 1 < _;omega
theorem MQ (a c:BitVec 64) (hc:¬ c=0#64):HMod.hMod a c < c:=by
 rw [BitVec.lt_def,BitVec.toNat_umod];refine Nat.mod_lt _ (Nat.pos_of_ne_zero fun h=>hc (BitVec.eq_of_toNat_eq V0))
theorem NZ (a b:BitVec 64) (H:Hp):Qg (W a) (W b) (W 0#64) H=⟨True,.tup (.fcons 0 (W (a + b)) (.fcons 1 (W (Zm a b)) .fnil)),H⟩:=Od a b H
theorem Aar (A B:BitVec 64):(Zm A B).toNat * 18446744073709551616 + (A + B).toNat=A.toNat + B.toNat:=by
 have h1:=A.isLt;have h2:=B.isLt;rw [BitVec.toNat_add];unfold Zm;split
 ·show 0 * 18446744073709551616 + _=_;omega
 ·show 1 * 18446744073709551616 + _=_;omega
theorem Adu (a b c:BitVec 64):((Zm (HMod.hMod a c) (HMod.hMod b c)).toNat * 18446744073709551616 + (HMod.hMod a c + HMod.hMod b c).toNat) % c.toNat=(a.toNat + b.toNat) % c.toNat:=by
 rw [Aar,BitVec.toNat_umod,BitVec.toNat_umod,← Nat.add_mod]
theorem Abi (a b c:BitVec 64):((TA (HMod.hMod a c) (HMod.hMod b c)).toNat * 18446744073709551616 + (HMod.hMod a c * HMod.hMod b c).toNat) % c.toNat=(a.toNat * b.toNat) % c.toNat:=by
 have e:(TA (HMod.hMod a c) (HMod.hMod b c)).toNat * 18446744073709551616 + (HMod.hMod a c * HMod.hMod b c).toNat=(HMod.hMod a c).toNat * (HMod.hMod b c).toNat:=by
  rw [MM,BitVec.toNat_mul];have:=Nat.div_add_mod ((HMod.hMod a c).toNat * (HMod.hMod b c).toNat) 18446744073709551616;have e2:(2:Nat) ^ 64=18446744073709551616:=Ab;rw [e2];omega
 rw [e,BitVec.toNat_umod,BitVec.toNat_umod,← Nat.mul_mod]
theorem PX (ok:OkP M) (a b c:BitVec 64):∃ w,(c ≠ 0#64→w.toNat=(a.toNat + b.toNat) % c.toNat)∧(c=0#64→w=0#64)∧As M 322 [.int .i64 8,W a,W b,W c] [] 0 (Q3 (W w) [] 0):=by
 by_cases hc:c=0#64
 ·subst hc;refine ⟨0#64,fun h=>absurd rfl h,fun _=>rfl,Ac ok.k322 rfl fun x hx=>?_⟩;refine eX ?_;simp only [Vu,Z9,LZ,seval];exact Ay.mkZ hx [] ⟨rfl,rfl,rfl⟩
 ·have hcn:(c ≠ 0)=True:=eq_true hc;have hA':=MQ a c hc;have hB':=MQ b c hc;obtain ⟨A,hA⟩:∃ A,HMod.hMod a c=A:=⟨_,rfl⟩
  obtain ⟨B,hB⟩:∃ B,HMod.hMod b c=B:=⟨_,rfl⟩
  rw [hA] at hA';rw [hB] at hB';obtain ⟨q,r,hrn,hr⟩:=OE ok (Zm A B) (A + B) c (Ae3 hA' hB');refine ⟨r,fun _=>by rw [hrn,← hA,← hB];exact Adu a b c,fun h=>absurd h hc,Ac ok.k322 rfl fun x hx=>?_⟩;obtain ⟨hi,hhi⟩:∃ hi,Zm A B=hi:=⟨_,rfl⟩
  obtain ⟨lo,hlo⟩:∃ lo,A + B=lo:=⟨_,rfl⟩
  rw [hhi,hlo] at hr;refine eX ?_;simp only [Vu,Z9,hc,hcn,hA,hB,LZ,seval];repeat refine sd ?_
  refine Ap (Jy ok A B) ?_;simp only [EM,hhi,hlo,NZ,seval];repeat refine sd ?_
  refine Ap (hr) ?_;simp only [EM,seval];exact Ay.mkZ hx [] ⟨rfl,rfl,rfl⟩
theorem Q1 (ok:OkP M) (a b c:BitVec 64):∃ w,(c ≠ 0#64→w.toNat=(a.toNat * b.toNat) % c.toNat)∧(c=0#64→w=0#64)∧As M 322 [.int .i64 9,W a,W b,W c] [] 0 (Q3 (W w) [] 0):=by
 by_cases hc:c=0#64
 ·subst hc;refine ⟨0#64,fun h=>absurd rfl h,fun _=>rfl,Ac ok.k322 rfl fun x hx=>?_⟩;refine eX ?_;simp only [Vu,Z9,LZ,seval];exact Ay.mkZ hx [] ⟨rfl,rfl,rfl⟩
 ·have hcn:(c ≠ 0)=True:=eq_true hc;have hA':=MQ a c hc;have hB':=MQ b c hc;obtain ⟨A,hA⟩:∃ A,HMod.hMod a c=A:=⟨_,rfl⟩
  obtain ⟨B,hB⟩:∃ B,HMod.hMod b c=B:=⟨_,rfl⟩
  rw [hA] at hA';rw [hB] at hB';obtain ⟨q,r,hrn,hr⟩:=OE ok (TA A B) (A * B) c (Xk hA');refine ⟨r,fun _=>by rw [hrn,← hA,← hB];exact Abi a b c,fun h=>absurd h hc,Ac ok.k322 rfl fun x hx=>?_⟩;obtain ⟨hi,hhi⟩:∃ hi,TA A B=hi:=⟨_,rfl⟩
  obtain ⟨lo,hlo⟩:∃ lo,A * B=lo:=⟨_,rfl⟩
  rw [hhi,hlo] at hr;refine eX ?_;simp only [Vu,Z9,hc,hcn,hA,hB,LZ,seval];repeat refine sd ?_
  refine Ap (Jy ok A B) ?_;simp only [EM,hhi,hlo,NZ,seval];repeat refine sd ?_
  refine Ap (hr) ?_;simp only [EM,seval];exact Ay.mkZ hx [] ⟨rfl,rfl,rfl⟩
theorem GU (b:BitVec 64) (n:Nat):BitVec.ofInt 64 (b.toInt.fdiv (2 ^ min n 64))=b.sshiftRight n:=by
 rw [Int.fdiv_eq_ediv_of_nonneg _ (Int.pow_nonneg Ab),BitVec.sshiftRight,Int.shiftRight_eq_div_pow]
 congr 1
 have h1:=BitVec.toInt_lt (x:=b);have h2:=BitVec.le_toInt b;by_cases h:n≤64
 ·rw [Nat.min_eq_left h,Aga]
 ·rw [Nat.min_eq_right Aa];have hp:(18446744073709551616:Int)≤((2 ^ n:Nat):Int):=by
   have:=Nat.pow_le_pow_right (n:=2) Ab (show 64≤n by omega);have e:(2:Nat) ^ 64=18446744073709551616:=Ab;omega
  have e64:(2:Int) ^ 64=18446744073709551616:=Ab;rw [e64];generalize ((2 ^ n:Nat):Int)=m at hp;have e63:(2:Int) ^ (64 - 1)=9223372036854775808:=Ab;rw [e63] at h1 h2;by_cases hb:0≤b.toInt
  ·rw [Int.ediv_eq_zero_of_lt hb Aa,Int.ediv_eq_zero_of_lt hb Aa]
  ·have k1:b.toInt / 18446744073709551616 = -1:=Aa;have k2:b.toInt / m = -1:=by
    have l1:-1≤b.toInt / m:=(Int.le_ediv_iff_mul_le Aa).2 Aa;have l2:b.toInt / m < 0:=Int.ediv_neg_of_neg_of_pos Aa Aa;omega
   rw [k1,k2]
def F5 (op:Nat) (a b:BitVec 64):BitVec 64 :=
 if op=11 then (if 7#64≤a then b else (b <<< (56#64 - 8#64 * a)).sshiftRight (56#64 - 8#64 * a).toNat)
 else if op=12 then (if 7#64 < a then 0#64 else (b >>> (56#64 - 8#64 * a)) &&& 255#64)
 else if op=13 then b <<< a else if op=14 then b >>> a else b.sshiftRight a.toNat
theorem JJ (ok:OkP M) (a b:BitVec 64):As M 324 [.int .i64 11,W a,W b] [] 0 (Q3 (W (F5 11 a b)) [] 0):=by
 generalize hF:F5 11 a b=F;simp only [F5,seval,Dh] at hF;rcases Classical.propComplete (7#64≤a) with h | h
 ·refine Ac ok.k324 rfl fun x hx=>?_;simp only [h,if_true] at hF;refine eX ?_;simp only [Nn,OQ,h,GU,LZ,seval];repeat refine sd ?_
  subst hF;exact Ay.mkZ hx [] ⟨rfl,rfl,rfl⟩
 ·refine Ac ok.k324 rfl fun x hx=>?_;simp only [h,if_false] at hF;refine eX ?_;simp only [Nn,OQ,h,GU,LZ,seval];repeat refine sd ?_
  subst hF;exact Ay.mkZ hx [] ⟨rfl,rfl,rfl⟩
theorem K4 (ok:OkP M) (a b:BitVec 64):As M 324 [.int .i64 12,W a,W b] [] 0 (Q3 (W (F5 12 a b)) [] 0):=by
 generalize hF:F5 12 a b=F;simp only [F5,seval,Dh] at hF;rcases Classical.propComplete (7#64 < a) with h | h
 ·refine Ac ok.k324 rfl fun x hx=>?_;simp only [h,if_true] at hF;refine eX ?_;simp only [Nn,OQ,h,GU,LZ,seval];repeat refine sd ?_
  subst hF;exact Ay.mkZ hx [] ⟨rfl,rfl,rfl⟩
 ·refine Ac ok.k324 rfl fun x hx=>?_;simp only [h,if_false] at hF;refine eX ?_;simp only [Nn,OQ,h,GU,LZ,seval];repeat refine sd ?_
  subst hF;exact Ay.mkZ hx [] ⟨rfl,rfl,rfl⟩
theorem J7 (ok:OkP M) (a b:BitVec 64):As M 324 [.int .i64 13,W a,W b] [] 0 (Q3 (W (F5 13 a b)) [] 0):=by
 generalize hF:F5 13 a b=F;simp only [F5,seval,Dh] at hF;refine Ac ok.k324 rfl fun x hx=>?_;refine eX ?_;simp only [Nn,OQ,GU,LZ,seval];repeat refine sd ?_
 subst hF;exact Ay.mkZ hx [] ⟨rfl,rfl,rfl⟩
theorem K5 (ok:OkP M) (a b:BitVec 64):As M 324 [.int .i64 14,W a,W b] [] 0 (Q3 (W (F5 14 a b)) [] 0):=by
 generalize hF:F5 14 a b=F;simp only [F5,seval,Dh] at hF;refine Ac ok.k324 rfl fun x hx=>?_;refine eX ?_;simp only [Nn,OQ,GU,LZ,seval];repeat refine sd ?_
 subst hF;exact Ay.mkZ hx [] ⟨rfl,rfl,rfl⟩
theorem K6 (ok:OkP M) (a b:BitVec 64):As M 324 [.int .i64 15,W a,W b] [] 0 (Q3 (W (F5 15 a b)) [] 0):=by
 generalize hF:F5 15 a b=F;simp only [F5,seval,Dh] at hF;refine Ac ok.k324 rfl fun x hx=>?_;refine eX ?_;simp only [Nn,OQ,GU,LZ,seval];repeat refine sd ?_
 subst hF;exact Ay.mkZ hx [] ⟨rfl,rfl,rfl⟩
def Dn (op:Nat) (a b c:BitVec 64):BitVec 64 :=
 if op=1 then a + b else if op=2 then a - b else if op=3 then a * b
 else if op=4 ∨ op=5 ∨ op=6 ∨ op=7 then EF op a b
 else if op=8 then (if c=0#64 then 0#64 else BitVec.ofNat 64 ((a.toNat + b.toNat) % c.toNat))
 else if op=9 then (if c=0#64 then 0#64 else BitVec.ofNat 64 ((a.toNat * b.toNat) % c.toNat))
 else if op=10 then Zg 64 a b 1#64
 else if op=11 ∨ op=12 ∨ op=13 ∨ op=14 ∨ op=15 then F5 op a b
 else if op=16 then V4 (decide (a < b)) else if op=17 then V4 (decide (b < a))
 else if op=18 then V4 (decide (a.toInt < b.toInt)) else if op=19 then V4 (decide (b.toInt < a.toInt))
 else if op=20 then V4 (decide (a=b)) else if op=21 then V4 (decide (a=0#64))
 else if op=22 then a &&& b else if op=23 then a ||| b else if op=24 then a ^^^ b else a ^^^ 18446744073709551615#64
theorem Afy {w:BitVec 64} {n:Nat} {c:BitVec 64} (h1:c ≠ 0#64→w.toNat=n % c.toNat) (h2:c=0#64→w=0#64):w=(if c=0#64 then 0#64 else BitVec.ofNat 64 (n % c.toNat)):=by
 split
 ·rename_i h;exact h2 h
 ·rename_i h;apply BitVec.eq_of_toNat_eq;have hc:=c.isLt;have h0:0 < c.toNat:=Nat.pos_of_ne_zero fun e=>h (BitVec.eq_of_toNat_eq (by simpa using e));rw [h1 h,BitVec.toNat_ofNat];exact (Nat.mod_eq_of_lt (Nat.lt_trans (Nat.mod_lt _ h0) hc)).symm
theorem Q8 (ok:OkP M) (op:Nat) (h1:1≤op) (h2:op≤25) (a b c:BitVec 64):As M 215 [.int .i64 op,W a,W b,W c] [] 0 (Q3 (AP (W (Dn op a b c)) .nili) [] 0):=by
 have c1:((1:Nat):Int)=1:=rfl;have hd:=fun (op:Nat) h=>ML ok op h a b;have h4:=hd 4 Ab;have h5:=hd 5 Ab;have h6:=hd 6 Ab;have h7:=hd 7 Ab;obtain ⟨w8,p8,z8,h8⟩:=PX ok a b c;obtain ⟨w9,p9,z9,h9⟩:=Q1 ok a b c;rw [Afy p8 z8] at h8;rw [Afy p9 z9] at h9;have h10:=QD ok a b;have h11:=JJ ok a b;have h12:=K4 ok a b;have h13:=J7 ok a b;have h14:=K5 ok a b;have h15:=K6 ok a b;have hf:=fun t=>To ok t;have hop:op=1 ∨ op=2 ∨ op=3 ∨ op=22 ∨ op=23 ∨ op=24 ∨ op=25 ∨ op=16 ∨ op=17 ∨ op=18 ∨ op=19 ∨ op=20 ∨ op=21 ∨ op=4 ∨ op=5 ∨ op=6 ∨ op=7 ∨ op=8 ∨ op=9 ∨ op=10 ∨ op=11 ∨ op=12 ∨ op=13 ∨ op=14 ∨ op=15:=Aa;rcases hop with rfl | rfl | rfl | rfl | rfl | rfl | rfl | rfl | rfl | rfl | rfl | rfl | rfl | rfl | rfl | rfl | rfl | rfl | rfl | rfl | rfl | rfl | rfl | rfl | rfl;all_goals
  generalize hF:Dn _ a b c=F;simp only [Dn,seval,Dh,or_true,true_or,or_self,or_false] at hF
 iterate 7
  focus
   refine Ac ok.k215 rfl fun x hx=>?_;refine eX ?_;simp only [Xg,Adk,c1,Lbp,seval];subst hF;exact Ay.mkZ hx [] ⟨rfl,rfl,rfl⟩
 iterate 6
  focus
   refine Ac ok.k215 rfl fun x hx=>?_;refine eX ?_;simp only [Xg,Adk,Lbp,seval];refine Ap (hf _) ?_;simp only [LZ,seval];subst hF;exact Ay.mkZ hx [] ⟨rfl,rfl,rfl⟩
 all_goals
  refine Ac ok.k215 rfl fun x hx=>?_;refine eX ?_;simp only [Xg,Adk,Lbp,seval];first
   | (refine Ap (h4) ?_)
   | (refine Ap (h5) ?_)
   | (refine Ap (h6) ?_)
   | (refine Ap (h7) ?_)
   | (refine Ap (h8) ?_)
   | (refine Ap (h9) ?_)
   | (refine Ap (h10) ?_)
   | (refine Ap (h11) ?_)
   | (refine Ap (h12) ?_)
   | (refine Ap (h13) ?_)
   | (refine Ap (h14) ?_)
   | (refine Ap (h15) ?_)
  simp only [LZ,seval];subst hF;exact Ay.mkZ hx [] ⟨rfl,rfl,rfl⟩
end Mv
namespace Mv
open Go
inductive Ex where
 | mk (op:Int) (n:BitVec 64) (as:List Ex)
inductive IrSt where
 | mk (kind n:Int) (a b:Ex) (body els:List IrSt)
structure Fu where
 params:Int
 locals:Int
 body:List IrSt
mutual
def AE:Ex→V
 | .mk op n as=>.st 3 (.fcons 0 (.int .i64 op) (.fcons 1 (W n) (.fcons 2 (AF as) .fnil)))
def AF:List Ex→V
 | []=>.nils
 | x :: r=>.lst 3 (r.length + 1) (fun i=>match i with | 0=>AE x | i + 1=>F7 r i)
def F7:List Ex→Nat→V
 | [],_=>.junk
 | x :: r,i=>match i with | 0=>AE x | i + 1=>F7 r i
end
mutual
def GN:IrSt→V
 | .mk kind n a b body els=>.st 10 (.fcons 0 (.int .i64 kind) (.fcons 1 (.int .i64 n) (.fcons 2 (AE a) (.fcons 5 (AE b) (.fcons 8 (DZ body) (.fcons 9 (DZ els) .fnil))))))
def DZ:List IrSt→V
 | []=>.nils
 | x :: r=>.lst 10 (r.length + 1) (fun i=>match i with | 0=>GN x | i + 1=>Fb r i)
def Fb:List IrSt→Nat→V
 | [],_=>.junk
 | x :: r,i=>match i with | 0=>GN x | i + 1=>Fb r i
end
def fuV (f:Fu):V:=.st 3 (.fcons 0 (.int .i64 f.params) (.fcons 1 (.int .i64 f.locals) (.fcons 2 (DZ f.body) .fnil)))
def BW:List Fu→Nat→V
 | [],_=>.junk
 | x :: r,i=>match i with | 0=>fuV x | i + 1=>BW r i
def FC:List Fu→V
 | []=>.nils
 | x :: r=>.lst 3 (r.length + 1) (BW (x :: r))
theorem KC (x:Ex) (r:List Ex):AF (x :: r) = .lst 3 (r.length + 1) (F7 (x :: r)):=by
 simp only [AF];congr 1
theorem OH (x:IrSt) (r:List IrSt):DZ (x :: r) = .lst 10 (r.length + 1) (Fb (x :: r)):=by
 simp only [DZ];congr 1
theorem M7:∀ (l:List Ex) (i:Nat) (h:i < l.length),F7 l i=AE l[i]
 | x :: r,0,_=>by simp only [F7];rfl
 | x :: r,i + 1,h=>by simp only [F7];exact M7 r i V0
theorem Jn:∀ (l:List IrSt) (i:Nat) (h:i < l.length),Fb l i=GN l[i]
 | x :: r,0,_=>by simp only [Fb];rfl
 | x :: r,i + 1,h=>by simp only [Fb];exact Jn r i V0
theorem MW:∀ (l:List Fu) (i:Nat) (h:i < l.length),BW l i=fuV l[i]
 | x :: r,0,_=>by simp only [BW];rfl
 | x :: r,i + 1,h=>by simp only [BW];exact MW r i V0
mutual
theorem A9 (a:List Nat):∀ x,(AE x).ren a=AE x
 | .mk op n as=>by simp only [AE,V.ren,W,Abz a as]
theorem Abz (a:List Nat):∀ l,(AF l).ren a=AF l
 | []=>rfl
 | x :: r => by
   simp only [AF,V.ren]
   congr 1
   funext i;cases i with
   | zero=>exact A9 a x
   | succ i=>exact R0 a r i
theorem R0 (a:List Nat):∀ l i,(F7 l i).ren a=F7 l i
 | [],_=>rfl
 | x :: r,0=>by simp only [F7];exact A9 a x
 | x :: r,i + 1=>by simp only [F7];exact R0 a r i
end
mutual
theorem SV (a:List Nat):∀ x,(GN x).ren a=GN x
 | .mk kind n p q b e=>by simp only [GN,V.ren,W,A9,Ja a b,Ja a e]
theorem Ja (a:List Nat):∀ l,(DZ l).ren a=DZ l
 | []=>rfl
 | x :: r => by
   simp only [DZ,V.ren]
   congr 1
   funext i;cases i with
   | zero=>exact SV a x
   | succ i=>exact Se a r i
theorem Se (a:List Nat):∀ l i,(Fb l i).ren a=Fb l i
 | [],_=>rfl
 | x :: r,0=>by simp only [Fb];exact SV a x
 | x :: r,i + 1=>by simp only [Fb];exact Se a r i
end
theorem H7 (a:List Nat):∀ l i,(BW l i).ren a=BW l i
 | [],_=>rfl
 | x :: r,0=>by simp only [BW,fuV,V.ren,Ja]
 | x :: r,i + 1=>by simp only [BW];exact H7 a r i
theorem Ad (a:List Nat):∀ l,(FC l).ren a=FC l
 | []=>rfl
 | x :: r=>by simp only [FC,V.ren];congr 1;funext i;exact H7 a _ i
mutual
theorem EY (H:Hp) (m z:List Nat):∀ x,Aw H m z (AE x) (AE x)
 | .mk op n as => by
   have h:=SZ H m z as;simp only [AE,LY,seval,h]
theorem SZ (H:Hp) (m z:List Nat):∀ l,Aw H m z (AF l) (AF l)
 | []=>by simp only [AF,LY,seval]
 | x :: r => by
   simp only [AF,LY,seval];intro i _;cases i with
   | zero=>exact EY H m z x
   | succ i=>exact SQ H m z r i
theorem SQ (H:Hp) (m z:List Nat):∀ l i,Aw H m z (F7 l i) (F7 l i)
 | [],_=>by simp only [F7,Aw]
 | x :: r,0=>by simp only [F7];exact EY H m z x
 | x :: r,i + 1=>by simp only [F7];exact SQ H m z r i
end
mutual
theorem NG (H:Hp) (m z:List Nat):∀ x,Aw H m z (GN x) (GN x)
 | .mk kind n p q b e => by
   have h1:=Gx H m z b;have h2:=Gx H m z e;have h3:=EY H m z p;have h4:=EY H m z q;simp only [GN,LY,seval,h1,h2,h3,h4]
theorem Gx (H:Hp) (m z:List Nat):∀ l,Aw H m z (DZ l) (DZ l)
 | []=>by simp only [DZ,LY,seval]
 | x :: r => by
   simp only [DZ,LY,seval];intro i _;cases i with
   | zero=>exact NG H m z x
   | succ i=>exact SO H m z r i
theorem SO (H:Hp) (m z:List Nat):∀ l i,Aw H m z (Fb l i) (Fb l i)
 | [],_=>by simp only [Fb,Aw]
 | x :: r,0=>by simp only [Fb];exact NG H m z x
 | x :: r,i + 1=>by simp only [Fb];exact SO H m z r i
end
theorem RL (H:Hp) (m z:List Nat):∀ l i,Aw H m z (BW l i) (BW l i)
 | [],_=>by simp only [BW,Aw]
 | x :: r, 0 => by
   have h:=Gx H m z x.body;simp only [BW,fuV,LY,seval,h]
 | x :: r,i + 1=>by simp only [BW];exact RL H m z r i
theorem En (H:Hp) (m z:List Nat):∀ l,Aw H m z (FC l) (FC l)
 | []=>by simp only [FC,LY,seval]
 | x :: r => by
   simp only [FC,LY,seval];intro i _;exact RL H m z _ i
theorem Ak (H:Hp) (m z:List Nat) (l:List Fu):Aw H m z (FC l) (FC l)=True:=eq_true (En H m z l)
theorem sex (H:Hp) (m z:List Nat) (l:Ex):Aw H m z (AE l) (AE l)=True:=eq_true (EY H m z l)
theorem GL (H:Hp) (m z:List Nat) (l:List Ex):Aw H m z (AF l) (AF l)=True:=eq_true (SZ H m z l)
theorem sst (H:Hp) (m z:List Nat) (l:IrSt):Aw H m z (GN l) (GN l)=True:=eq_true (NG H m z l)
theorem Dr (H:Hp) (m z:List Nat) (l:List IrSt):Aw H m z (DZ l) (DZ l)=True:=eq_true (Gx H m z l)
structure IrS where
 d:Nat→BitVec 64
 fuel:Nat
 used:Nat
 over:Bool
 out:Bool
 exit:BitVec 64
structure Rs where
 v:BitVec 64
 back:Bool
 s:IrS
 L:Nat→BitVec 64
def OC (s:IrS):IrS:=if s.over then s else if s.used=s.fuel then { s with over:=true,out:=true } else { s with used:=s.used + 1 }
def VO (s:IrS):Bool:=!s.over && !decide (s.used=s.fuel)
def Aim (s:IrS) (x:BitVec 64):IrS:=if s.over then s else { s with over:=true,exit:=x }
def Aml (f:Ex→IrS→Option Rs):List Ex→IrS→Option (List (BitVec 64) × IrS)
 | [],s=>some ([],s)
 | x :: r, s => match f x s with
   | some q => match Aml f r q.s with
     | some (vs,s')=>some (q.v :: vs,s')
     | none=>none
   | none=>none
def evB (f:IrSt→IrS→(Nat→BitVec 64)→Option Rs):List IrSt→IrS→(Nat→BitVec 64)→Option Rs
 | [],s,L=>some ⟨0#64,false,s,L⟩
 | x :: r, s, L => match f x s L with
   | some q=>if q.back || q.s.over then some ⟨q.v,true,q.s,q.L⟩ else evB f r q.s q.L
   | none=>none
inductive Tk where
 | e (x:Ex)
 | b (l:List IrSt)
 | s (x:IrSt)
 | l (x:IrSt)
 | c (i:Nat) (as:List (BitVec 64))
def ev (ap:Int→BitVec 64→BitVec 64→BitVec 64→Option (BitVec 64)) (P:List Fu):Nat→Tk→IrS→(Nat→BitVec 64)→Nat→Option Rs
 | 0,_,_,_,_=>none
 | k + 1, .e (.mk op n as), s, L, nl =>
   if VO s=false then some ⟨0#64,false,OC s,L⟩
   else if op=26 then some ⟨n,false,OC s,L⟩
   else if op=27 then (if n.toNat < nl then some ⟨L n.toNat,false,OC s,L⟩ else none)
   else if 1000≤as.length then none
   else match Aml (fun x s=>ev ap P k (.e x) s L nl) as (OC s) with
    | none=>none
    | some (vs, s) =>
      if s.over then some ⟨0#64,false,s,L⟩
      else if op=28 then (if vs.getD 0 0#64 < 2048#64 then some ⟨s.d (vs.getD 0 0#64).toNat,false,s,L⟩ else some ⟨0#64,false,Aim s 18446744073709551614#64,L⟩)
      else if op=29 then (match ev ap P k (.c n.toNat vs) s L nl with
       | some q=>some ⟨q.v,false,q.s,L⟩
       | none=>none)
      else if op=30 ∨ op=31 then none
      else match ap op (vs.getD 0 0#64) (vs.getD 1 0#64) (vs.getD 2 0#64) with
       | some v=>some ⟨v,false,s,L⟩
       | none=>none
 | k + 1,.b l,s,L,nl=>if 1000000≤l.length then none else evB (fun x s L=>ev ap P k (.s x) s L nl) l s L
 | k + 1, .s (.mk kind n a b body els), s, L, nl =>
   if kind=4 then ev ap P k (.l (.mk kind n a b body els)) s L nl
   else if VO s=false then some ⟨0#64,true,OC s,L⟩
   else match ev ap P k (.e a) (OC s) L nl with
    | none=>none
    | some q =>
      if q.s.over then some ⟨0#64,true,q.s,L⟩
      else if kind=1 then (if 0≤n∧n < nl then some ⟨0#64,false,q.s,fun j=>if j=n.toNat then q.v else L j⟩ else none)
      else if kind=2 then (match ev ap P k (.e b) q.s L nl with
       | none=>none
       | some p =>
         if p.s.over then some ⟨0#64,true,p.s,L⟩
         else if q.v < 2048#64 then some ⟨0#64,false,{ p.s with d:=fun j=>if j=q.v.toNat then p.v else p.s.d j },L⟩
         else some ⟨0#64,true,Aim p.s 18446744073709551614#64,L⟩)
      else if kind=3 then (if q.v=0#64 then ev ap P k (.b els) q.s L nl else ev ap P k (.b body) q.s L nl)
      else if kind=5 then some ⟨q.v,true,q.s,L⟩
      else if kind=7 then some ⟨0#64,true,Aim q.s q.v,L⟩
      else some ⟨0#64,false,q.s,L⟩
 | k + 1, .l (.mk kind n a b body els), s, L, nl =>
   if VO s=false then some ⟨0#64,true,OC s,L⟩
   else match ev ap P k (.e a) (OC s) L nl with
    | none=>none
    | some q =>
      if q.s.over then some ⟨0#64,true,q.s,L⟩
      else if q.v=0#64 then some ⟨0#64,false,q.s,L⟩
      else match ev ap P k (.b body) q.s L nl with
       | none=>none
       | some p=>if p.back then some ⟨p.v,true,p.s,p.L⟩ else ev ap P k (.l (.mk kind n a b body els)) p.s p.L nl
 | k + 1, .c i as, s, L, _ => match P[i]? with
   | none=>none
   | some f =>
     if 0≤f.locals∧f.locals < 1000 then (match ev ap P k (.b f.body) s (fun j=>if j < f.locals.toNat then as.getD j 0#64 else 0#64) f.locals.toNat with
      | none=>none
      | some q=>some ⟨q.v,false,q.s,L⟩)
     else none
def b8:=@AE.eq_1
def b9:=@AF.eq_1
def c5:=@AF.eq_2
theorem Bs (l:List Ex) (h:l ≠ []):AF l = .lst 3 l.length (F7 l):=by
 cases l with
 | nil=>exact absurd rfl h
 | cons x r=>exact KC x r
theorem Bq (l:List IrSt) (h:l ≠ []):DZ l = .lst 10 l.length (Fb l):=by
 cases l with
 | nil=>exact absurd rfl h
 | cons x r=>exact OH x r
theorem AU (l:List Ex):(AF l).solid=true:=KA
theorem AY (l:List Ex):(AF l).size=1:=KA
theorem AZ (l:List Ex):(AF l).isAgg=false:=KA
theorem A8 (l:List IrSt):(DZ l).solid=true:=KA
theorem A7 (l:List IrSt):(DZ l).size=1:=KA
theorem A6 (l:List IrSt):(DZ l).isAgg=false:=KA
theorem Al (x:Ex):(AE x).solid=true:=by cases x;rfl
theorem An (x:Ex):(AE x).size=3:=by cases x;rfl
theorem Am (x:Ex):(AE x).isAgg=true:=by cases x;rfl
theorem Aaw (x:IrSt):(GN x).solid=true:=by cases x;rfl
theorem Aea (x:IrSt):(GN x).size=10:=by cases x;rfl
theorem Aab (x:IrSt):(GN x).isAgg=true:=by cases x;rfl
theorem Dk (l:List Fu):(FC l).solid=true:=KA
theorem Dl (l:List Fu):(FC l).size=1:=KA
theorem Dj (l:List Fu):(FC l).isAgg=false:=KA
theorem BD (l:List Fu) (h:l ≠ []):FC l = .lst 3 l.length (BW l):=by
 cases l with
 | nil=>exact absurd rfl h
 | cons x r=>rfl
theorem CP (l:List Ex) (H:Hp):MY 0 (AF l) H=⟨True,.int .i64 l.length,H⟩:=KA
theorem NH (l:List IrSt) (H:Hp):MY 0 (DZ l) H=⟨True,.int .i64 l.length,H⟩:=KA
theorem Cy (H:Hp) (m z:List Nat) (l:List Ex):B5 H m z (AF l) (AF l)=True:=by
 cases l with
 | nil=>exact eq_true rfl
 | cons x r=>exact GL H m z (x :: r)
theorem B9 (H:Hp) (m z:List Nat) (l:List IrSt):B5 H m z (DZ l) (DZ l)=True:=by
 cases l with
 | nil=>exact eq_true rfl
 | cons x r=>exact Dr H m z (x :: r)
theorem B6 (H:Hp) (m z:List Nat) (l:Ex):B5 H m z (AE l) (AE l)=True:=by
 cases l;exact sex H m z _
theorem svs (H:Hp) (m z:List Nat) (l:IrSt):B5 H m z (GN l) (GN l)=True:=by
 cases l;exact sst H m z _
def gd (s:IrS):Prop:=s.fuel < 4611686018427387904∧s.used≤s.fuel
end Mv
