/- A part. -/
import Derived.Test.YtlfkjfonpacelaaGreatDoorEO
set_option linter.all false
set_option maxRecDepth 10000
namespace Mv
open Go
def W (w:BitVec 64):V:=.int .u64 (w.toNat:Int)
def Lcd:=(Bc @Int.toNat_natCast @W.eq_1)
def B (b:BitVec 8):V:=.int .u8 (b.toNat:Int)
theorem PZ (w:BitVec 64):w.toNat < 18446744073709551616:=w.isLt
theorem KG (a b:BitVec 64) (H:Hp):AX .xor (W a) (W b) H=⟨True,W (a ^^^ b),H⟩:=by
 have h:=Ti (PZ a) (PZ b)
 simp only [AX,W]
 rw [h,BitVec.toNat_xor]
theorem K5 (a b:BitVec 64) (H:Hp):AX .and (W a) (W b) H=⟨True,W (a &&& b),H⟩:=by
 have h:=Te (PZ a) (PZ b)
 simp only [AX,W]
 rw [h,BitVec.toNat_and]
theorem N5 (a b:BitVec 64) (H:Hp):AX .or (W a) (W b) H=⟨True,W (a ||| b),H⟩:=by
 have h:=Ww (PZ a) (PZ b)
 simp only [AX,W]
 rw [h,BitVec.toNat_or]
theorem MR (a:BitVec 64) (H:Hp):Vv .xor (W a) H=⟨True,W (~~~a),H⟩:=by
 have h:(18446744073709551615 ^^^ a.toNat:Nat)=(~~~a).toNat:=by
  have h2:BitVec.allOnes 64 ^^^ a = ~~~a:=BitVec.allOnes_xor
  rw [← h2,BitVec.toNat_xor];rfl
 have h3:=Acd (PZ a)
 simp only [Vv,W]
 rw [h3,h]
def Vx (x:BitVec 64) (k:Nat):BitVec 64:=x <<< k ||| x >>> (64 - k)
theorem Pz (x:BitVec 64) (k:Nat):U6 x.toNat k=(Vx x k).toNat:=by
 simp only [U6,Vx,BitVec.toNat_or,BitVec.toNat_shiftLeft,BitVec.toNat_ushiftRight]
def ws (s:List (BitVec 64)):Nat→V:=fun j=>W (s.getD j 0)
def bys (s:List (BitVec 8)):Nat→V:=fun j=>B (s.getD j 0)
theorem M9 (s:List (BitVec 64)) (j:Nat):ws s j=W (s.getD j 0):=rfl
theorem Km (s:List (BitVec 8)) (j:Nat):bys s j=B (s.getD j 0):=rfl
theorem J3 (w:BitVec 64):(W w).solid=true:=rfl
theorem Rn (w:BitVec 64):(W w).size=1:=rfl
theorem YS (w:BitVec 64):(W w).isAgg=false:=rfl
theorem Jw (w:BitVec 8):(B w).solid=true:=rfl
theorem QB (w:BitVec 8):(B w).size=1:=rfl
theorem Wg (w:BitVec 8):(B w).isAgg=false:=rfl
theorem E2 (H:Hp) (m z:List Nat) (a b:BitVec 64):Ar H m z (W a) (W b) ↔ b=a:=by
 simp only [Ar,W,V.int.injEq,true_and]
 constructor
 ·intro h;exact BitVec.eq_of_toNat_eq Aa
 ·rintro rfl;rfl
theorem K2 (H:Hp) (m z:List Nat) (a b:BitVec 8):Ar H m z (B a) (B b) ↔ b=a:=by
 simp only [Ar,B,V.int.injEq,true_and]
 constructor
 ·intro h;exact BitVec.eq_of_toNat_eq Aa
 ·rintro rfl;rfl
theorem Pk {p:Prop} [Decidable p] (a b:BitVec 64):(if p then W a else W b)=W (if p then a else b):=by split <;> rfl
theorem Mz {p:Prop} [Decidable p] (a b:BitVec 8):(if p then B a else B b)=B (if p then a else b):=by split <;> rfl
theorem M3 (H:Hp) (m z:List Nat) (u:V):Bk H m z .junk u=True:=rfl
theorem P6 (H:Hp) (m z:List Nat) (k:IntKind) (n:Int) (u:V):Bk H m z (V.int k n) u=Ar H m z (V.int k n) u:=rfl
theorem M6 (H:Hp) (m z:List Nat) (b:Bool) (u:V):Bk H m z (V.bool b) u=Ar H m z (V.bool b) u:=rfl
theorem P2 (H:Hp) (m z:List Nat) (s:ByteArray) (u:V):Bk H m z (V.str s) u=Ar H m z (V.str s) u:=rfl
theorem M7 (H:Hp) (m z:List Nat) (u:V):Bk H m z V.nilp u=Ar H m z V.nilp u:=rfl
theorem OP (H:Hp) (m z:List Nat) (i:Nat) (p:List Stp) (u:V):Bk H m z (V.ptr i p) u=Ar H m z (V.ptr i p) u:=rfl
theorem P1 (H:Hp) (m z:List Nat) (v:V) (u:V):Bk H m z (V.imm v) u=Ar H m z (V.imm v) u:=rfl
theorem Mo (H:Hp) (m z:List Nat) (u:V):Bk H m z V.nils u=Ar H m z V.nils u:=rfl
theorem ST (H:Hp) (m z:List Nat) (i:Nat) (p:List Stp) (o n sz:Nat) (u:V):Bk H m z (V.sl i p o n sz) u=Ar H m z (V.sl i p o n sz) u:=rfl
theorem Pv (H:Hp) (m z:List Nat) (sz n:Nat) (f:Nat→V) (u:V):Bk H m z (V.lst sz n f) u=Ar H m z (V.lst sz n f) u:=rfl
theorem M4 (H:Hp) (m z:List Nat) (u:V):Bk H m z V.nilm u=Ar H m z V.nilm u:=rfl
theorem OI (H:Hp) (m z:List Nat) (i:Nat) (u:V):Bk H m z (V.map i) u=Ar H m z (V.map i) u:=rfl
theorem Mi (H:Hp) (m z:List Nat) (u:V):Bk H m z V.nilf u=Ar H m z V.nilf u:=rfl
theorem Tm (H:Hp) (m z:List Nat) (f:Nat) (c:V) (u:V):Bk H m z (V.fn f c) u=Ar H m z (V.fn f c) u:=rfl
theorem MB (H:Hp) (m z:List Nat) (u:V):Bk H m z V.nili u=Ar H m z V.nili u:=rfl
theorem Qo (H:Hp) (m z:List Nat) (t:Nat) (v:V) (u:V):Bk H m z (V.ifc t v) u=Ar H m z (V.ifc t v) u:=rfl
theorem T4 (H:Hp) (m z:List Nat) (n:Nat) (fs:V) (u:V):Bk H m z (V.st n fs) u=Ar H m z (V.st n fs) u:=rfl
theorem S7 (H:Hp) (m z:List Nat) (sz n:Nat) (f:Nat→V) (u:V):Bk H m z (V.ar sz n f) u=Ar H m z (V.ar sz n f) u:=rfl
theorem PK (H:Hp) (m z:List Nat) (fs:V) (u:V):Bk H m z (V.tup fs) u=Ar H m z (V.tup fs) u:=rfl
theorem Yt (H:Hp) (m z:List Nat) (a:BitVec 64) (u:V):Bk H m z (W a) u=Ar H m z (W a) u:=rfl
theorem V6 (H:Hp) (m z:List Nat) (a:BitVec 8) (u:V):Bk H m z (B a) u=Ar H m z (B a) u:=rfl
theorem Amd (m:List Nat) (a:BitVec 64):(W a).ren m=W a:=rfl
theorem Ak6 (m:List Nat) (a:BitVec 8):(B a).ren m=B a:=rfl
theorem Aed (m:List Nat) (s:List (BitVec 64)) (j:Nat):(ws s j).ren m=ws s j:=rfl
theorem Bv {M:Seat} {f:Nat} {us us0:List V} {H:Hp} {n:Nat} {K:V→Hp→Prop} {v:V} (hr:Af M f us0 [] 0 (Q3 v [] 0)) (hus:Bh H [] [] us0 us) (hv:v.ren (Bp [] n 0)=v) (hK:K v H):AT M f us H n K:=by
 refine Cj hr False [] [] List.nodup_nil B1 rfl B1 hus trivial ?_
 rintro v' H' k' ⟨rfl,rfl,rfl⟩
 refine ⟨⟨by omega,fun h=>h.elim⟩,?_⟩
 rw [hv]
 simpa [AM,A5] using hK
theorem Ach (m:List Nat) (s:List (BitVec 8)) (j:Nat):(bys s j).ren m=bys s j:=rfl
theorem Y0 (k:IntKind) (a b:Int) (H:Hp):AX .add (.int k a) (.int k b) H=⟨True,.int k (k.wrap (a + b)),H⟩:=HU
theorem Yg (k:IntKind) (a b:Int) (H:Hp):AX .sub (.int k a) (.int k b) H=⟨True,.int k (k.wrap (a - b)),H⟩:=HU
theorem X7 (k:IntKind) (a b:Int) (H:Hp):AX .mul (.int k a) (.int k b) H=⟨True,.int k (k.wrap (a * b)),H⟩:=HU
theorem Xq (k:IntKind) (a b:Int) (H:Hp):AX .quo (.int k a) (.int k b) H=⟨b ≠ 0,.int k (k.wrap (a.tdiv b)),H⟩:=HU
theorem Y8 (k:IntKind) (a b:Int) (H:Hp):AX .rem (.int k a) (.int k b) H=⟨b ≠ 0,.int k (a.tmod b),H⟩:=HU
theorem VN (k k':IntKind) (a b:Int) (H:Hp):AX .shl (.int k a) (.int k' b) H=⟨0≤b,.int k (k.wrap (a * 2 ^ min b.toNat k.bits)),H⟩:=rfl
theorem WI (k k':IntKind) (a b:Int) (H:Hp):AX .shr (.int k a) (.int k' b) H=⟨0≤b,.int k (a.fdiv (2 ^ min b.toNat k.bits)),H⟩:=rfl
theorem VQ (k:IntKind) (a b:Int) (H:Hp):AX .lss (.int k a) (.int k b) H=⟨True,.bool (decide (a < b)),H⟩:=HU
theorem XD (k:IntKind) (a b:Int) (H:Hp):AX .leq (.int k a) (.int k b) H=⟨True,.bool (decide (a≤b)),H⟩:=HU
theorem YG (k:IntKind) (a b:Int) (H:Hp):AX .gtr (.int k a) (.int k b) H=⟨True,.bool (decide (b < a)),H⟩:=HU
theorem V5 (k:IntKind) (a b:Int) (H:Hp):AX .geq (.int k a) (.int k b) H=⟨True,.bool (decide (b≤a)),H⟩:=HU
theorem Wf (k:IntKind) (a b:Int) (H:Hp):AX .eql (.int k a) (.int k b) H=⟨True,.bool (decide (a=b)),H⟩:=HU
theorem Xs (k:IntKind) (a b:Int) (H:Hp):AX .neq (.int k a) (.int k b) H=⟨True,.bool (!decide (a=b)),H⟩:=HU
theorem Adm (k:IntKind) (a b:Int) (H:Hp):AX .and (.int k a) (.int k b) H=⟨True,.int k (k.wrap ((BitVec.ofInt k.bits a &&& BitVec.ofInt k.bits b).toNat)),H⟩:=HU
theorem Akp (k:IntKind) (a b:Int) (H:Hp):AX .or (.int k a) (.int k b) H=⟨True,.int k (k.wrap ((BitVec.ofInt k.bits a ||| BitVec.ofInt k.bits b).toNat)),H⟩:=HU
theorem Adx (k:IntKind) (a b:Int) (H:Hp):AX .xor (.int k a) (.int k b) H=⟨True,.int k (k.wrap ((BitVec.ofInt k.bits a ^^^ BitVec.ofInt k.bits b).toNat)),H⟩:=HU
theorem YM (b:Bool) (H:Hp):Vv .not (.bool b) H=⟨True,.bool (!b),H⟩:=rfl
def C9 (k:IntKind) (v:V) (H:Hp):Out:=match v with
 | .int _ a=>⟨True,.int k (k.wrap a),H⟩
 | _=>BR H
theorem Ad (A:List V) (H:Hp) (n:Nat) (k:IntKind) (x:X):Ae A H n (.conv k x)=C9 k (x.ev A) H:=rfl
theorem LD (k k':IntKind) (a:Int) (H:Hp):C9 k (.int k' a) H=⟨True,.int k (k.wrap a),H⟩:=rfl
theorem NB (b:BitVec 8) (H:Hp):C9 .u64 (B b) H=⟨True,W (b.setWidth 64),H⟩:=by
 have h:=b.isLt
 simp only [C9,B,W,Eh,BitVec.toNat_setWidth]
 congr 2
theorem MI (w:BitVec 64) (H:Hp):C9 .u8 (W w) H=⟨True,B (w.setWidth 8),H⟩:=by
 simp only [C9,B,W,JT,BitVec.toNat_setWidth]
 congr 2
theorem JB (w:BitVec 64) (H:Hp):C9 .i64 (W w) H=⟨True,.int .i64 (IntKind.i64.wrap (w.toNat:Int)),H⟩:=rfl
theorem KU (w:BitVec 8) (H:Hp):C9 .i64 (B w) H=⟨True,.int .i64 (w.toNat:Int),H⟩:=by
 have h:=w.isLt
 simp only [C9,B]
 rw [B5 Aa]
theorem Hr (a:BitVec 64) (k:IntKind) (b:Int) (H:Hp):AX .shl (W a) (.int k b) H=⟨0≤b,W (a <<< b.toNat),H⟩:=by
 simp only [AX,W,Eh,BitVec.toNat_shiftLeft,Nat.shiftLeft_eq,IntKind.bits]
 congr 2
 by_cases hb:b.toNat≤64
 ·rw [Nat.min_eq_left hb]
  rw [Int.natCast_emod,Int.natCast_mul,Int.natCast_pow]
  rfl
 ·rw [Nat.min_eq_right Aa]
  have e1:a.toNat * 2 ^ b.toNat % 2 ^ 64=0:=by
   have:b.toNat=64 + (b.toNat - 64):=Aa
   rw [this,Nat.pow_add,← Nat.mul_assoc,Nat.mul_right_comm]
   exact Nat.mul_mod_left _ _
  rw [e1]
  have e2:(2:Int) ^ 64=18446744073709551616:=Aj
  rw [e2];omega
theorem Hz (a:BitVec 64) (k:IntKind) (b:Int) (H:Hp):AX .shr (W a) (.int k b) H=⟨0≤b,W (a >>> b.toNat),H⟩:=by
 have ha:=a.isLt
 simp only [AX,W,Lb4,IntKind.bits]
 congr 2
 rw [Int.fdiv_eq_ediv_of_nonneg _ (Int.pow_nonneg Aa),Int.natCast_ediv,Int.natCast_pow]
 by_cases hb:b.toNat≤64
 ·rw [Nat.min_eq_left hb];rfl
 ·rw [Nat.min_eq_right Aa]
  have h1:(a.toNat:Int) / 2 ^ 64=0:=Int.ediv_eq_zero_of_lt Aa Aa
  have h2:a.toNat / 2 ^ b.toNat=0:=Nat.div_eq_of_lt (Nat.lt_of_lt_of_le ha (Nat.pow_le_pow_right Aa Aa))
  have h3:(a.toNat:Int) / ((2:Nat):Int) ^ b.toNat=0:=by
   rw [← Int.natCast_pow,← Int.natCast_ediv,h2];rfl
  rw [h1];exact h3.symm
theorem eqW (a b:BitVec 64):decide ((a.toNat:Int)=(b.toNat:Int))=decide (a=b):=by
 rw [decide_eq_decide]
 constructor
 ·intro h;exact BitVec.eq_of_toNat_eq Aa
 ·rintro rfl;rfl
theorem GZ (a b:BitVec 64) (H:Hp):AX .eql (W a) (W b) H=⟨True,.bool (decide (a=b)),H⟩:=by
 simp only [AX,W,eqW]
theorem GN (a b:BitVec 64) (H:Hp):AX .neq (W a) (W b) H=⟨True,.bool (!decide (a=b)),H⟩:=by
 simp only [AX,W,eqW]
theorem IZ (a:BitVec 64) (c:Int) (H:Hp):AX .eql (W a) (.int .u64 c) H=⟨True,.bool (decide ((a.toNat:Int)=c)),H⟩:=by
 simp only [AX,W]
theorem IT (a:BitVec 64) (c:Int) (H:Hp):AX .geq (W a) (.int .u64 c) H=⟨True,.bool (decide (c≤(a.toNat:Int))),H⟩:=by
 simp only [AX,W]
theorem IW (a:BitVec 64) (c:Int) (H:Hp):AX .rem (W a) (.int .u64 c) H=⟨c ≠ 0,.int .u64 ((a.toNat:Int).tmod c),H⟩:=by
 simp only [AX,W,true_and]
theorem Wm (a b:BitVec 8) (H:Hp):AX .xor (B a) (B b) H=⟨True,B (a ^^^ b),H⟩:=by
 simp only [AX,B,JT]
 congr 2
 rw [Cv,Cv]
 have e1:BitVec.ofNat IntKind.u8.bits a.toNat=a:=by apply BitVec.eq_of_toNat_eq;simp [IntKind.bits]
 have e2:BitVec.ofNat IntKind.u8.bits b.toNat=b:=by apply BitVec.eq_of_toNat_eq;simp [IntKind.bits]
 have h3:(BitVec.ofNat IntKind.u8.bits a.toNat ^^^ BitVec.ofNat IntKind.u8.bits b.toNat).toNat=(a ^^^ b).toNat:=by
  rw [BitVec.toNat_xor,BitVec.toNat_xor,e1,e2];rfl
 rw [h3]
 have:=(a ^^^ b).isLt
 omega
theorem Akb (n:Nat) (h:n < 18446744073709551616):V.int .u64 (n:Int)=W (BitVec.ofNat 64 n):=by
 simp only [W,BitVec.toNat_ofNat];rw [Nat.mod_eq_of_lt Aa]
theorem Ao6 (n:Nat) (h:n < 256):V.int .u8 (n:Int)=B (BitVec.ofNat 8 n):=by
 simp only [B,BitVec.toNat_ofNat];rw [Nat.mod_eq_of_lt Aa]
theorem Kw {M:Seat} {f:Nat} {us us0:List V} {H:Hp} {n:Nat} {K:V→Hp→Prop} {v:V} (z:List Nat) (hr:Af M f us0 [] 0 (Q3 v [] 0)) (hus:Bh H [] z us0 us) (hv:v.ren (Bp [] n 0)=v) (hK:K v (A5 H z)):AT M f us H n K:=by
 refine Cj hr False [] z List.nodup_nil B1 rfl B1 hus trivial ?_
 rintro v' H' k' ⟨rfl,rfl,rfl⟩
 refine ⟨⟨by omega,fun h=>h.elim⟩,?_⟩
 rw [hv]
 simpa [AM] using hK
def rc:List (BitVec 64):=rounds.map (BitVec.ofInt 64)
theorem Ad8:∀ j,j < 24→((rc.getD j 0).toNat:Int)=rounds.getD j 0:=Aj
theorem Ahu:U1 1 = .ar 1 24 (ws rc):=by
 have:(fun i=>V.int .u64 (rounds.getD i 0))=ws rc:=by
  funext j
  by_cases hj:j < 24
  ·simp only [ws,W,Ad8 j hj]
  ·have h1:rounds.getD j 0=0:=by rw [List.getD_eq_getElem?_getD,List.getElem?_eq_none (by simp [rounds];omega)];rfl
   have h2:rc.getD j 0=0:=by rw [List.getD_eq_getElem?_getD,List.getElem?_eq_none (by simp [rc,rounds];omega)];rfl
   simp only [ws,W,h1,h2]
   rfl
 simp only [U1,this]
theorem Aha:U1 2 = .ar 1 24 (fun i=>.int .i64 (lanes.getD i 0)):=rfl
theorem Ajc:U1 3 = .ar 1 24 (fun i=>.int .i64 (turns.getD i 0)):=rfl
theorem YA:∀ p,p < 24→0≤turns.getD p 0∧turns.getD p 0 < 64:=Aj
theorem Y2:∀ p,p < 24→0≤lanes.getD p 0∧lanes.getD p 0 < 25:=Aj
structure Dg where
 l:List (BitVec 8)
 h:l.length=32
deriving DecidableEq
def Dg.at (d:Dg) (j:Nat):BitVec 8:=d.l.getD j 0
def Dg.mk' (f:Nat→BitVec 8):Dg:=⟨(List.range 32).map f,by simp⟩
theorem Dg.at_mk' (f:Nat→BitVec 8) (j:Nat) (hj:j < 32):(Dg.mk' f).at j=f j:=by
 simp [Dg.at,Dg.mk',List.getD,List.getElem?_map,List.getElem?_range hj]
theorem Dg.ext' {a b:Dg} (h:∀ j,j < 32→a.at j=b.at j):a=b:=by
 obtain ⟨l,hl⟩:=a
 obtain ⟨m,hm⟩:=b
 have:l=m:=by
  apply List.ext_getElem Aa
  intro i h1 h2
  have:=h i Aa
  simpa [Dg.at,List.getD,h1,h2] using this
 subst this;rfl
def Dg.zero:Dg:=Dg.mk' fun _=>0
theorem Dg.at_zero (j:Nat):Dg.zero.at j=0:=by
 by_cases hj:j < 32
 ·rw [Dg.zero,Dg.at_mk' _ _ hj]
 ·simp only [Dg.at,Dg.zero,Dg.mk',List.getD]
  rw [List.getElem?_eq_none EP];rfl
instance:Inhabited Dg:=⟨Dg.zero⟩
def dg (d:Dg):V:=.ar 1 32 (fun j=>B (d.at j))
def IS (s:List Dg):Nat→V:=fun j=>dg (s.getD j Dg.zero)
theorem Dk (d:Dg):(dg d).solid=true:=rfl
theorem ML (d:Dg):(dg d).size=32:=rfl
theorem Rp (d:Dg):(dg d).isAgg=true:=rfl
theorem E9 (m:List Nat) (d:Dg):(dg d).ren m=dg d:=rfl
theorem JN (s:List Dg) (j:Nat):IS s j=dg (s.getD j Dg.zero):=rfl
theorem Zm (m:List Nat) (s:List Dg) (j:Nat):(IS s j).ren m=IS s j:=rfl
theorem S5 (H:Hp) (m z:List Nat) (a:Dg) (u:V):Bk H m z (dg a) u=Ar H m z (dg a) u:=rfl
theorem AW (H:Hp) (m z:List Nat) (a b:Dg):Ar H m z (dg a) (dg b) ↔ b=a:=by
 simp only [Ar,dg,K2,true_and]
 constructor
 ·intro h;exact Dg.ext' (fun j hj=>h j hj)
 ·rintro rfl _ _;rfl
theorem W8 {p:Prop} [Decidable p] (a b:Dg):(if p then dg a else dg b)=dg (if p then a else b):=by split <;> rfl
theorem eqB (a b:BitVec 8):decide ((a.toNat:Int)=(b.toNat:Int))=decide (a=b):=by
 rw [decide_eq_decide]
 constructor
 ·intro h;exact BitVec.eq_of_toNat_eq Aa
 ·rintro rfl;rfl
theorem Hq (c:Bool) (a b:Dg):AI c (.ar 32 1 false .int) (dg a) (dg b):=by
 simp only [AI,dg,true_and]
 intro i _
 refine ⟨rfl,rfl,?_⟩
 simp only [B]
theorem Jy (a b:Dg):AL (.ar 32 1 false .int) (dg a) (dg b)=decide (a=b):=by
 have h1:AL (.ar 32 1 false .int) (dg a) (dg b)=(List.range 32).all (fun i=>decide (a.at i=b.at i)):=by
  simp only [AL,dg,B,eqB]
 rw [h1,Bool.eq_iff_iff,List.all_eq_true]
 simp only [decide_eq_true_eq,List.mem_range]
 constructor
 ·exact fun h=>Dg.ext' h
 ·rintro rfl _ _;rfl
def Zi (x:BitVec 64) (p:Nat→BitVec 8) (j:Nat):Nat→BitVec 64
 | 0=>x
 | k + 1=>Zi x p j k ^^^ ((p (8 * j + k)).setWidth 64 <<< (8 * k))
def Su (s:List (BitVec 64)) (p:Nat→BitVec 8) (i k j:Nat):BitVec 64 :=
 if j < i then Zi (s.getD j 0) p j 8 else if j=i then Zi (s.getD j 0) p j k else s.getD j 0
def mix (s:List (BitVec 64)) (p:Nat→BitVec 8):List (BitVec 64):=(List.range 25).map (Su s p 17 0)
theorem Xo (s:List (BitVec 64)) (p:Nat→BitVec 8) (j:Nat) (hj:j < 25):(mix s p).getD j 0=Su s p 17 0 j:=by
 simp [mix,List.getD,List.getElem?_map,List.getElem?_range hj]
theorem Aoe (s:List (BitVec 64)) (p:Nat→BitVec 8) (j:Nat):Su s p 0 0 j=s.getD j 0:=by
 simp only [Su,Zi]
 split
 ·omega
 ·split <;> rfl
theorem Aot (s:List (BitVec 64)) (p:Nat→BitVec 8) (i k j:Nat):(if j=i then Su s p i k i ^^^ ((p (8 * i + k)).setWidth 64 <<< (8 * k)) else Su s p i k j)=Su s p i (k + 1) j:=by
 by_cases h:j=i
 ·subst h
  simp [Su,Zi]
 ·simp only [Su,if_neg h]
theorem Alx (s:List (BitVec 64)) (p:Nat→BitVec 8) (i j:Nat):Su s p i 8 j=Su s p (i + 1) 0 j:=by
 simp only [Su,Zi]
 by_cases h:j < i
 ·rw [if_pos h,if_pos Aa]
 ·rw [if_neg h]
  by_cases h2:j=i
  ·rw [if_pos h2,if_pos Aa]
  ·rw [if_neg h2,if_neg Aa]
   split <;> rfl
def WF (s:List (BitVec 64)):Dg:=Dg.mk' fun i=>(s.getD (i / 8) 0 >>> (8 * (i % 8))).setWidth 8
def Wu (a b:Dg) (j:Nat):BitVec 8:=if j < 32 then a.at j else if j < 64 then b.at (j - 32) else if j=64 then 1 else if j=135 then 128 else 0
theorem dg0:V.ar 1 32 (fun _=>V.int .u8 0)=dg Dg.zero:=by
 have h:(fun _=>V.int .u8 0)=fun j=>B (Dg.zero.at j):=by
  funext j;rw [Dg.at_zero];rfl
 simp only [dg,h]
theorem exZ (M:Seat) (x:Ctx) (Q:List V→Hp→Nat→Prop) (k:List It) (N:Nat) (A:List V) (H:Hp):ex M x Q 0 k N A H=AK M x Q k N A H:=by cases k <;> rfl
theorem exN (M:Seat) (x:Ctx) (Q:List V→Hp→Nat→Prop) (n:Nat) (N:Nat) (A:List V) (H:Hp):ex M x Q (n + 1) [] N A H=Q A H N:=rfl
theorem Ai6 (M:Seat) (x:Ctx) (Q:List V→Hp→Nat→Prop) (n:Nat) (k:List It) (N:Nat) (A:List V) (H:Hp):ex M x Q (n + 1) (.code .skip :: k) N A H=ex M x Q n k N A H:=rfl
theorem Alu (M:Seat) (x:Ctx) (Q:List V→Hp→Nat→Prop) (n:Nat) (ops:List LOp) (k:List It) (N:Nat) (A:List V) (H:Hp):ex M x Q (n + 1) (.code (.reg ops) :: k) N A H=Ro M (ex M x Q n k (N + 16 * ops.length)) ops N A H:=rfl
theorem Aib (M:Seat) (x:Ctx) (Q:List V→Hp→Nat→Prop) (n:Nat) (L:List DOp) (k:List It) (N:Nat) (A:List V) (H:Hp):ex M x Q (n + 1) (.code (.regd L) :: k) N A H=Bi M (ex M x Q n k (N + 32 * L.length)) L.length N (G7 L 0) L 0 A H [(0,H)] []:=rfl
theorem Amw (M:Seat) (x:Ctx) (Q:List V→Hp→Nat→Prop) (n:Nat) (c d:LC) (k:List It) (N:Nat) (A:List V) (H:Hp):ex M x Q (n + 1) (.code (.seq c d) :: k) N A H=ex M x Q n (.code c :: .code d :: k) N A H:=rfl
theorem ZY (M:Seat) (x:Ctx) (Q:List V→Hp→Nat→Prop) (n:Nat) (id:Nat) (c:LC) (k:List It) (N:Nat) (A:List V) (H:Hp):ex M x Q (n + 1) (.code (.block id c) :: k) N A H=ex M x Q n (.code c :: .blk id :: k) N A H:=rfl
theorem Afk (M:Seat) (x:Ctx) (Q:List V→Hp→Nat→Prop) (n:Nat) (c:LC) (k:List It) (N:Nat) (A:List V) (H:Hp):ex M x Q (n + 1) (.code (.loop c) :: k) N A H=IK M x Q c k A H N:=rfl
theorem Af9 (M:Seat) (x:Ctx) (Q:List V→Hp→Nat→Prop) (n:Nat) (id:Nat) (k:List It) (N:Nat) (A:List V) (H:Hp):ex M x Q (n + 1) (.code (.exit id) :: k) N A H=(match Cw id k with | some k'=>ex M x Q n k' N A H | none=>False):=rfl
theorem Amq (M:Seat) (x:Ctx) (Q:List V→Hp→Nat→Prop) (n:Nat) (k:List It) (N:Nat) (A:List V) (H:Hp):ex M x Q (n + 1) (.code .ret :: k) N A H=Q A H N:=rfl
theorem Aly (M:Seat) (x:Ctx) (Q:List V→Hp→Nat→Prop) (n:Nat) (i:Nat) (k:List It) (N:Nat) (A:List V) (H:Hp):ex M x Q (n + 1) (.blk i :: k) N A H=ex M x Q n k N A H:=rfl
theorem Alr (M:Seat) (x:Ctx) (Q:List V→Hp→Nat→Prop) (n:Nat) (J:List V→Hp→Nat→Prop) (k:List It) (N:Nat) (A:List V) (H:Hp):ex M x Q (n + 1) (.inv J :: k) N A H=J A H N:=rfl
theorem RoN (M:Seat) (K:List V→Hp→Prop) (n:Nat) (A:List V) (H:Hp):Ro M K [] n A H=K A H:=rfl
theorem Aqf (M:Seat) (K:List V→Hp→Prop) (m N wm p:Nat) (A:List V) (H:Hp) (bd:List (Nat × Hp)) (al:List (Nat × Nat × V)):Bi M K m N wm [] p A H bd al=K A H:=rfl
def LS:=(CC (Lf @S5 @AW @JN @Yt @V6 @E2 @K2 @M9 @Km @Fe @JC @Ib @not_false_eq_true) (Lf @M3 @P6 @M6 @P2 @M7 @OP @P1 @Mo @ST @Pv @M4 @OI @Mi) (Iz @Tm @MB @Qo @T4 @S7 @PK @true_and @and_true @and_self @V.int.injEq @V.sl.injEq @V.ptr.injEq @V.bool.injEq @Bool.true_or))
def L4:=(aq9 @BEq.rfl.{0} @LS @La4 @C2 @hget.eq_1 @hget.eq_2 @Ac.eq_1 @Ac.eq_2 @ne_eq.{1})
def LT:=(N8 (Lf @S5 @AW @JN @Yt @V6 @E2 @K2 @M9 @Km @Fe @JC @Ib @not_false_eq_true) (Iz @M3 @P6 @M6 @P2 @M7 @OP @P1 @Mo @ST @Pv @M4 @OI @Mi @Tm) (Iz @MB @Qo @T4 @S7 @PK @true_and @and_true @and_self @V.int.injEq @V.sl.injEq @V.ptr.injEq @V.bool.injEq @Bool.true_or @J3) (Iz @Jw @Dk @FZ @Fr @Gk @Fh @Gp @Gl @Fn @Hx @Gi @Fl @FY @Fv) (Iz @HH @EY @Gj @Hv @HB @Bool.and_true @Bool.true_and @Bool.and_self @Nat.zero_add @Nat.le_refl @Bool.or_true @Bool.or_false @Bool.false_or @Int.natCast_zero))
def La6:=(ET @LT @La0 @La4 @List.contains_cons.{0} @List.contains_nil.{0} @implies_true.{0} @implies_true.{1} @En.eq_1 @En.eq_2 @E6.eq_1 @E6.eq_2)
def B2:=(N8 (EL @BEq.rfl.{0} @Int.cast_ofNat_Int @LT @List.contains_cons.{0} @List.contains_nil.{0} @List.getElem?_cons_succ.{0} @List.getElem?_cons_zero.{0} @List.getElem?_nil.{0} @Option.some.injEq.{0} @Ar.eq_1 @Ar.eq_2 @Ar.eq_3 @Ar.eq_4 @Ar.eq_5 @Ar.eq_6 @Ar.eq_7) (EL @Ar.eq_8 @Ar.eq_9 @Ar.eq_10 @Ar.eq_11 @Ar.eq_12 @Ar.eq_13 @Ar.eq_14 @Ar.eq_15 @Ar.eq_16 @Ar.eq_17 @Ar.eq_18 @Ar.eq_19 @Ar.eq_20 @Ar.eq_21 @Ar.eq_22 @Ar.eq_23) (EL @Ar.eq_24 @Ar.eq_25 @Ar.eq_26 @Ar.eq_27 @Ar.eq_28 @Ar.eq_29 @Ar.eq_30 @Ar.eq_31 @Ar.eq_32 @Ar.eq_33 @Ar.eq_34 @Ar.eq_35 @Ar.eq_36 @Ar.eq_37 @Ar.eq_38 @Ar.eq_39) (EL @Ar.eq_40 @Bh.eq_1 @Bh.eq_2 @Bh.eq_3 @Bq.eq_1 @Bq.eq_2 @L1.eq_1 @L1.eq_2 @V.fget.eq_1 @V.fget.eq_2 @V.fhas.eq_1 @V.fhas.eq_2 @V.get.eq_1 @V.get.eq_2 @V.get.eq_3 @V.get.eq_4) (EL @V.get.eq_5 @V.ok.eq_1 @V.ok.eq_2 @V.ok.eq_3 @V.ok.eq_4 @V.ok.eq_5 @MG.eq_1 @hget.eq_1 @hget.eq_2 @Ac.eq_1 @Ac.eq_2 @if_false.{1} @if_true.{1} @implies_true.{0} @implies_true.{1} @ne_eq.{1}))
def LR:=(aq9 (DD @LD @NB @MI @JB @KU @Hr @Hz @GZ @GN @IZ @IT @IW @Wm @QF @Ki) (EL @Fe @JC @Ib @Cq @not_false_eq_true @Y0 @Yg @X7 @Xq @Y8 @VN @WI @VQ @XD @YG @V5) (EL @Wf @Xs @Adm @Akp @Adx @YM @KG @K5 @N5 @MR @Int.le_refl @Pk @Mz @W8 @Dk @ML) (EL @Rp @JN @Hq @Jy @Int.toNat_natCast @true_or @or_true @Nat.add_zero @Ahu @Aha @Ajc @Nat.zero_or @Nat.or_zero @Nat.and_zero @Nat.zero_and @Nat.zero_shiftRight) (EL @Int.toNat_zero @M9 @Km @J3 @Rn @YS @Jw @QB @Wg @FZ @Fr @Gk @Fh @Gp @Gl @Fn) (EL @Hx @Gi @Fl @FY @Fv @HH @EY @Gj @Hv @HB @Kl @Ic @JD @HY @Kb @JV) (EL @HZ @NV @KL @Ih @Kk @Iu @Nu @Ie @K8 @NJ @MU @Nw @KM @MJ @KW @NH) (EL @Nn @JZ @Sv @NL @K6 @NM @JJ @Q1 @KN @MW @Sj @Q6 @Bool.true_or @Bool.or_true @Bool.false_or @Bool.or_false) (EL @Bool.and_true @Bool.true_and @Bool.false_and @Bool.and_false @true_and @and_true @Bool.false_eq_true @Bool.true_eq_false @false_implies @true_implies @decide_true @decide_false @T5 @Qg @Bool.not_true @Bool.not_false))
def F1:=(Bc @LR @La0)
def LU:=(Aje (DD @LD @NB @MI @JB @KU @Hr @Hz @GZ @GN @IZ @IT @IW @Wm @QF @Ki) (DD @Fe @JC @Ib @Cq @not_false_eq_true @Y0 @Yg @X7 @Xq @Y8 @VN @WI @VQ @XD @YG) (DD @V5 @Wf @Xs @Adm @Akp @Adx @YM @KG @K5 @N5 @MR @Int.le_refl @Pk @Mz @W8) (DD @Dk @ML @Rp @JN @Hq @Jy @Int.toNat_natCast @true_or @or_true @Nat.add_zero @Ahu @Aha @Ajc @Nat.zero_or @Nat.or_zero) (DD @Nat.and_zero @Nat.zero_and @Nat.zero_shiftRight @Int.toNat_zero @M9 @Km @J3 @Rn @YS @Jw @QB @Wg @FZ @Fr @Gk) (DD @Fh @Gp @Gl @Fn @Hx @Gi @Fl @FY @Fv @HH @EY @Gj @Hv @HB @Kl) (DD @Ic @JD @HY @Kb @JV @HZ @NV @KL @Ih @Kk @Iu @Nu @Ie @K8 @NJ) (DD @MU @Nw @KM @MJ @KW @NH @Nn @JZ @Sv @NL @K6 @NM @JJ @Q1 @KN) (DD @MW @Sj @Q6 @Bool.true_or @Bool.or_true @Bool.false_or @Bool.or_false @Bool.and_true @Bool.true_and @Bool.false_and @Bool.and_false @true_and @and_true @Bool.false_eq_true @Bool.true_eq_false) (EL @false_implies @true_implies @decide_true @decide_false @T5 @Qg @Bool.not_true @Bool.not_false @Nat.zero_add @Nat.add_one_ne_zero @Int.natCast_zero @Nat.mul_zero @Bool.false_xor @Bool.xor_false @Bool.true_xor @Bool.xor_true))
def El:=(Bc @LU @La0)
def Lbb:=(F5 @SB @El @HE.eq_1 @HE.eq_2)
def LN:=(aq7 @Amd @Ak6 @E9 @Aed @Ach @Zm @not_false_eq_true)
theorem poP (a b:Prop):(bif true then a else b)=a:=rfl
theorem Ap9 (a b:Prop):(bif false then a else b)=b:=rfl
theorem poH (a b:List (Nat × Hp)):(bif true then a else b)=a:=rfl
theorem Aps (a b:List (Nat × Hp)):(bif false then a else b)=b:=rfl
theorem poA (a b:List (Nat × Nat × V)):(bif true then a else b)=a:=rfl
theorem Apr (a b:List (Nat × Nat × V)):(bif false then a else b)=b:=rfl
theorem poB (a b:Bool):(bif true then a else b)=a:=rfl
theorem Api (a b:Bool):(bif false then a else b)=b:=rfl
theorem poV (a b:V):(bif true then a else b)=a:=rfl
theorem Apa (a b:V):(bif false then a else b)=b:=rfl
theorem poN (a b:Nat):(a ≠ b) = ¬ (a=b):=rfl
theorem poI (a b:Int):(a ≠ b) = ¬ (a=b):=rfl
theorem Ap0 (a:Nat):(a == a)=true:=beq_self_eq_true a
theorem Akc (a:Bool):(a == a)=true:=beq_self_eq_true a
theorem Apx (a:Bool):(a != a)=false:=by cases a <;> rfl
theorem Aqa (a b:Nat):(some a=some b)=(a=b):=B1
theorem Apm (a:Nat) (l:List Nat):(a :: l)[0]?=some a:=rfl
theorem Apv (a:Nat) (l:List Nat) (i:Nat):(a :: l)[i + 1]?=l[i]?:=rfl
theorem Apd (i:Nat):([]:List Nat)[i]?=none:=rfl
theorem Apk (a b:Nat) (l:List Nat):(b :: l).contains a=(a == b || l.contains a):=List.contains_cons
theorem Apy (a:Nat):([]:List Nat).contains a=false:=rfl
theorem Apw (f:X→V) (a:X) (l:List X):(a :: l).map f=f a :: l.map f:=rfl
theorem Ape (f:X→V):([]:List X).map f=[]:=rfl
theorem Ap2 (f:Nat × Nat × V→Nat × V) (a:Nat × Nat × V) (l:List (Nat × Nat × V)):(a :: l).map f=f a :: l.map f:=rfl
theorem Aob (f:Nat × Nat × V→Nat × V):([]:List (Nat × Nat × V)).map f=[]:=rfl
theorem Aql (p:Nat × Nat × V→Bool) (a:Nat × Nat × V) (l:List (Nat × Nat × V)):(a :: l).filter p=if p a=true then a :: l.filter p else l.filter p:=List.filter_cons
theorem Aqb (p:Nat × Nat × V→Bool):([]:List (Nat × Nat × V)).filter p=[]:=rfl
theorem Apo (a:LOp) (l:List LOp):(a :: l).length=l.length + 1:=rfl
theorem Alf:([]:List LOp).length=0:=rfl
theorem Apj (a:DOp) (l:List DOp):(a :: l).length=l.length + 1:=rfl
theorem Anx:([]:List DOp).length=0:=rfl
theorem Apt (a:V) (l:List V):(a :: l).length=l.length + 1:=rfl
theorem Al7:([]:List V).length=0:=rfl
theorem Aqe (a:X) (l:List X):(a :: l).length=l.length + 1:=rfl
theorem Aop:([]:List X).length=0:=rfl
theorem Aqd (a:Nat × V) (l m:List (Nat × V)):a :: l ++ m=a :: (l ++ m):=rfl
theorem Akf (m:List (Nat × V)):[] ++ m=m:=rfl
theorem Ap4 (a:V) (l m:List V):a :: l ++ m=a :: (l ++ m):=rfl
theorem Aod (m:List V):[] ++ m=m:=rfl
theorem Apq (l:List (Nat × V)):l ++ []=l:=List.append_nil l
theorem poZ (n:Nat):((OfNat.ofNat n:Nat):Int)=OfNat.ofNat n:=rfl
def LP:=(CC (Lf @poP @Ap9 @poH @Aps @poA @Apr @poB @Api @poV @Apa @poN @poI @Ap0) (Iz @Akc @Apx @Aqa @Apm @Apv @Apd @Apk @Apy @Apw @Ape @Ap2 @Aob @Aql @Aqb) (Iz @Apo @Alf @Apj @Anx @Apt @Al7 @Aqe @Aop @Aqd @Akf @Ap4 @Aod @Apq @poZ))
end Mv
