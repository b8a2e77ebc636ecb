/- A part. -/
import Derived.Test.YtlfkjfonpacelaaGreatDoorGO
set_option linter.all false
set_option maxRecDepth 10000
namespace Mv
open Go
def W (w:BitVec 64):V:=.int .u64 (w.toNat:Int)
def Lcd:=(Bo @Int.toNat_natCast @W.eq_1)
def B (b:BitVec 8):V:=.int .u8 (b.toNat:Int)
theorem P9 (w:BitVec 64):w.toNat < 18446744073709551616:=w.isLt
theorem K6 (a b:BitVec 64) (H:Hp):AV .xor (W a) (W b) H=⟨True,W (a ^^^ b),H⟩:=by
 have h:=Sf (P9 a) (P9 b)
 simp only [AV,W]
 rw [h,BitVec.toNat_xor]
theorem K3 (a b:BitVec 64) (H:Hp):AV .and (W a) (W b) H=⟨True,W (a &&& b),H⟩:=by
 have h:=S9 (P9 a) (P9 b)
 simp only [AV,W]
 rw [h,BitVec.toNat_and]
theorem MU (a b:BitVec 64) (H:Hp):AV .or (W a) (W b) H=⟨True,W (a ||| b),H⟩:=by
 have h:=VL (P9 a) (P9 b)
 simp only [AV,W]
 rw [h,BitVec.toNat_or]
theorem N0 (a:BitVec 64) (H:Hp):Vb .xor (W a) H=⟨True,W (~~~a),H⟩:=by
 have h:(18446744073709551615 ^^^ a.toNat:Nat)=(~~~a).toNat:=by
  have h2:BitVec.allOnes 64 ^^^ a = ~~~a:=BitVec.allOnes_xor
  rw [← h2,BitVec.toNat_xor];rfl
 have h3:=YO (P9 a)
 simp only [Vb,W]
 rw [h3,h]
def Vd (x:BitVec 64) (k:Nat):BitVec 64:=x <<< k ||| x >>> (64 - k)
theorem Oo (x:BitVec 64) (k:Nat):Tq x.toNat k=(Vd x k).toNat:=by
 simp only [Tq,Vd,BitVec.toNat_or,BitVec.toNat_shiftLeft,BitVec.toNat_ushiftRight]
def ws (s:List (BitVec 64)):Nat→V:=fun j=>W (s.getD j 0)
def bys (s:List (BitVec 8)):Nat→V:=fun j=>B (s.getD j 0)
theorem Pk (s:List (BitVec 64)) (j:Nat):ws s j=W (s.getD j 0):=rfl
theorem Kk (s:List (BitVec 8)) (j:Nat):bys s j=B (s.getD j 0):=rfl
theorem Jc (w:BitVec 64):(W w).solid=true:=rfl
theorem QE (w:BitVec 64):(W w).size=1:=rfl
theorem X1 (w:BitVec 64):(W w).isAgg=false:=rfl
theorem Jh (w:BitVec 8):(B w).solid=true:=rfl
theorem QG (w:BitVec 8):(B w).size=1:=rfl
theorem WZ (w:BitVec 8):(B w).isAgg=false:=rfl
theorem Eo (H:Hp) (m z:List Nat) (a b:BitVec 64):At H m z (W a) (W b) ↔ b=a:=by
 simp only [At,W,V.int.injEq,true_and]
 constructor
 ·intro h;exact BitVec.eq_of_toNat_eq Aa
 ·rintro rfl;rfl
theorem Jz (H:Hp) (m z:List Nat) (a b:BitVec 8):At H m z (B a) (B b) ↔ b=a:=by
 simp only [At,B,V.int.injEq,true_and]
 constructor
 ·intro h;exact BitVec.eq_of_toNat_eq Aa
 ·rintro rfl;rfl
theorem NW {p:Prop} [Decidable p] (a b:BitVec 64):(if p then W a else W b)=W (if p then a else b):=by split <;> rfl
theorem Mb {p:Prop} [Decidable p] (a b:BitVec 8):(if p then B a else B b)=B (if p then a else b):=by split <;> rfl
theorem Ms (H:Hp) (m z:List Nat) (u:V):Bl H m z .junk u=True:=rfl
theorem OJ (H:Hp) (m z:List Nat) (k:IntKind) (n:Int) (u:V):Bl H m z (V.int k n) u=At H m z (V.int k n) u:=rfl
theorem L2 (H:Hp) (m z:List Nat) (b:Bool) (u:V):Bl H m z (V.bool b) u=At H m z (V.bool b) u:=rfl
theorem OS (H:Hp) (m z:List Nat) (s:ByteArray) (u:V):Bl H m z (V.str s) u=At H m z (V.str s) u:=rfl
theorem Lu (H:Hp) (m z:List Nat) (u:V):Bl H m z V.nilp u=At H m z V.nilp u:=rfl
theorem PE (H:Hp) (m z:List Nat) (i:Nat) (p:List Stp) (u:V):Bl H m z (V.ptr i p) u=At H m z (V.ptr i p) u:=rfl
theorem P7 (H:Hp) (m z:List Nat) (v:V) (u:V):Bl H m z (V.imm v) u=At H m z (V.imm v) u:=rfl
theorem Ls (H:Hp) (m z:List Nat) (u:V):Bl H m z V.nils u=At H m z V.nils u:=rfl
theorem SC (H:Hp) (m z:List Nat) (i:Nat) (p:List Stp) (o n sz:Nat) (u:V):Bl H m z (V.sl i p o n sz) u=At H m z (V.sl i p o n sz) u:=rfl
theorem Ox (H:Hp) (m z:List Nat) (sz n:Nat) (f:Nat→V) (u:V):Bl H m z (V.lst sz n f) u=At H m z (V.lst sz n f) u:=rfl
theorem Lt (H:Hp) (m z:List Nat) (u:V):Bl H m z V.nilm u=At H m z V.nilm u:=rfl
theorem Py (H:Hp) (m z:List Nat) (i:Nat) (u:V):Bl H m z (V.map i) u=At H m z (V.map i) u:=rfl
theorem Mw (H:Hp) (m z:List Nat) (u:V):Bl H m z V.nilf u=At H m z V.nilf u:=rfl
theorem Sw (H:Hp) (m z:List Nat) (f:Nat) (c:V) (u:V):Bl H m z (V.fn f c) u=At H m z (V.fn f c) u:=rfl
theorem L5 (H:Hp) (m z:List Nat) (u:V):Bl H m z V.nili u=At H m z V.nili u:=rfl
theorem Ok (H:Hp) (m z:List Nat) (t:Nat) (v:V) (u:V):Bl H m z (V.ifc t v) u=At H m z (V.ifc t v) u:=rfl
theorem SQ (H:Hp) (m z:List Nat) (n:Nat) (fs:V) (u:V):Bl H m z (V.st n fs) u=At H m z (V.st n fs) u:=rfl
theorem Ta (H:Hp) (m z:List Nat) (sz n:Nat) (f:Nat→V) (u:V):Bl H m z (V.ar sz n f) u=At H m z (V.ar sz n f) u:=rfl
theorem Pa (H:Hp) (m z:List Nat) (fs:V) (u:V):Bl H m z (V.tup fs) u=At H m z (V.tup fs) u:=rfl
theorem Yz (H:Hp) (m z:List Nat) (a:BitVec 64) (u:V):Bl H m z (W a) u=At H m z (W a) u:=rfl
theorem Yu (H:Hp) (m z:List Nat) (a:BitVec 8) (u:V):Bl H m z (B a) u=At H m z (B a) u:=rfl
theorem Ang (m:List Nat) (a:BitVec 64):(W a).ren m=W a:=rfl
theorem Ake (m:List Nat) (a:BitVec 8):(B a).ren m=B a:=rfl
theorem Ah5 (m:List Nat) (s:List (BitVec 64)) (j:Nat):(ws s j).ren m=ws s j:=rfl
theorem Bs {M:Seat} {f:Nat} {us us0:List V} {H:Hp} {n:Nat} {K:V→Hp→Prop} {v:V} (hr:Ae M f us0 [] 0 (Q3 v [] 0)) (hus:AY H [] [] us0 us) (hv:v.ren (Bk [] n 0)=v) (hK:K v H):AQ M f us H n K:=by
 refine BY hr False [] [] List.nodup_nil BD rfl BD hus trivial ?_
 rintro v' H' k' ⟨rfl,rfl,rfl⟩
 refine ⟨⟨by omega,fun h=>h.elim⟩,?_⟩
 rw [hv]
 simpa [AM,A4] using hK
theorem Zs (m:List Nat) (s:List (BitVec 8)) (j:Nat):(bys s j).ren m=bys s j:=rfl
theorem WT (k:IntKind) (a b:Int) (H:Hp):AV .add (.int k a) (.int k b) H=⟨True,.int k (k.wrap (a + b)),H⟩:=Hq
theorem XH (k:IntKind) (a b:Int) (H:Hp):AV .sub (.int k a) (.int k b) H=⟨True,.int k (k.wrap (a - b)),H⟩:=Hq
theorem XB (k:IntKind) (a b:Int) (H:Hp):AV .mul (.int k a) (.int k b) H=⟨True,.int k (k.wrap (a * b)),H⟩:=Hq
theorem V1 (k:IntKind) (a b:Int) (H:Hp):AV .quo (.int k a) (.int k b) H=⟨b ≠ 0,.int k (k.wrap (a.tdiv b)),H⟩:=Hq
theorem Ya (k:IntKind) (a b:Int) (H:Hp):AV .rem (.int k a) (.int k b) H=⟨b ≠ 0,.int k (a.tmod b),H⟩:=Hq
theorem Yx (k k':IntKind) (a b:Int) (H:Hp):AV .shl (.int k a) (.int k' b) H=⟨0≤b,.int k (k.wrap (a * 2 ^ min b.toNat k.bits)),H⟩:=rfl
theorem XN (k k':IntKind) (a b:Int) (H:Hp):AV .shr (.int k a) (.int k' b) H=⟨0≤b,.int k (a.fdiv (2 ^ min b.toNat k.bits)),H⟩:=rfl
theorem WF (k:IntKind) (a b:Int) (H:Hp):AV .lss (.int k a) (.int k b) H=⟨True,.bool (decide (a < b)),H⟩:=Hq
theorem XI (k:IntKind) (a b:Int) (H:Hp):AV .leq (.int k a) (.int k b) H=⟨True,.bool (decide (a≤b)),H⟩:=Hq
theorem Yq (k:IntKind) (a b:Int) (H:Hp):AV .gtr (.int k a) (.int k b) H=⟨True,.bool (decide (b < a)),H⟩:=Hq
theorem WB (k:IntKind) (a b:Int) (H:Hp):AV .geq (.int k a) (.int k b) H=⟨True,.bool (decide (b≤a)),H⟩:=Hq
theorem XC (k:IntKind) (a b:Int) (H:Hp):AV .eql (.int k a) (.int k b) H=⟨True,.bool (decide (a=b)),H⟩:=Hq
theorem WC (k:IntKind) (a b:Int) (H:Hp):AV .neq (.int k a) (.int k b) H=⟨True,.bool (!decide (a=b)),H⟩:=Hq
theorem Acz (k:IntKind) (a b:Int) (H:Hp):AV .and (.int k a) (.int k b) H=⟨True,.int k (k.wrap ((BitVec.ofInt k.bits a &&& BitVec.ofInt k.bits b).toNat)),H⟩:=Hq
theorem Ams (k:IntKind) (a b:Int) (H:Hp):AV .or (.int k a) (.int k b) H=⟨True,.int k (k.wrap ((BitVec.ofInt k.bits a ||| BitVec.ofInt k.bits b).toNat)),H⟩:=Hq
theorem Ac4 (k:IntKind) (a b:Int) (H:Hp):AV .xor (.int k a) (.int k b) H=⟨True,.int k (k.wrap ((BitVec.ofInt k.bits a ^^^ BitVec.ofInt k.bits b).toNat)),H⟩:=Hq
theorem Vx (b:Bool) (H:Hp):Vb .not (.bool b) H=⟨True,.bool (!b),H⟩:=rfl
def CC (k:IntKind) (v:V) (H:Hp):Out:=match v with
 | .int _ a=>⟨True,.int k (k.wrap a),H⟩
 | _=>BR H
theorem Ad (A:List V) (H:Hp) (n:Nat) (k:IntKind) (x:X):Ac A H n (.conv k x)=CC k (x.ev A) H:=rfl
theorem Mi (k k':IntKind) (a:Int) (H:Hp):CC k (.int k' a) H=⟨True,.int k (k.wrap a),H⟩:=rfl
theorem Nz (b:BitVec 8) (H:Hp):CC .u64 (B b) H=⟨True,W (b.setWidth 64),H⟩:=by
 have h:=b.isLt
 simp only [CC,B,W,Ec,BitVec.toNat_setWidth]
 congr 2
theorem MV (w:BitVec 64) (H:Hp):CC .u8 (W w) H=⟨True,B (w.setWidth 8),H⟩:=by
 simp only [CC,B,W,JL,BitVec.toNat_setWidth]
 congr 2
theorem Kw (w:BitVec 64) (H:Hp):CC .i64 (W w) H=⟨True,.int .i64 (IntKind.i64.wrap (w.toNat:Int)),H⟩:=rfl
theorem JT (w:BitVec 8) (H:Hp):CC .i64 (B w) H=⟨True,.int .i64 (w.toNat:Int),H⟩:=by
 have h:=w.isLt
 simp only [CC,B]
 rw [B3 Aa]
theorem Hs (a:BitVec 64) (k:IntKind) (b:Int) (H:Hp):AV .shl (W a) (.int k b) H=⟨0≤b,W (a <<< b.toNat),H⟩:=by
 simp only [AV,W,Ec,BitVec.toNat_shiftLeft,Nat.shiftLeft_eq,IntKind.bits]
 congr 2
 by_cases hb:b.toNat≤64
 ·rw [Nat.min_eq_left hb]
  rw [Int.natCast_emod,Int.natCast_mul,Int.natCast_pow]
  rfl
 ·rw [Nat.min_eq_right Aa]
  have e1:a.toNat * 2 ^ b.toNat % 2 ^ 64=0:=by
   have:b.toNat=64 + (b.toNat - 64):=Aa
   rw [this,Nat.pow_add,← Nat.mul_assoc,Nat.mul_right_comm]
   exact Nat.mul_mod_left _ _
  rw [e1]
  have e2:(2:Int) ^ 64=18446744073709551616:=Am
  rw [e2];omega
theorem GX (a:BitVec 64) (k:IntKind) (b:Int) (H:Hp):AV .shr (W a) (.int k b) H=⟨0≤b,W (a >>> b.toNat),H⟩:=by
 have ha:=a.isLt
 simp only [AV,W,Lb4,IntKind.bits]
 congr 2
 rw [Int.fdiv_eq_ediv_of_nonneg _ (Int.pow_nonneg Aa),Int.natCast_ediv,Int.natCast_pow]
 by_cases hb:b.toNat≤64
 ·rw [Nat.min_eq_left hb];rfl
 ·rw [Nat.min_eq_right Aa]
  have h1:(a.toNat:Int) / 2 ^ 64=0:=Int.ediv_eq_zero_of_lt Aa Aa
  have h2:a.toNat / 2 ^ b.toNat=0:=Nat.div_eq_of_lt (Nat.lt_of_lt_of_le ha (Nat.pow_le_pow_right Aa Aa))
  have h3:(a.toNat:Int) / ((2:Nat):Int) ^ b.toNat=0:=by
   rw [← Int.natCast_pow,← Int.natCast_ediv,h2];rfl
  rw [h1];exact h3.symm
theorem eqW (a b:BitVec 64):decide ((a.toNat:Int)=(b.toNat:Int))=decide (a=b):=by
 rw [decide_eq_decide]
 constructor
 ·intro h;exact BitVec.eq_of_toNat_eq Aa
 ·rintro rfl;rfl
theorem GH (a b:BitVec 64) (H:Hp):AV .eql (W a) (W b) H=⟨True,.bool (decide (a=b)),H⟩:=by
 simp only [AV,W,eqW]
theorem GF (a b:BitVec 64) (H:Hp):AV .neq (W a) (W b) H=⟨True,.bool (!decide (a=b)),H⟩:=by
 simp only [AV,W,eqW]
theorem IN (a:BitVec 64) (c:Int) (H:Hp):AV .eql (W a) (.int .u64 c) H=⟨True,.bool (decide ((a.toNat:Int)=c)),H⟩:=by
 simp only [AV,W]
theorem IK (a:BitVec 64) (c:Int) (H:Hp):AV .geq (W a) (.int .u64 c) H=⟨True,.bool (decide (c≤(a.toNat:Int))),H⟩:=by
 simp only [AV,W]
theorem Ir (a:BitVec 64) (c:Int) (H:Hp):AV .rem (W a) (.int .u64 c) H=⟨c ≠ 0,.int .u64 ((a.toNat:Int).tmod c),H⟩:=by
 simp only [AV,W,true_and]
theorem Yg (a b:BitVec 8) (H:Hp):AV .xor (B a) (B b) H=⟨True,B (a ^^^ b),H⟩:=by
 simp only [AV,B,JL]
 congr 2
 rw [Ct,Ct]
 have e1:BitVec.ofNat IntKind.u8.bits a.toNat=a:=by apply BitVec.eq_of_toNat_eq;simp [IntKind.bits]
 have e2:BitVec.ofNat IntKind.u8.bits b.toNat=b:=by apply BitVec.eq_of_toNat_eq;simp [IntKind.bits]
 have h3:(BitVec.ofNat IntKind.u8.bits a.toNat ^^^ BitVec.ofNat IntKind.u8.bits b.toNat).toNat=(a ^^^ b).toNat:=by
  rw [BitVec.toNat_xor,BitVec.toNat_xor,e1,e2];rfl
 rw [h3]
 have:=(a ^^^ b).isLt
 omega
theorem Ant (n:Nat) (h:n < 18446744073709551616):V.int .u64 (n:Int)=W (BitVec.ofNat 64 n):=by
 simp only [W,BitVec.toNat_ofNat];rw [Nat.mod_eq_of_lt Aa]
theorem Aj3 (n:Nat) (h:n < 256):V.int .u8 (n:Int)=B (BitVec.ofNat 8 n):=by
 simp only [B,BitVec.toNat_ofNat];rw [Nat.mod_eq_of_lt Aa]
theorem Kz {M:Seat} {f:Nat} {us us0:List V} {H:Hp} {n:Nat} {K:V→Hp→Prop} {v:V} (z:List Nat) (hr:Ae M f us0 [] 0 (Q3 v [] 0)) (hus:AY H [] z us0 us) (hv:v.ren (Bk [] n 0)=v) (hK:K v (A4 H z)):AQ M f us H n K:=by
 refine BY hr False [] z List.nodup_nil BD rfl BD hus trivial ?_
 rintro v' H' k' ⟨rfl,rfl,rfl⟩
 refine ⟨⟨by omega,fun h=>h.elim⟩,?_⟩
 rw [hv]
 simpa [AM] using hK
def rc:List (BitVec 64):=rounds.map (BitVec.ofInt 64)
theorem Acq:∀ j,j < 24→((rc.getD j 0).toNat:Int)=rounds.getD j 0:=Am
theorem Aej:Ts 1 = .ar 1 24 (ws rc):=by
 have:(fun i=>V.int .u64 (rounds.getD i 0))=ws rc:=by
  funext j
  by_cases hj:j < 24
  ·simp only [ws,W,Acq j hj]
  ·have h1:rounds.getD j 0=0:=by rw [List.getD_eq_getElem?_getD,List.getElem?_eq_none (by simp [rounds];omega)];rfl
   have h2:rc.getD j 0=0:=by rw [List.getD_eq_getElem?_getD,List.getElem?_eq_none (by simp [rc,rounds];omega)];rfl
   simp only [ws,W,h1,h2]
   rfl
 simp only [Ts,this]
theorem Ahk:Ts 2 = .ar 1 24 (fun i=>.int .i64 (lanes.getD i 0)):=rfl
theorem Ag4:Ts 3 = .ar 1 24 (fun i=>.int .i64 (turns.getD i 0)):=rfl
theorem V4:∀ p,p < 24→0≤turns.getD p 0∧turns.getD p 0 < 64:=Am
theorem WH:∀ p,p < 24→0≤lanes.getD p 0∧lanes.getD p 0 < 25:=Am
structure Dg where
 l:List (BitVec 8)
 h:l.length=32
deriving DecidableEq
def Dg.at (d:Dg) (j:Nat):BitVec 8:=d.l.getD j 0
def Dg.mk' (f:Nat→BitVec 8):Dg:=⟨(List.range 32).map f,by simp⟩
theorem Dg.at_mk' (f:Nat→BitVec 8) (j:Nat) (hj:j < 32):(Dg.mk' f).at j=f j:=by
 simp [Dg.at,Dg.mk',List.getD,List.getElem?_map,List.getElem?_range hj]
theorem Dg.ext' {a b:Dg} (h:∀ j,j < 32→a.at j=b.at j):a=b:=by
 obtain ⟨l,hl⟩:=a
 obtain ⟨m,hm⟩:=b
 have:l=m:=by
  apply List.ext_getElem Aa
  intro i h1 h2
  have:=h i Aa
  simpa [Dg.at,List.getD,h1,h2] using this
 subst this;rfl
def Dg.zero:Dg:=Dg.mk' fun _=>0
theorem Dg.at_zero (j:Nat):Dg.zero.at j=0:=by
 by_cases hj:j < 32
 ·rw [Dg.zero,Dg.at_mk' _ _ hj]
 ·simp only [Dg.at,Dg.zero,Dg.mk',List.getD]
  rw [List.getElem?_eq_none Fu];rfl
instance:Inhabited Dg:=⟨Dg.zero⟩
def dg (d:Dg):V:=.ar 1 32 (fun j=>B (d.at j))
def Iu (s:List Dg):Nat→V:=fun j=>dg (s.getD j Dg.zero)
theorem Df (d:Dg):(dg d).solid=true:=rfl
theorem MK (d:Dg):(dg d).size=32:=rfl
theorem Qf (d:Dg):(dg d).isAgg=true:=rfl
theorem AC (m:List Nat) (d:Dg):(dg d).ren m=dg d:=rfl
theorem Jq (s:List Dg) (j:Nat):Iu s j=dg (s.getD j Dg.zero):=rfl
theorem Aay (m:List Nat) (s:List Dg) (j:Nat):(Iu s j).ren m=Iu s j:=rfl
theorem SF (H:Hp) (m z:List Nat) (a:Dg) (u:V):Bl H m z (dg a) u=At H m z (dg a) u:=rfl
theorem AN (H:Hp) (m z:List Nat) (a b:Dg):At H m z (dg a) (dg b) ↔ b=a:=by
 simp only [At,dg,Jz,true_and]
 constructor
 ·intro h;exact Dg.ext' (fun j hj=>h j hj)
 ·rintro rfl _ _;rfl
theorem Vg {p:Prop} [Decidable p] (a b:Dg):(if p then dg a else dg b)=dg (if p then a else b):=by split <;> rfl
theorem eqB (a b:BitVec 8):decide ((a.toNat:Int)=(b.toNat:Int))=decide (a=b):=by
 rw [decide_eq_decide]
 constructor
 ·intro h;exact BitVec.eq_of_toNat_eq Aa
 ·rintro rfl;rfl
theorem GT (c:Bool) (a b:Dg):AL c (.ar 32 1 false .int) (dg a) (dg b):=by
 simp only [AL,dg,true_and]
 intro i _
 refine ⟨rfl,rfl,?_⟩
 simp only [B]
theorem Jo (a b:Dg):AP (.ar 32 1 false .int) (dg a) (dg b)=decide (a=b):=by
 have h1:AP (.ar 32 1 false .int) (dg a) (dg b)=(List.range 32).all (fun i=>decide (a.at i=b.at i)):=by
  simp only [AP,dg,B,eqB]
 rw [h1,Bool.eq_iff_iff,List.all_eq_true]
 simp only [decide_eq_true_eq,List.mem_range]
 constructor
 ·exact fun h=>Dg.ext' h
 ·rintro rfl _ _;rfl
def Y8 (x:BitVec 64) (p:Nat→BitVec 8) (j:Nat):Nat→BitVec 64
 | 0=>x
 | k + 1=>Y8 x p j k ^^^ ((p (8 * j + k)).setWidth 64 <<< (8 * k))
def R7 (s:List (BitVec 64)) (p:Nat→BitVec 8) (i k j:Nat):BitVec 64 :=
 if j < i then Y8 (s.getD j 0) p j 8 else if j=i then Y8 (s.getD j 0) p j k else s.getD j 0
def mix (s:List (BitVec 64)) (p:Nat→BitVec 8):List (BitVec 64):=(List.range 25).map (R7 s p 17 0)
theorem WG (s:List (BitVec 64)) (p:Nat→BitVec 8) (j:Nat) (hj:j < 25):(mix s p).getD j 0=R7 s p 17 0 j:=by
 simp [mix,List.getD,List.getElem?_map,List.getElem?_range hj]
theorem Aiy (s:List (BitVec 64)) (p:Nat→BitVec 8) (j:Nat):R7 s p 0 0 j=s.getD j 0:=by
 simp only [R7,Y8]
 split
 ·omega
 ·split <;> rfl
theorem Amr (s:List (BitVec 64)) (p:Nat→BitVec 8) (i k j:Nat):(if j=i then R7 s p i k i ^^^ ((p (8 * i + k)).setWidth 64 <<< (8 * k)) else R7 s p i k j)=R7 s p i (k + 1) j:=by
 by_cases h:j=i
 ·subst h
  simp [R7,Y8]
 ·simp only [R7,if_neg h]
theorem Am7 (s:List (BitVec 64)) (p:Nat→BitVec 8) (i j:Nat):R7 s p i 8 j=R7 s p (i + 1) 0 j:=by
 simp only [R7,Y8]
 by_cases h:j < i
 ·rw [if_pos h,if_pos Aa]
 ·rw [if_neg h]
  by_cases h2:j=i
  ·rw [if_pos h2,if_pos Aa]
  ·rw [if_neg h2,if_neg Aa]
   split <;> rfl
def VZ (s:List (BitVec 64)):Dg:=Dg.mk' fun i=>(s.getD (i / 8) 0 >>> (8 * (i % 8))).setWidth 8
def VP (a b:Dg) (j:Nat):BitVec 8:=if j < 32 then a.at j else if j < 64 then b.at (j - 32) else if j=64 then 1 else if j=135 then 128 else 0
theorem dg0:V.ar 1 32 (fun _=>V.int .u8 0)=dg Dg.zero:=by
 have h:(fun _=>V.int .u8 0)=fun j=>B (Dg.zero.at j):=by
  funext j;rw [Dg.at_zero];rfl
 simp only [dg,h]
theorem exZ (M:Seat) (x:Ctx) (Q:List V→Hp→Nat→Prop) (k:List It) (N:Nat) (A:List V) (H:Hp):ex M x Q 0 k N A H=Bt M x Q k N A H:=by cases k <;> rfl
theorem exN (M:Seat) (x:Ctx) (Q:List V→Hp→Nat→Prop) (n:Nat) (N:Nat) (A:List V) (H:Hp):ex M x Q (n + 1) [] N A H=Q A H N:=rfl
theorem Aid (M:Seat) (x:Ctx) (Q:List V→Hp→Nat→Prop) (n:Nat) (k:List It) (N:Nat) (A:List V) (H:Hp):ex M x Q (n + 1) (.code .skip :: k) N A H=ex M x Q n k N A H:=rfl
theorem Aiu (M:Seat) (x:Ctx) (Q:List V→Hp→Nat→Prop) (n:Nat) (ops:List LOp) (k:List It) (N:Nat) (A:List V) (H:Hp):ex M x Q (n + 1) (.code (.reg ops) :: k) N A H=Ro M (ex M x Q n k (N + 16 * ops.length)) ops N A H:=rfl
theorem Ad7 (M:Seat) (x:Ctx) (Q:List V→Hp→Nat→Prop) (n:Nat) (L:List DOp) (k:List It) (N:Nat) (A:List V) (H:Hp):ex M x Q (n + 1) (.code (.regd L) :: k) N A H=Bc M (ex M x Q n k (N + 32 * L.length)) L.length N (Gz L 0) L 0 A H [(0,H)] []:=rfl
theorem Ajf (M:Seat) (x:Ctx) (Q:List V→Hp→Nat→Prop) (n:Nat) (c d:LC) (k:List It) (N:Nat) (A:List V) (H:Hp):ex M x Q (n + 1) (.code (.seq c d) :: k) N A H=ex M x Q n (.code c :: .code d :: k) N A H:=rfl
theorem Abx (M:Seat) (x:Ctx) (Q:List V→Hp→Nat→Prop) (n:Nat) (id:Nat) (c:LC) (k:List It) (N:Nat) (A:List V) (H:Hp):ex M x Q (n + 1) (.code (.block id c) :: k) N A H=ex M x Q n (.code c :: .blk id :: k) N A H:=rfl
theorem Aib (M:Seat) (x:Ctx) (Q:List V→Hp→Nat→Prop) (n:Nat) (c:LC) (k:List It) (N:Nat) (A:List V) (H:Hp):ex M x Q (n + 1) (.code (.loop c) :: k) N A H=I9 M x Q c k A H N:=rfl
theorem Age (M:Seat) (x:Ctx) (Q:List V→Hp→Nat→Prop) (n:Nat) (id:Nat) (k:List It) (N:Nat) (A:List V) (H:Hp):ex M x Q (n + 1) (.code (.exit id) :: k) N A H=(match C4 id k with | some k'=>ex M x Q n k' N A H | none=>False):=rfl
theorem Aiz (M:Seat) (x:Ctx) (Q:List V→Hp→Nat→Prop) (n:Nat) (k:List It) (N:Nat) (A:List V) (H:Hp):ex M x Q (n + 1) (.code .ret :: k) N A H=Q A H N:=rfl
theorem Akr (M:Seat) (x:Ctx) (Q:List V→Hp→Nat→Prop) (n:Nat) (i:Nat) (k:List It) (N:Nat) (A:List V) (H:Hp):ex M x Q (n + 1) (.blk i :: k) N A H=ex M x Q n k N A H:=rfl
theorem Aoh (M:Seat) (x:Ctx) (Q:List V→Hp→Nat→Prop) (n:Nat) (J:List V→Hp→Nat→Prop) (k:List It) (N:Nat) (A:List V) (H:Hp):ex M x Q (n + 1) (.inv J :: k) N A H=J A H N:=rfl
theorem RoN (M:Seat) (K:List V→Hp→Prop) (n:Nat) (A:List V) (H:Hp):Ro M K [] n A H=K A H:=rfl
theorem Aoy (M:Seat) (K:List V→Hp→Prop) (m N wm p:Nat) (A:List V) (H:Hp) (bd:List (Nat × Hp)) (al:List (Nat × Nat × V)):Bc M K m N wm [] p A H bd al=K A H:=rfl
def LS:=(CX (Ia @SF @AN @Jq @Yz @Yu @Eo @Jz @Pk @Kk @EU @K5 @Ib @not_false_eq_true) (Ia @Ms @OJ @L2 @OS @Lu @PE @P7 @Ls @SC @Ox @Lt @Py @Mw) (Ig @Sw @L5 @Ok @SQ @Ta @Pa @true_and @and_true @and_self @V.int.injEq @V.sl.injEq @V.ptr.injEq @V.bool.injEq @Bool.true_or))
def Ld:=(aq9 @BEq.rfl.{0} @LS @La4 @C8 @hget.eq_1 @hget.eq_2 @Af.eq_1 @Af.eq_2 @ne_eq.{1})
def LT:=(GE (Ia @SF @AN @Jq @Yz @Yu @Eo @Jz @Pk @Kk @EU @K5 @Ib @not_false_eq_true) (Ig @Ms @OJ @L2 @OS @Lu @PE @P7 @Ls @SC @Ox @Lt @Py @Mw @Sw) (Ig @L5 @Ok @SQ @Ta @Pa @true_and @and_true @and_self @V.int.injEq @V.sl.injEq @V.ptr.injEq @V.bool.injEq @Bool.true_or @Jc) (Ig @Jh @Df @FP @EZ @FO @Fg @FL @FW @Ff @HA @FV @Fa @FY @EK) (Ig @GY @EL @FM @Ho @H4 @Bool.and_true @Bool.true_and @Bool.and_self @Nat.zero_add @Nat.le_refl @Bool.or_true @Bool.or_false @Bool.false_or @Int.natCast_zero))
def La6:=(Fv @LT @La0 @La4 @List.contains_cons.{0} @List.contains_nil.{0} @implies_true.{0} @implies_true.{1} @Eg.eq_1 @Eg.eq_2 @Ex.eq_1 @Ex.eq_2)
def B1:=(GE (E6 @BEq.rfl.{0} @Int.cast_ofNat_Int @LT @List.contains_cons.{0} @List.contains_nil.{0} @List.getElem?_cons_succ.{0} @List.getElem?_cons_zero.{0} @List.getElem?_nil.{0} @Option.some.injEq.{0} @At.eq_1 @At.eq_2 @At.eq_3 @At.eq_4 @At.eq_5 @At.eq_6 @At.eq_7) (E6 @At.eq_8 @At.eq_9 @At.eq_10 @At.eq_11 @At.eq_12 @At.eq_13 @At.eq_14 @At.eq_15 @At.eq_16 @At.eq_17 @At.eq_18 @At.eq_19 @At.eq_20 @At.eq_21 @At.eq_22 @At.eq_23) (E6 @At.eq_24 @At.eq_25 @At.eq_26 @At.eq_27 @At.eq_28 @At.eq_29 @At.eq_30 @At.eq_31 @At.eq_32 @At.eq_33 @At.eq_34 @At.eq_35 @At.eq_36 @At.eq_37 @At.eq_38 @At.eq_39) (E6 @At.eq_40 @AY.eq_1 @AY.eq_2 @AY.eq_3 @B8.eq_1 @B8.eq_2 @Lc.eq_1 @Lc.eq_2 @V.fget.eq_1 @V.fget.eq_2 @V.fhas.eq_1 @V.fhas.eq_2 @V.get.eq_1 @V.get.eq_2 @V.get.eq_3 @V.get.eq_4) (E6 @V.get.eq_5 @V.ok.eq_1 @V.ok.eq_2 @V.ok.eq_3 @V.ok.eq_4 @V.ok.eq_5 @Lw.eq_1 @hget.eq_1 @hget.eq_2 @Af.eq_1 @Af.eq_2 @if_false.{1} @if_true.{1} @implies_true.{0} @implies_true.{1} @ne_eq.{1}))
def LR:=(aq9 (D8 @Mi @Nz @MV @Kw @JT @Hs @GX @GH @GF @IN @IK @Ir @Yg @Qs @JE) (E6 @EU @K5 @Ib @Cv @not_false_eq_true @WT @XH @XB @V1 @Ya @Yx @XN @WF @XI @Yq @WB) (E6 @XC @WC @Acz @Ams @Ac4 @Vx @K6 @K3 @MU @N0 @Int.le_refl @NW @Mb @Vg @Df @MK) (E6 @Qf @Jq @GT @Jo @Int.toNat_natCast @true_or @or_true @Nat.add_zero @Aej @Ahk @Ag4 @Nat.zero_or @Nat.or_zero @Nat.and_zero @Nat.zero_and @Nat.zero_shiftRight) (E6 @Int.toNat_zero @Pk @Kk @Jc @QE @X1 @Jh @QG @WZ @FP @EZ @FO @Fg @FL @FW @Ff) (E6 @HA @FV @Fa @FY @EK @GY @EL @FM @Ho @H4 @K2 @HW @Jr @HO @Kf @JS) (E6 @Iq @Mz @JC @HR @JD @HV @MJ @Ic @KC @MB @Nn @N2 @K8 @N6 @Kr @NA) (E6 @ND @JN @Q5 @MP @J3 @My @Kt @Qo @KB @M8 @Qa @Qt @Bool.true_or @Bool.or_true @Bool.false_or @Bool.or_false) (E6 @Bool.and_true @Bool.true_and @Bool.false_and @Bool.and_false @true_and @and_true @Bool.false_eq_true @Bool.true_eq_false @false_implies @true_implies @decide_true @decide_false @Ss @Om @Bool.not_true @Bool.not_false))
def Fo:=(Bo @LR @La0)
def LU:=(Aoa (D8 @Mi @Nz @MV @Kw @JT @Hs @GX @GH @GF @IN @IK @Ir @Yg @Qs @JE) (D8 @EU @K5 @Ib @Cv @not_false_eq_true @WT @XH @XB @V1 @Ya @Yx @XN @WF @XI @Yq) (D8 @WB @XC @WC @Acz @Ams @Ac4 @Vx @K6 @K3 @MU @N0 @Int.le_refl @NW @Mb @Vg) (D8 @Df @MK @Qf @Jq @GT @Jo @Int.toNat_natCast @true_or @or_true @Nat.add_zero @Aej @Ahk @Ag4 @Nat.zero_or @Nat.or_zero) (D8 @Nat.and_zero @Nat.zero_and @Nat.zero_shiftRight @Int.toNat_zero @Pk @Kk @Jc @QE @X1 @Jh @QG @WZ @FP @EZ @FO) (D8 @Fg @FL @FW @Ff @HA @FV @Fa @FY @EK @GY @EL @FM @Ho @H4 @K2) (D8 @HW @Jr @HO @Kf @JS @Iq @Mz @JC @HR @JD @HV @MJ @Ic @KC @MB) (D8 @Nn @N2 @K8 @N6 @Kr @NA @ND @JN @Q5 @MP @J3 @My @Kt @Qo @KB) (D8 @M8 @Qa @Qt @Bool.true_or @Bool.or_true @Bool.false_or @Bool.or_false @Bool.and_true @Bool.true_and @Bool.false_and @Bool.and_false @true_and @and_true @Bool.false_eq_true @Bool.true_eq_false) (E6 @false_implies @true_implies @decide_true @decide_false @Ss @Om @Bool.not_true @Bool.not_false @Nat.zero_add @Nat.add_one_ne_zero @Int.natCast_zero @Nat.mul_zero @Bool.false_xor @Bool.xor_false @Bool.true_xor @Bool.xor_true))
def Ed:=(Bo @LU @La0)
def Lbb:=(EH @Sn @Ed @HJ.eq_1 @HJ.eq_2)
def LN:=(aq7 @Ang @Ake @AC @Ah5 @Zs @Aay @not_false_eq_true)
theorem poP (a b:Prop):(bif true then a else b)=a:=rfl
theorem Ape (a b:Prop):(bif false then a else b)=b:=rfl
theorem poH (a b:List (Nat × Hp)):(bif true then a else b)=a:=rfl
theorem Ao8 (a b:List (Nat × Hp)):(bif false then a else b)=b:=rfl
theorem poA (a b:List (Nat × Nat × V)):(bif true then a else b)=a:=rfl
theorem Aoq (a b:List (Nat × Nat × V)):(bif false then a else b)=b:=rfl
theorem poB (a b:Bool):(bif true then a else b)=a:=rfl
theorem Ao6 (a b:Bool):(bif false then a else b)=b:=rfl
theorem poV (a b:V):(bif true then a else b)=a:=rfl
theorem Apf (a b:V):(bif false then a else b)=b:=rfl
theorem poN (a b:Nat):(a ≠ b) = ¬ (a=b):=rfl
theorem poI (a b:Int):(a ≠ b) = ¬ (a=b):=rfl
theorem Ao0 (a:Nat):(a == a)=true:=beq_self_eq_true a
theorem Ak4 (a:Bool):(a == a)=true:=beq_self_eq_true a
theorem Apa (a:Bool):(a != a)=false:=by cases a <;> rfl
theorem Aop (a b:Nat):(some a=some b)=(a=b):=BD
theorem Ao5 (a:Nat) (l:List Nat):(a :: l)[0]?=some a:=rfl
theorem Apc (a:Nat) (l:List Nat) (i:Nat):(a :: l)[i + 1]?=l[i]?:=rfl
theorem Apb (i:Nat):([]:List Nat)[i]?=none:=rfl
theorem Aph (a b:Nat) (l:List Nat):(b :: l).contains a=(a == b || l.contains a):=List.contains_cons
theorem Ao1 (a:Nat):([]:List Nat).contains a=false:=rfl
theorem Aol (f:X→V) (a:X) (l:List X):(a :: l).map f=f a :: l.map f:=rfl
theorem Ao2 (f:X→V):([]:List X).map f=[]:=rfl
theorem Aom (f:Nat × Nat × V→Nat × V) (a:Nat × Nat × V) (l:List (Nat × Nat × V)):(a :: l).map f=f a :: l.map f:=rfl
theorem Ai8 (f:Nat × Nat × V→Nat × V):([]:List (Nat × Nat × V)).map f=[]:=rfl
theorem Aon (p:Nat × Nat × V→Bool) (a:Nat × Nat × V) (l:List (Nat × Nat × V)):(a :: l).filter p=if p a=true then a :: l.filter p else l.filter p:=List.filter_cons
theorem Apd (p:Nat × Nat × V→Bool):([]:List (Nat × Nat × V)).filter p=[]:=rfl
theorem Apr (a:LOp) (l:List LOp):(a :: l).length=l.length + 1:=rfl
theorem Ajb:([]:List LOp).length=0:=rfl
theorem Api (a:DOp) (l:List DOp):(a :: l).length=l.length + 1:=rfl
theorem Anb:([]:List DOp).length=0:=rfl
theorem Aok (a:V) (l:List V):(a :: l).length=l.length + 1:=rfl
theorem Alj:([]:List V).length=0:=rfl
theorem Aox (a:X) (l:List X):(a :: l).length=l.length + 1:=rfl
theorem Al8:([]:List X).length=0:=rfl
theorem Ao4 (a:Nat × V) (l m:List (Nat × V)):a :: l ++ m=a :: (l ++ m):=rfl
theorem Akq (m:List (Nat × V)):[] ++ m=m:=rfl
theorem Apj (a:V) (l m:List V):a :: l ++ m=a :: (l ++ m):=rfl
theorem Aiq (m:List V):[] ++ m=m:=rfl
theorem Apl (l:List (Nat × V)):l ++ []=l:=List.append_nil l
theorem poZ (n:Nat):((OfNat.ofNat n:Nat):Int)=OfNat.ofNat n:=rfl
def LP:=(CX (Ia @poP @Ape @poH @Ao8 @poA @Aoq @poB @Ao6 @poV @Apf @poN @poI @Ao0) (Ig @Ak4 @Apa @Aop @Ao5 @Apc @Apb @Aph @Ao1 @Aol @Ao2 @Aom @Ai8 @Aon @Apd) (Ig @Apr @Ajb @Api @Anb @Aok @Alj @Aox @Al8 @Ao4 @Akq @Apj @Aiq @Apl @poZ))
end Mv
