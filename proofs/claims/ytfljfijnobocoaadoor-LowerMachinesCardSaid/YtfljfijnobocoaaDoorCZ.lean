/- A part. -/
import Derived.Test.YtfljfijnobocoaaDoorCY
set_option linter.all false
namespace Mv
open Go
theorem Adu (n:Nat) (h:n < 18446744073709551616):V.int .u64 (no_index (OfNat.ofNat n:Int))=W (BitVec.ofNat 64 n):=Aex n h
theorem Aar (n:Nat) (h:n < 256):V.int .u8 (no_index (OfNat.ofNat n:Int))=B (BitVec.ofNat 8 n):=Ahs n h
theorem Ad5 (a b:BitVec 64) (H:Hp):AP .add (W a) (W b) H=⟨True,W (a + b),H⟩:=by
 simp only [AP,W,Dx,BitVec.toNat_add];congr 2
theorem Aab (a b:BitVec 64) (H:Hp):AP .sub (W a) (W b) H=⟨True,W (a - b),H⟩:=by
 have h1:=a.isLt;have h2:=b.isLt
 simp only [AP,W,Dx,BitVec.toNat_sub];congr 2;omega
theorem Aak (a b:BitVec 64) (H:Hp):AP .mul (W a) (W b) H=⟨True,W (a * b),H⟩:=by
 simp only [AP,W,Dx,BitVec.toNat_mul];congr 2
theorem Ab1 (a b:BitVec 64) (H:Hp):AP .quo (W a) (W b) H=⟨b ≠ 0,W (a / b),H⟩:=by
 have h1:=a.isLt
 have h2:a.toNat / b.toNat≤a.toNat:=Nat.div_le_self _ _
 have e:((b.toNat:Int) ≠ 0)=(b ≠ 0):=by
  refine propext (not_congr ⟨fun h=>BitVec.eq_of_toNat_eq Ke,?_⟩)
  rintro rfl;rfl
 simp only [AP,W,Dx,BitVec.toNat_udiv,true_and]
 rw [e];congr 2
 rw [Int.tdiv_eq_ediv_of_nonneg Aa,← Int.natCast_ediv]
 generalize a.toNat / b.toNat=q at *;omega
theorem ZE (a b:BitVec 64) (H:Hp):AP .rem (W a) (W b) H=⟨b ≠ 0,W (a % b),H⟩:=by
 have e:((b.toNat:Int) ≠ 0)=(b ≠ 0):=by
  refine propext (not_congr ⟨fun h=>BitVec.eq_of_toNat_eq Ke,?_⟩)
  rintro rfl;rfl
 simp only [AP,W,BitVec.toNat_umod,true_and]
 rw [e];congr 2
theorem ZU (a b:BitVec 64) (H:Hp):AP .lss (W a) (W b) H=⟨True,.bool (decide (a < b)),H⟩:=by
 simp only [AP,W,BitVec.lt_def,Int.ofNat_lt]
theorem Adi (a b:BitVec 64) (H:Hp):AP .leq (W a) (W b) H=⟨True,.bool (decide (a≤b)),H⟩:=by
 simp only [AP,W,BitVec.le_def,Int.ofNat_le]
theorem ZR (a b:BitVec 64) (H:Hp):AP .gtr (W a) (W b) H=⟨True,.bool (decide (b < a)),H⟩:=by
 simp only [AP,W,BitVec.lt_def,Int.ofNat_lt]
theorem Abs (a b:BitVec 64) (H:Hp):AP .geq (W a) (W b) H=⟨True,.bool (decide (b≤a)),H⟩:=by
 simp only [AP,W,BitVec.le_def,Int.ofNat_le]
theorem ZN (a:BitVec 64) (H:Hp):ST .neg (W a) H=⟨True,W (-a),H⟩:=by
 have h1:=a.isLt
 simp only [ST,W,Dx,BitVec.toNat_neg];congr 2;omega
theorem X7 (a b:BitVec 64) (H:Hp):AP .shl (W a) (W b) H=⟨True,W (a <<< b.toNat),H⟩:=by
 have:=GC a .u64 (b.toNat:Int) H
 simp only [Int.toNat_natCast] at this
 rw [show W b=V.int .u64 (b.toNat:Int) from rfl,this];congr 1;simp
theorem WQ (a b:BitVec 64) (H:Hp):AP .shr (W a) (W b) H=⟨True,W (a >>> b.toNat),H⟩:=by
 have:=GK a .u64 (b.toNat:Int) H
 simp only [Int.toNat_natCast] at this
 rw [show W b=V.int .u64 (b.toNat:Int) from rfl,this];congr 1;simp
theorem Abe (a b:BitVec 8) (H:Hp):AP .eql (B a) (B b) H=⟨True,.bool (decide (a=b)),H⟩:=by
 simp only [AP,B,eqB]
theorem Adf (a b:BitVec 8) (H:Hp):AP .neq (B a) (B b) H=⟨True,.bool (!decide (a=b)),H⟩:=by
 simp only [AP,B,eqB]
theorem OW (w:BitVec 64):IntKind.i64.wrap (w.toNat:Int)=w.toInt:=by
 have:=w.isLt
 rw [Ub,BitVec.toInt_eq_toNat_cond]
 split <;> split <;> omega
theorem Xi (w:BitVec 64) (H:Hp):Ca .i64 (W w) H=⟨True,.int .i64 w.toInt,H⟩:=by
 rw [Ir,OW]
theorem ZW (k:IntKind) (a:Int) (H:Hp):Ca .i64 (.int k a) H=⟨True,.int .i64 (IntKind.i64.wrap a),H⟩:=rfl
theorem Acf (k:IntKind) (a:Int) (H:Hp):Ca .i32 (.int k a) H=⟨True,.int .i32 (IntKind.i32.wrap a),H⟩:=rfl
theorem Ady (k:IntKind) (a:Int) (H:Hp):Ca .u32 (.int k a) H=⟨True,.int .u32 (IntKind.u32.wrap a),H⟩:=rfl
theorem Aa5 (k:IntKind) (a:Int) (H:Hp):Ca .u64 (.int k a) H=⟨True,W (BitVec.ofInt 64 a),H⟩:=by
 simp only [Ca,W,Dx,BitVec.toNat_ofInt];congr 2;omega
theorem Xx (w:BitVec 64) (H:Hp):Ca .u64 (W w) H=⟨True,W w,H⟩:=by
 have:=w.isLt
 simp only [Ca,W,Dx];congr 2;omega
theorem Aep (k:IntKind) (a:Int) (H:Hp):Ca .u8 (.int k a) H=⟨True,B (BitVec.ofInt 8 a),H⟩:=by
 simp only [Ca,B,JX,BitVec.toNat_ofInt];congr 2;omega
theorem Xj (w:BitVec 64) (H:Hp):Ca .i32 (W w) H=⟨True,.int .i32 (w.setWidth 32).toInt,H⟩:=by
 have:=w.isLt
 have h:IntKind.i32.wrap (w.toNat:Int)=(w.setWidth 32).toInt:=by
  have e:IntKind.i32.wrap (w.toNat:Int)=if (w.toNat:Int) % 4294967296 ≥ 2147483648 then (w.toNat:Int) % 4294967296 - 4294967296 else (w.toNat:Int) % 4294967296:=Amt
  rw [e,BitVec.toInt_eq_toNat_cond,BitVec.toNat_setWidth]
  split <;> split <;> omega
 simp only [Ca,W,h]
theorem Abj (b:BitVec 8) (H:Hp):Ca .u8 (B b) H=⟨True,B b,H⟩:=by
 have:=b.isLt
 simp only [Ca,B,JX];congr 2;omega
theorem Ac6 (k:IntKind) (a:Int) (w:BitVec 64) (H:Hp):AP .shl (.int k a) (W w) H=⟨True,.int k (k.wrap (a * 2 ^ min w.toNat k.bits)),H⟩:=by
 simp only [AP,Lcd];congr 1;simp
theorem Ads (k:IntKind) (a:Int) (w:BitVec 64) (H:Hp):AP .shr (.int k a) (W w) H=⟨True,.int k (a.fdiv (2 ^ min w.toNat k.bits)),H⟩:=by
 simp only [AP,Lcd];congr 1;simp
theorem Vd:IntKind.i64.bits=64:=rfl
theorem UG:IntKind.u64.bits=64:=rfl
def RoL (M:Seat) (K:List V→Hp→Prop) (d:Option Nat) (r:List LOp) (n:Nat) (A:List V) (v:V) (H:Hp):Prop:=Ro M K r n (put A d v) H
theorem Ajf (M:Seat) (K:List V→Hp→Prop) (d:Option Nat) (r:List LOp) (n:Nat) (A:List V) (v:V) (H:Hp):RoL M K d r n A v H=Ro M K r n (put A d v) H:=rfl
theorem Ajh (M:Seat) (K:List V→Hp→Prop) (d:Option Nat) (f:Nat) (xs:List X) (r:List LOp) (n:Nat) (A:List V) (H:Hp):Ro M K (⟨d,.call f xs,none⟩ :: r) n A H=AR M f (xs.map (X.ev A)) H n (RoL M K d r (n + 16) A):=rfl
theorem Aj5 (M:Seat) (K:List V→Hp→Prop) (d:Option Nat) (u:X) (xs:List X) (r:List LOp) (n:Nat) (A:List V) (H:Hp):Ro M K (⟨d,.dyn u xs,none⟩ :: r) n A H=Eo M (u.ev A) (xs.map (X.ev A)) H n (RoL M K d r (n + 16) A):=rfl
def Ag6 (o:Out) (M:Seat) (K:List V→Hp→Prop) (d:Option Nat) (r:List LOp) (n:Nat) (A:List V):Prop:=o.pre∧Ro M K r n (put A d o.v) o.H
theorem Ajs (M:Seat) (K:List V→Hp→Prop) (d:Option Nat) (o:LO) (r:List LOp) (n:Nat) (A:List V) (H:Hp):Ro M K (⟨d,.lo o,none⟩ :: r) n A H=Ag6 (Ae A H n o) M K d r (n + 16) A:=rfl
theorem Afr (P:Prop) (v:V) (H:Hp) (M:Seat) (K:List V→Hp→Prop) (d:Option Nat) (r:List LOp) (n:Nat) (A:List V):Ag6 ⟨P,v,H⟩ M K d r n A=(P∧Ro M K r n (put A d v) H):=rfl
def C8 (v:V) (b:Bool) (M:Seat) (K:List V→Hp→Prop) (d:Option Nat) (k:LK) (r:List LOp) (n:Nat) (A:List V) (H:Hp):Prop :=
 match v with
 | .bool b'=>(b'=b→Ro M K (⟨d,k,none⟩ :: r) n A H)∧(b' = !b→Ro M K r (n + 16) (put A d (.tup .fnil)) H)
 | .tup _=>Ro M K r (n + 16) (put A d (.tup .fnil)) H
 | _=>False
theorem Ai7 (M:Seat) (K:List V→Hp→Prop) (d:Option Nat) (k:LK) (t:Nat) (b:Bool) (r:List LOp) (n:Nat) (A:List V) (H:Hp):Ro M K (⟨d,k,some (t,b)⟩ :: r) n A H=C8 (A.getD t .junk) b M K d k r n A H:=by
 first | rfl | (simp only [Ro,C8];cases A.getD t .junk <;> rfl)
theorem Yr (M:Seat) (K:List V→Hp→Prop) (d:Option Nat) (k:LK) (r:List LOp) (n:Nat) (A:List V) (H:Hp):C8 (.bool true) true M K d k r n A H=Ro M K (⟨d,k,none⟩ :: r) n A H:=by simp [C8]
theorem YY (M:Seat) (K:List V→Hp→Prop) (d:Option Nat) (k:LK) (r:List LOp) (n:Nat) (A:List V) (H:Hp):C8 (.bool false) false M K d k r n A H=Ro M K (⟨d,k,none⟩ :: r) n A H:=by simp [C8]
theorem YR (M:Seat) (K:List V→Hp→Prop) (d:Option Nat) (k:LK) (r:List LOp) (n:Nat) (A:List V) (H:Hp):C8 (.bool true) false M K d k r n A H=Ro M K r (n + 16) (put A d (.tup .fnil)) H:=by simp [C8]
theorem X8 (M:Seat) (K:List V→Hp→Prop) (d:Option Nat) (k:LK) (r:List LOp) (n:Nat) (A:List V) (H:Hp):C8 (.bool false) true M K d k r n A H=Ro M K r (n + 16) (put A d (.tup .fnil)) H:=by simp [C8]
theorem Ad2 (v:V) (b:Bool) (M:Seat) (K:List V→Hp→Prop) (d:Option Nat) (k:LK) (r:List LOp) (n:Nat) (A:List V) (H:Hp):C8 (.tup v) b M K d k r n A H=Ro M K r (n + 16) (put A d (.tup .fnil)) H:=rfl
def JC (v:V) (M:Seat) (x:Ctx) (Q:List V→Hp→Nat→Prop) (n:Nat) (c d:LC) (k:List It) (N:Nat) (A:List V) (H:Hp):Prop :=
 match v with
 | .bool t=>(t=true→ex M x Q n (.code c :: k) N A H)∧(t=false→ex M x Q n (.code d :: k) N A H)
 | _=>False
theorem WJ (M:Seat) (x:Ctx) (Q:List V→Hp→Nat→Prop) (n:Nat) (y:X) (c d:LC) (k:List It) (N:Nat) (A:List V) (H:Hp):ex M x Q (n + 1) (.code (.cond y c d) :: k) N A H=JC (y.ev A) M x Q n c d k N A H:=rfl
theorem Agx (M:Seat) (x:Ctx) (Q:List V→Hp→Nat→Prop) (n:Nat) (c d:LC) (k:List It) (N:Nat) (A:List V) (H:Hp):JC (.bool true) M x Q n c d k N A H=ex M x Q n (.code c :: k) N A H:=by simp [JC]
theorem Aec (M:Seat) (x:Ctx) (Q:List V→Hp→Nat→Prop) (n:Nat) (c d:LC) (k:List It) (N:Nat) (A:List V) (H:Hp):JC (.bool false) M x Q n c d k N A H=ex M x Q n (.code d :: k) N A H:=by simp [JC]
theorem JC.by {b:Bool} {M:Seat} {x:Ctx} {Q:List V→Hp→Nat→Prop} {n:Nat} {c d:LC} {k:List It} {N:Nat} {A:List V} {H:Hp} (h1:b=true→ex M x Q n (.code c :: k) N A H) (h2:b=false→ex M x Q n (.code d :: k) N A H):JC (.bool b) M x Q n c d k N A H:=⟨h1,h2⟩
def YO (M:Seat) (K:List V→Hp→Prop) (m N wm bf:Nat) (d:Option Nat) (k:LK) (r:List DOp) (p:Nat) (A:List V) (bd:List (Nat × Hp)) (al:List (Nat × Nat × V)) (v:V) (H':Hp):Prop :=
 (SV A (bs N m p k) k v wm bf al bd∧(bif k.isW then CX (N + 16 * p) (N + 16 * m) H' else True)) ∧
  AJ M K m N wm r (p + 1) (put A d v) H' (bif k.isW then (p + 1,H') :: bd else bd) (bif k.isA then (p,bs N m p k,hget H' (bs N m p k)) :: al else al)
def FD (M:Seat) (f:Nat) (us:List V) (H:Hp) (b:Nat) (C:V→Hp→Prop):Prop:=∃ v H',AR M f us H b (fun v' H''=>v'=v∧H''=H')∧C v H'
def Ae6 (o:Out) (C:V→Hp→Prop):Prop:=o.pre∧C o.v o.H
theorem Agg (P:Prop) (v:V) (H:Hp) (C:V→Hp→Prop):Ae6 ⟨P,v,H⟩ C=(P∧C v H):=rfl
theorem R1 (M:Seat) (K:List V→Hp→Prop) (m N wm ix bf:Nat) (d:Option Nat) (f:Nat) (xs:List X) (r:List DOp) (p:Nat) (A:List V) (H:Hp) (bd:List (Nat × Hp)) (al:List (Nat × Nat × V)):AJ M K m N wm (⟨ix,bf,⟨d,.call f xs,none⟩⟩ :: r) p A H bd al =
 FD M f (xs.map (X.ev A)) H (bs N m p (.call f xs)) (YO M K m N wm bf d (.call f xs) r p A bd al):=rfl
theorem Za (M:Seat) (K:List V→Hp→Prop) (m N wm ix bf:Nat) (d:Option Nat) (o:LO) (r:List DOp) (p:Nat) (A:List V) (H:Hp) (bd:List (Nat × Hp)) (al:List (Nat × Nat × V)):AJ M K m N wm (⟨ix,bf,⟨d,.lo o,none⟩⟩ :: r) p A H bd al =
 Ae6 (Ae A H (bs N m p (.lo o)) o) (YO M K m N wm bf d (.lo o) r p A bd al):=rfl
def SI (M:Seat) (u:V) (us:List V) (H:Hp) (b:Nat) (C:V→Hp→Prop):Prop:=∃ v H',Eo M u us H b (fun v' H''=>v'=v∧H''=H')∧C v H'
theorem Tv (M:Seat) (K:List V→Hp→Prop) (m N wm ix bf:Nat) (d:Option Nat) (x:X) (xs:List X) (r:List DOp) (p:Nat) (A:List V) (H:Hp) (bd:List (Nat × Hp)) (al:List (Nat × Nat × V)):AJ M K m N wm (⟨ix,bf,⟨d,.dyn x xs,none⟩⟩ :: r) p A H bd al =
 SI M (x.ev A) (xs.map (X.ev A)) H (bs N m p (.dyn x xs)) (YO M K m N wm bf d (.dyn x xs) r p A bd al):=rfl
theorem Ah7 (M:Seat) (K:List V→Hp→Prop) (m N wm bf:Nat) (d:Option Nat) (k:LK) (r:List DOp) (p:Nat) (A:List V) (bd:List (Nat × Hp)) (al:List (Nat × Nat × V)) (v:V) (H':Hp):YO M K m N wm bf d k r p A bd al v H' =
 ((SV A (bs N m p k) k v wm bf al bd∧(bif k.isW then CX (N + 16 * p) (N + 16 * m) H' else True)) ∧
  AJ M K m N wm r (p + 1) (put A d v) H' (bif k.isW then (p + 1,H') :: bd else bd) (bif k.isA then (p,bs N m p k,hget H' (bs N m p k)) :: al else al)):=rfl
def Dn (v:V) (b:Bool) (M:Seat) (K:List V→Hp→Prop) (m N wm ix bf:Nat) (d:Option Nat) (k:LK) (r:List DOp) (p:Nat) (A:List V) (H:Hp) (bd:List (Nat × Hp)) (al:List (Nat × Nat × V)):Prop :=
 match v with
 | .bool b'=>(b'=b→AJ M K m N wm (⟨ix,bf,⟨d,k,none⟩⟩ :: r) p A H bd al)∧(b' = !b→AJ M K m N wm r (p + 1) (put A d (.tup .fnil)) H (bif k.isW then (p + 1,H) :: bd else bd) al)
 | .tup _=>AJ M K m N wm r (p + 1) (put A d (.tup .fnil)) H (bif k.isW then (p + 1,H) :: bd else bd) al
 | _=>False
theorem Aid (M:Seat) (K:List V→Hp→Prop) (m N wm ix bf:Nat) (d:Option Nat) (k:LK) (t:Nat) (b:Bool) (r:List DOp) (p:Nat) (A:List V) (H:Hp) (bd:List (Nat × Hp)) (al:List (Nat × Nat × V)):AJ M K m N wm (⟨ix,bf,⟨d,k,some (t,b)⟩⟩ :: r) p A H bd al=Dn (A.getD t .junk) b M K m N wm ix bf d k r p A H bd al:=by
 rw [AJ];unfold Dn;cases A.getD t .junk <;> rfl
section
variable (M:Seat) (K:List V→Hp→Prop) (m N wm ix bf:Nat) (d:Option Nat) (k:LK) (r:List DOp) (p:Nat) (A:List V) (H:Hp) (bd:List (Nat × Hp)) (al:List (Nat × Nat × V))
theorem VJ:Dn (.bool true) true M K m N wm ix bf d k r p A H bd al=AJ M K m N wm (⟨ix,bf,⟨d,k,none⟩⟩ :: r) p A H bd al:=by simp [Dn]
theorem TG:Dn (.bool false) false M K m N wm ix bf d k r p A H bd al=AJ M K m N wm (⟨ix,bf,⟨d,k,none⟩⟩ :: r) p A H bd al:=by simp [Dn]
theorem U7:Dn (.bool true) false M K m N wm ix bf d k r p A H bd al=AJ M K m N wm r (p + 1) (put A d (.tup .fnil)) H (bif k.isW then (p + 1,H) :: bd else bd) al:=by simp [Dn]
theorem Vv:Dn (.bool false) true M K m N wm ix bf d k r p A H bd al=AJ M K m N wm r (p + 1) (put A d (.tup .fnil)) H (bif k.isW then (p + 1,H) :: bd else bd) al:=by simp [Dn]
theorem XC (v:V) (b:Bool):Dn (.tup v) b M K m N wm ix bf d k r p A H bd al=AJ M K m N wm r (p + 1) (put A d (.tup .fnil)) H (bif k.isW then (p + 1,H) :: bd else bd) al:=rfl
end
theorem C8.by {b' b:Bool} {M:Seat} {K:List V→Hp→Prop} {d:Option Nat} {k:LK} {r:List LOp} {n:Nat} {A:List V} {H:Hp} (h1:b'=b→Ro M K (⟨d,k,none⟩ :: r) n A H) (h2:b' = !b→Ro M K r (n + 16) (put A d (.tup .fnil)) H):C8 (.bool b') b M K d k r n A H:=⟨h1,h2⟩
end Mv
