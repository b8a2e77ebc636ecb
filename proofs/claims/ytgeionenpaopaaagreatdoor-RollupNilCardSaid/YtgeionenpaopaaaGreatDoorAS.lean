/- A part. -/
import Derived.Test.YtgeionenpaopaaaGreatDoorAR
set_option linter.all false
namespace Mv
open Go
theorem Ak7 (n:Nat) (h:n < 18446744073709551616):V.int .u64 (no_index (OfNat.ofNat n:Int))=W (BitVec.ofNat 64 n):=Al5 n h
theorem Ahi (n:Nat) (h:n < 256):V.int .u8 (no_index (OfNat.ofNat n:Int))=B (BitVec.ofNat 8 n):=Alx n h
theorem Agj (a b:BitVec 64) (H:Hp):AT .add (W a) (W b) H=⟨True,W (a + b),H⟩:=by
 simp only [AT,W,DW,BitVec.toNat_add];congr 2
theorem Ak3 (a b:BitVec 64) (H:Hp):AT .sub (W a) (W b) H=⟨True,W (a - b),H⟩:=by
 have h1:=a.isLt;have h2:=b.isLt;simp only [AT,W,DW,BitVec.toNat_sub];congr 2;omega
theorem Ag3 (a b:BitVec 64) (H:Hp):AT .mul (W a) (W b) H=⟨True,W (a * b),H⟩:=by
 simp only [AT,W,DW,BitVec.toNat_mul];congr 2
theorem Agw (a b:BitVec 64) (H:Hp):AT .quo (W a) (W b) H=⟨b ≠ 0,W (a / b),H⟩:=by
 have h1:=a.isLt;have h2:a.toNat / b.toNat≤a.toNat:=Nat.div_le_self _ _;have e:((b.toNat:Int) ≠ 0)=(b ≠ 0):=by
  refine propext (not_congr ⟨fun h=>BitVec.eq_of_toNat_eq V0,?_⟩);rintro rfl;rfl
 simp only [AT,W,DW,BitVec.toNat_udiv,true_and];rw [e];congr 2;rw [Int.tdiv_eq_ediv_of_nonneg Aa,← Int.natCast_ediv];generalize a.toNat / b.toNat=q at *;omega
theorem Akb (a b:BitVec 64) (H:Hp):AT .rem (W a) (W b) H=⟨b ≠ 0,W (a % b),H⟩:=by
 have e:((b.toNat:Int) ≠ 0)=(b ≠ 0):=by
  refine propext (not_congr ⟨fun h=>BitVec.eq_of_toNat_eq V0,?_⟩);rintro rfl;rfl
 simp only [AT,W,BitVec.toNat_umod,true_and];rw [e];congr 2
theorem Aht (a b:BitVec 64) (H:Hp):AT .lss (W a) (W b) H=⟨True,.bool (decide (a < b)),H⟩:=by
 simp only [AT,W,BitVec.lt_def,Int.ofNat_lt]
theorem Agi (a b:BitVec 64) (H:Hp):AT .leq (W a) (W b) H=⟨True,.bool (decide (a≤b)),H⟩:=by
 simp only [AT,W,BitVec.le_def,Int.ofNat_le]
theorem Ag8 (a b:BitVec 64) (H:Hp):AT .gtr (W a) (W b) H=⟨True,.bool (decide (b < a)),H⟩:=by
 simp only [AT,W,BitVec.lt_def,Int.ofNat_lt]
theorem Ajl (a b:BitVec 64) (H:Hp):AT .geq (W a) (W b) H=⟨True,.bool (decide (b≤a)),H⟩:=by
 simp only [AT,W,BitVec.le_def,Int.ofNat_le]
theorem Ah9 (a:BitVec 64) (H:Hp):V8 .neg (W a) H=⟨True,W (-a),H⟩:=by
 have h1:=a.isLt;simp only [V8,W,DW,BitVec.toNat_neg];congr 2;omega
theorem Acy (a b:BitVec 64) (H:Hp):AT .shl (W a) (W b) H=⟨True,W (a <<< b.toNat),H⟩:=by
 have:=Hr a .u64 (b.toNat:Int) H;simp only [Int.toNat_natCast] at this;rw [show W b=V.int .u64 (b.toNat:Int) from rfl,this];congr 1;simp
theorem Ad9 (a b:BitVec 64) (H:Hp):AT .shr (W a) (W b) H=⟨True,W (a >>> b.toNat),H⟩:=by
 have:=X3 a .u64 (b.toNat:Int) H;simp only [Int.toNat_natCast] at this;rw [show W b=V.int .u64 (b.toNat:Int) from rfl,this];congr 1;simp
theorem Aky (a b:BitVec 8) (H:Hp):AT .eql (B a) (B b) H=⟨True,.bool (decide (a=b)),H⟩:=by
 simp only [AT,B,eqB]
theorem Ai2 (a b:BitVec 8) (H:Hp):AT .neq (B a) (B b) H=⟨True,.bool (!decide (a=b)),H⟩:=by
 simp only [AT,B,eqB]
theorem Qh (w:BitVec 64):IntKind.i64.wrap (w.toNat:Int)=w.toInt:=by
 have:=w.isLt;rw [XL,BitVec.toInt_eq_toNat_cond];split <;> split <;> omega
theorem Ac1 (w:BitVec 64) (H:Hp):Cm .i64 (W w) H=⟨True,.int .i64 w.toInt,H⟩:=by
 rw [Kk,Qh]
theorem Akp (k:IntKind) (a:Int) (H:Hp):Cm .i64 (.int k a) H=⟨True,.int .i64 (IntKind.i64.wrap a),H⟩:=rfl
theorem Aiv (k:IntKind) (a:Int) (H:Hp):Cm .i32 (.int k a) H=⟨True,.int .i32 (IntKind.i32.wrap a),H⟩:=rfl
theorem Ahv (k:IntKind) (a:Int) (H:Hp):Cm .u32 (.int k a) H=⟨True,.int .u32 (IntKind.u32.wrap a),H⟩:=rfl
theorem Alj (k:IntKind) (a:Int) (H:Hp):Cm .u64 (.int k a) H=⟨True,W (BitVec.ofInt 64 a),H⟩:=by
 simp only [Cm,W,DW,BitVec.toNat_ofInt];congr 2;omega
theorem Aev (w:BitVec 64) (H:Hp):Cm .u64 (W w) H=⟨True,W w,H⟩:=by
 have:=w.isLt;simp only [Cm,W,DW];congr 2;omega
theorem Aoa (k:IntKind) (a:Int) (H:Hp):Cm .u8 (.int k a) H=⟨True,B (BitVec.ofInt 8 a),H⟩:=by
 simp only [Cm,B,ME,BitVec.toNat_ofInt];congr 2;omega
theorem Acr (w:BitVec 64) (H:Hp):Cm .i32 (W w) H=⟨True,.int .i32 (w.setWidth 32).toInt,H⟩:=by
 have:=w.isLt;have h:IntKind.i32.wrap (w.toNat:Int)=(w.setWidth 32).toInt:=by
  have e:IntKind.i32.wrap (w.toNat:Int)=if (w.toNat:Int) % 4294967296 ≥ 2147483648 then (w.toNat:Int) % 4294967296 - 4294967296 else (w.toNat:Int) % 4294967296:=Q0;rw [e,BitVec.toInt_eq_toNat_cond,BitVec.toNat_setWidth];split <;> split <;> omega
 simp only [Cm,W,h]
theorem Ajp (b:BitVec 8) (H:Hp):Cm .u8 (B b) H=⟨True,B b,H⟩:=by
 have:=b.isLt;simp only [Cm,B,ME];congr 2;omega
theorem Alp (k:IntKind) (a:Int) (w:BitVec 64) (H:Hp):AT .shl (.int k a) (W w) H=⟨True,.int k (k.wrap (a * 2 ^ min w.toNat k.bits)),H⟩:=by
 simp only [AT,Lcd];congr 1;simp
theorem Ahd (k:IntKind) (a:Int) (w:BitVec 64) (H:Hp):AT .shr (.int k a) (W w) H=⟨True,.int k (a.fdiv (2 ^ min w.toNat k.bits)),H⟩:=by
 simp only [AT,Lcd];congr 1;simp
theorem VZ:IntKind.i64.bits=64:=rfl
theorem X7:IntKind.u64.bits=64:=rfl
def RoL (M:Seat) (K:List V→Hp→Prop) (d:Option Nat) (r:List LOp) (n:Nat) (A:List V) (v:V) (H:Hp):Prop:=Ro M K r n (put A d v) H
theorem Aqs (M:Seat) (K:List V→Hp→Prop) (d:Option Nat) (r:List LOp) (n:Nat) (A:List V) (v:V) (H:Hp):RoL M K d r n A v H=Ro M K r n (put A d v) H:=rfl
theorem Aqw (M:Seat) (K:List V→Hp→Prop) (d:Option Nat) (f:Nat) (xs:List X) (r:List LOp) (n:Nat) (A:List V) (H:Hp):Ro M K (⟨d,.call f xs,none⟩ :: r) n A H=Bk M f (xs.map (X.ev A)) H n (RoL M K d r (n + 16) A):=rfl
theorem Apw (M:Seat) (K:List V→Hp→Prop) (d:Option Nat) (u:X) (xs:List X) (r:List LOp) (n:Nat) (A:List V) (H:Hp):Ro M K (⟨d,.dyn u xs,none⟩ :: r) n A H=Hz M (u.ev A) (xs.map (X.ev A)) H n (RoL M K d r (n + 16) A):=rfl
def Amx (o:Out) (M:Seat) (K:List V→Hp→Prop) (d:Option Nat) (r:List LOp) (n:Nat) (A:List V):Prop:=o.pre∧Ro M K r n (put A d o.v) o.H
theorem Apu (M:Seat) (K:List V→Hp→Prop) (d:Option Nat) (o:LO) (r:List LOp) (n:Nat) (A:List V) (H:Hp):Ro M K (⟨d,.lo o,none⟩ :: r) n A H=Amx (Ag A H n o) M K d r (n + 16) A:=rfl
theorem Ana (P:Prop) (v:V) (H:Hp) (M:Seat) (K:List V→Hp→Prop) (d:Option Nat) (r:List LOp) (n:Nat) (A:List V):Amx ⟨P,v,H⟩ M K d r n A=(P∧Ro M K r n (put A d v) H):=rfl
def Da (v:V) (b:Bool) (M:Seat) (K:List V→Hp→Prop) (d:Option Nat) (k:LK) (r:List LOp) (n:Nat) (A:List V) (H:Hp):Prop :=
 match v with
 | .bool b'=>(b'=b→Ro M K (⟨d,k,none⟩ :: r) n A H)∧(b' = !b→Ro M K r (n + 16) (put A d (.tup .fnil)) H)
 | .tup _=>Ro M K r (n + 16) (put A d (.tup .fnil)) H
 | _=>False
theorem Ap6 (M:Seat) (K:List V→Hp→Prop) (d:Option Nat) (k:LK) (t:Nat) (b:Bool) (r:List LOp) (n:Nat) (A:List V) (H:Hp):Ro M K (⟨d,k,some (t,b)⟩ :: r) n A H=Da (A.getD t .junk) b M K d k r n A H:=by
 first | rfl | (simp only [Ro,Da];cases A.getD t .junk <;> rfl)
theorem Ack (M:Seat) (K:List V→Hp→Prop) (d:Option Nat) (k:LK) (r:List LOp) (n:Nat) (A:List V) (H:Hp):Da (.bool true) true M K d k r n A H=Ro M K (⟨d,k,none⟩ :: r) n A H:=by simp [Da]
theorem Abu (M:Seat) (K:List V→Hp→Prop) (d:Option Nat) (k:LK) (r:List LOp) (n:Nat) (A:List V) (H:Hp):Da (.bool false) false M K d k r n A H=Ro M K (⟨d,k,none⟩ :: r) n A H:=by simp [Da]
theorem Aa6 (M:Seat) (K:List V→Hp→Prop) (d:Option Nat) (k:LK) (r:List LOp) (n:Nat) (A:List V) (H:Hp):Da (.bool true) false M K d k r n A H=Ro M K r (n + 16) (put A d (.tup .fnil)) H:=by simp [Da]
theorem Ab0 (M:Seat) (K:List V→Hp→Prop) (d:Option Nat) (k:LK) (r:List LOp) (n:Nat) (A:List V) (H:Hp):Da (.bool false) true M K d k r n A H=Ro M K r (n + 16) (put A d (.tup .fnil)) H:=by simp [Da]
theorem Ako (v:V) (b:Bool) (M:Seat) (K:List V→Hp→Prop) (d:Option Nat) (k:LK) (r:List LOp) (n:Nat) (A:List V) (H:Hp):Da (.tup v) b M K d k r n A H=Ro M K r (n + 16) (put A d (.tup .fnil)) H:=rfl
def JP (v:V) (M:Seat) (x:Ctx) (Q:List V→Hp→Nat→Prop) (n:Nat) (c d:LC) (k:List It) (N:Nat) (A:List V) (H:Hp):Prop :=
 match v with
 | .bool t=>(t=true→ex M x Q n (.code c :: k) N A H)∧(t=false→ex M x Q n (.code d :: k) N A H)
 | _=>False
theorem Abm (M:Seat) (x:Ctx) (Q:List V→Hp→Nat→Prop) (n:Nat) (y:X) (c d:LC) (k:List It) (N:Nat) (A:List V) (H:Hp):ex M x Q (n + 1) (.code (.cond y c d) :: k) N A H=JP (y.ev A) M x Q n c d k N A H:=rfl
theorem Alu (M:Seat) (x:Ctx) (Q:List V→Hp→Nat→Prop) (n:Nat) (c d:LC) (k:List It) (N:Nat) (A:List V) (H:Hp):JP (.bool true) M x Q n c d k N A H=ex M x Q n (.code c :: k) N A H:=by simp [JP]
theorem Apj (M:Seat) (x:Ctx) (Q:List V→Hp→Nat→Prop) (n:Nat) (c d:LC) (k:List It) (N:Nat) (A:List V) (H:Hp):JP (.bool false) M x Q n c d k N A H=ex M x Q n (.code d :: k) N A H:=by simp [JP]
theorem JP.by {b:Bool} {M:Seat} {x:Ctx} {Q:List V→Hp→Nat→Prop} {n:Nat} {c d:LC} {k:List It} {N:Nat} {A:List V} {H:Hp} (h1:b=true→ex M x Q n (.code c :: k) N A H) (h2:b=false→ex M x Q n (.code d :: k) N A H):JP (.bool b) M x Q n c d k N A H:=⟨h1,h2⟩
def Ac7 (M:Seat) (K:List V→Hp→Prop) (m N wm bf:Nat) (d:Option Nat) (k:LK) (r:List DOp) (p:Nat) (A:List V) (bd:List (Nat × Hp)) (al:List (Nat × Nat × V)) (v:V) (H':Hp):Prop :=
 (Vy A (bs N m p k) k v wm bf al bd∧(bif k.isW then Dq (N + 16 * p) (N + 16 * m) H' else True)) ∧
  Cr M K m N wm r (p + 1) (put A d v) H' (bif k.isW then (p + 1,H') :: bd else bd) (bif k.isA then (p,bs N m p k,hget H' (bs N m p k)) :: al else al)
def IR (M:Seat) (f:Nat) (us:List V) (H:Hp) (b:Nat) (C:V→Hp→Prop):Prop:=∃ v H',Bk M f us H b (fun v' H''=>v'=v∧H''=H')∧C v H'
def Ao9 (o:Out) (C:V→Hp→Prop):Prop:=o.pre∧C o.v o.H
theorem Aou (P:Prop) (v:V) (H:Hp) (C:V→Hp→Prop):Ao9 ⟨P,v,H⟩ C=(P∧C v H):=rfl
theorem Vb (M:Seat) (K:List V→Hp→Prop) (m N wm ix bf:Nat) (d:Option Nat) (f:Nat) (xs:List X) (r:List DOp) (p:Nat) (A:List V) (H:Hp) (bd:List (Nat × Hp)) (al:List (Nat × Nat × V)):Cr M K m N wm (⟨ix,bf,⟨d,.call f xs,none⟩⟩ :: r) p A H bd al =
 IR M f (xs.map (X.ev A)) H (bs N m p (.call f xs)) (Ac7 M K m N wm bf d (.call f xs) r p A bd al):=rfl
theorem Afm (M:Seat) (K:List V→Hp→Prop) (m N wm ix bf:Nat) (d:Option Nat) (o:LO) (r:List DOp) (p:Nat) (A:List V) (H:Hp) (bd:List (Nat × Hp)) (al:List (Nat × Nat × V)):Cr M K m N wm (⟨ix,bf,⟨d,.lo o,none⟩⟩ :: r) p A H bd al =
 Ao9 (Ag A H (bs N m p (.lo o)) o) (Ac7 M K m N wm bf d (.lo o) r p A bd al):=rfl
def XA (M:Seat) (u:V) (us:List V) (H:Hp) (b:Nat) (C:V→Hp→Prop):Prop:=∃ v H',Hz M u us H b (fun v' H''=>v'=v∧H''=H')∧C v H'
theorem Ye (M:Seat) (K:List V→Hp→Prop) (m N wm ix bf:Nat) (d:Option Nat) (x:X) (xs:List X) (r:List DOp) (p:Nat) (A:List V) (H:Hp) (bd:List (Nat × Hp)) (al:List (Nat × Nat × V)):Cr M K m N wm (⟨ix,bf,⟨d,.dyn x xs,none⟩⟩ :: r) p A H bd al =
 XA M (x.ev A) (xs.map (X.ev A)) H (bs N m p (.dyn x xs)) (Ac7 M K m N wm bf d (.dyn x xs) r p A bd al):=rfl
theorem An6 (M:Seat) (K:List V→Hp→Prop) (m N wm bf:Nat) (d:Option Nat) (k:LK) (r:List DOp) (p:Nat) (A:List V) (bd:List (Nat × Hp)) (al:List (Nat × Nat × V)) (v:V) (H':Hp):Ac7 M K m N wm bf d k r p A bd al v H' =
 ((Vy A (bs N m p k) k v wm bf al bd∧(bif k.isW then Dq (N + 16 * p) (N + 16 * m) H' else True)) ∧
  Cr M K m N wm r (p + 1) (put A d v) H' (bif k.isW then (p + 1,H') :: bd else bd) (bif k.isA then (p,bs N m p k,hget H' (bs N m p k)) :: al else al)):=rfl
def DR (v:V) (b:Bool) (M:Seat) (K:List V→Hp→Prop) (m N wm ix bf:Nat) (d:Option Nat) (k:LK) (r:List DOp) (p:Nat) (A:List V) (H:Hp) (bd:List (Nat × Hp)) (al:List (Nat × Nat × V)):Prop :=
 match v with
 | .bool b'=>(b'=b→Cr M K m N wm (⟨ix,bf,⟨d,k,none⟩⟩ :: r) p A H bd al)∧(b' = !b→Cr M K m N wm r (p + 1) (put A d (.tup .fnil)) H (bif k.isW then (p + 1,H) :: bd else bd) al)
 | .tup _=>Cr M K m N wm r (p + 1) (put A d (.tup .fnil)) H (bif k.isW then (p + 1,H) :: bd else bd) al
 | _=>False
theorem An2 (M:Seat) (K:List V→Hp→Prop) (m N wm ix bf:Nat) (d:Option Nat) (k:LK) (t:Nat) (b:Bool) (r:List DOp) (p:Nat) (A:List V) (H:Hp) (bd:List (Nat × Hp)) (al:List (Nat × Nat × V)):Cr M K m N wm (⟨ix,bf,⟨d,k,some (t,b)⟩⟩ :: r) p A H bd al=DR (A.getD t .junk) b M K m N wm ix bf d k r p A H bd al:=by
 rw [Cr];unfold DR;cases A.getD t .junk <;> rfl
section
variable (M:Seat) (K:List V→Hp→Prop) (m N wm ix bf:Nat) (d:Option Nat) (k:LK) (r:List DOp) (p:Nat) (A:List V) (H:Hp) (bd:List (Nat × Hp)) (al:List (Nat × Nat × V))
theorem Wc:DR (.bool true) true M K m N wm ix bf d k r p A H bd al=Cr M K m N wm (⟨ix,bf,⟨d,k,none⟩⟩ :: r) p A H bd al:=by simp [DR]
theorem YQ:DR (.bool false) false M K m N wm ix bf d k r p A H bd al=Cr M K m N wm (⟨ix,bf,⟨d,k,none⟩⟩ :: r) p A H bd al:=by simp [DR]
theorem Avk:DR (.bool true) false M K m N wm ix bf d k r p A H bd al=Cr M K m N wm r (p + 1) (put A d (.tup .fnil)) H (bif k.isW then (p + 1,H) :: bd else bd) al:=by simp [DR]
theorem VE:DR (.bool false) true M K m N wm ix bf d k r p A H bd al=Cr M K m N wm r (p + 1) (put A d (.tup .fnil)) H (bif k.isW then (p + 1,H) :: bd else bd) al:=by simp [DR]
theorem Ado (v:V) (b:Bool):DR (.tup v) b M K m N wm ix bf d k r p A H bd al=Cr M K m N wm r (p + 1) (put A d (.tup .fnil)) H (bif k.isW then (p + 1,H) :: bd else bd) al:=rfl
end
theorem Da.by {b' b:Bool} {M:Seat} {K:List V→Hp→Prop} {d:Option Nat} {k:LK} {r:List LOp} {n:Nat} {A:List V} {H:Hp} (h1:b'=b→Ro M K (⟨d,k,none⟩ :: r) n A H) (h2:b' = !b→Ro M K r (n + 16) (put A d (.tup .fnil)) H):Da (.bool b') b M K d k r n A H:=⟨h1,h2⟩
end Mv
namespace Mv
open Go
def c51:LC:=(sr [aB 2 32,mn 3] (.seq (sr [mt 4 0,A1 5 (.eq false true .ptr (.t 4) (.c .nilp))] (.cond (.t 5) (sr [A1 6 (.build zD []),A1 7 (.mkif 74 (cI 1)),sb 32 2 6,mt 3 7] .ret) .skip)) (sr [mt 8 0,kl 9 199 [(.t 8)],kl 10 200 [(cI 13),(.t 9)],ee 11 10 0,ee 12 10 1,sb 32 2 11,mt 3 12] .ret)))
def f51:LF:=⟨c51,1,0,13,[.cell 2 true 32,.tmp 3]⟩
def c74:LC:=(sr [A1 2 (.mv (.c .nilp)),mn 3] (.seq (sr [mt 5 0,
  lN 6 0 5,aI 7 .gtr 6 8192] (.cond (.t 7) (sr [A1 8 (.mkif 74 (cI 5)),A1 2 (.mv (.c .nilp)),mt 3 8] .ret) .skip)) (sr [A1 9 (.build (.st (.cons (.ar 8192 zU) (.cons (.ar 16 zU) (.cons zU (.cons .bool (.cons zU .nil)))))) []),
  bX 10 9,mt 4 10] (sr [mt 11 4,nc 12 11,fa 13 0 12,A1 14 (.slarr 8192 1 (.t 13) none none),mt 15 0,A1 16 (.copy 1 (.t 14) (.t 15))] (sr [mt 17 4,mt 2 17,mn 3] .ret)))))
def f74:LF:=⟨c74,1,0,18,[.tmp 2,.tmp 3]⟩
def A0s:LC:=(sr [aB 4 32,mn 5] (sr [mt 10 0,mt 11 1,kl 12 316 [(.t 10),(.t 11)],mt 9 12,ee 13 9 0,ee 14 9 1,ee 15 9 2,A1 7 (.alloc (.ar 17 zD)),mt 6 13,sb 544 7 14,mt 8 15] (.seq (.block 0 (sr [mt 17 8,A1 18 (.eq true true (.iface [74]) (.t 17) (.c .nili)),mt 16 18] (.cond (.t 16) (sr [A1 19 (.build zD []),mt 20 8,sb 32 4 19,mt 5 20] .ret) (sr [mt 22 1,
  lN 23 0 22,aI 24 .eql 23 0,mt 21 24] (.cond (.t 21) (sr [mt 25 0,ib 26 17 32 7 25,la 27 32 26,sb 32 4 27,mn 5] .ret) .skip))))) (sr [mt 28 6,mt 29 0,ia 30 1 28 29,lb 31 1 30,
  iJ 32 32 31 0,la 33 32 32,sb 32 4 33,mn 5] .ret))))
def Azi:LF:=⟨A0s,2,0,34,[.cell 4 true 32,.tmp 5]⟩
def A0u:LC:=(sr [A1 2 (.mv (.c .nils))] (sr [mI 3 8192] (.seq (.block 0 (.loop (.seq (sr [mt 6 3,aI 7 .gtr 6 0,mt 8 7,mg 9 8 true 0,mg 10 8 true 3,A2 11 8 true (.ari .sub (.t 10) (cI 1)),A2 12 8 true (.nilc (.t 9)),A2 13 8 true (.fadr 0 (.t 12)),A2 14 8 true (.iarr 8192 1 (.t 13) (.t 11)),A2 15 8 true (.load false 1 (.t 14)),A2 16 8 true (.ari .eql (.t 15) (cU 0)),
  N6 17 8 16]
 (Fy 17 0)) (.block 1 (.reg [mt 18 3,aI 19 .sub 18 1,mt 3 19]))))) (sr [mt 20 3,A1 21 (.mksl 32 32 zD (.t 20) (.t 20)),mt 4 21] (.seq (sr [mt 22 4,
  lN 23 0 22,
  mI 24 0] (.block 2 (.loop (sr [ak 25 .lss 24 23] (.seq (Fy 25 2) (.seq (.block 3 (sr [mt 26 24,mt 5 26] (.reg [mt 27 4,mt 28 5,mt 29 0,mt 30 5,nc 31 29,fa 32 0 31,ib 33 8192 1 32 30,lb 34 1 33,kl 35 202 [(.t 34)],ia 36 32 27 28,sb 32 36 35]))) (.reg [aI 37 .add 24 1,mt 24 37]))))))) (sr [mt 38 4,mt 2 38] .ret))))))
def Aw4:LF:=⟨A0u,1,0,39,[.tmp 2]⟩
def A0r:LC:=(sr [aB 2 32] (sr [aB 3 32] (sr [A1 4 (.slarr 32 1 (.t 3) (some (cI 24)) none),mt 5 0,kl 6 312 [(.t 4),(.t 5)]] (sr [la 7 32 3,sb 32 2 7] .ret))))
def Awq:LF:=⟨A0r,1,0,8,[.cell 2 true 32]⟩
def Anm:LC:=(sr [bX 2 0,
 bX 3 1,
 aB 4 32] (sr [aB 5 136] (.seq (.regd [⟨0,0,A1 6 (.slarr 136 1 (.t 5) none none)⟩,⟨1,0,A1 7 (.slarr 32 1 (.t 2) none none)⟩,⟨2,3,A1 8 (.copy 1 (.t 6) (.t 7))⟩]) (.seq (.regd [⟨0,0,A1 9 (.slarr 136 1 (.t 5) (some (cI 32)) none)⟩,⟨1,0,A1 10 (.slarr 32 1 (.t 3) none none)⟩,⟨2,3,A1 11 (.copy 1 (.t 9) (.t 10))⟩]) (sr [iI 12 136 1 5 64,A0 (.store 1 (.t 12) (.c (.int .u8 1))),
  iI 13 136 1 5 135,A0 (.store 1 (.t 13) (.c (.int .u8 128)))] (sr [A1 14 (.build (.ar 25 zU) []),A1 15 (.slarr 136 1 (.t 5) none none),kl 16 318 [(.t 14),(.t 15)],kl 17 317 [(.t 16)],sb 32 4 17] .ret))))))
def Ahr:LF:=⟨Anm,2,0,18,[.cell 4 true 32]⟩
def Amj:LC:=(sr [A1 0 (.alloc (.ar 17 zD))] (sr [A1 1 (.alloc (.ar 17 zD))] (.seq (sr [mI 2 1] (.block 0 (.loop (.seq (sr [mt 3 2,aI 4 .leq 3 16]
 (Fy 4 0)) (.seq (.block 1 (.regd [⟨1,0,mt 8 2⟩,⟨2,1,aI 9 .sub 8 1⟩,⟨3,3,ib 10 17 32 1 9⟩,⟨4,7,la 11 32 10⟩,⟨5,0,mt 12 2⟩,⟨6,16,aI 13 .sub 12 1⟩,⟨7,48,ib 14 17 32 1 13⟩,⟨8,112,la 15 32 14⟩,⟨9,255,kl 16 207 [(.t 11),(.t 15)]⟩,⟨0,0,mt 7 2⟩,⟨10,1023,ib 17 17 32 1 7⟩,⟨11,2047,sb 32 17 16⟩])) (.reg [mt 5 2,aI 6 .add 5 1,mt 2 6])))))) (sr [la 18 544 1,sb 544 0 18] .ret))))
def Aib:LF:=⟨Amj,0,0,19,[.cell 0 true 544]⟩
def Azy:LC:=(sr [A1 4 (.mv (.c .nils)),A1 5 (.alloc (.ar 17 zD)),mn 6] (sr [kl 14 315 [],A1 7 (.alloc (.ar 17 zD)),sb 544 7 14] (.seq (.block 0 (sr [mt 16 0,aI 17 .lss 16 0,mt 18 17,mg 19 18 false 0,A2 20 18 false (.ari .gtr (.t 19) (cI 16)),
  FB 21 18 20,mt 15 21] (.cond (.t 15) (.seq (.regd [⟨0,0,la 22 544 7⟩,⟨2,0,A1 4 (.mv (.c .nils))⟩,⟨3,3,sb 544 5 22⟩,⟨1,0,A1 23 (.mkif 74 (cI 2))⟩,⟨4,15,mt 6 23⟩]) .ret) (sr [mt 25 1,
  lN 26 0 25,mt 27 0,
  aJ 28 .shl 1 27,ak 29 .gtr 26 28,mt 24 29] (.cond (.t 24) (.seq (.regd [⟨0,0,la 30 544 7⟩,⟨2,0,A1 4 (.mv (.c .nils))⟩,⟨3,3,sb 544 5 30⟩,⟨1,0,A1 31 (.mkif 74 (cI 5))⟩,⟨4,15,mt 6 31⟩]) .ret) .skip))))) (sr [mt 32 1,A1 33 (.bsl 1 1 .slice [(.i 1 0,1,(.t 32))]),mt 8 33] (.seq (sr [mt 34 0,
  mI 35 0] (.block 1 (.loop (sr [ak 36 .lss 35 34] (.seq (Fy 36 1) (.seq (.block 2 (sr [mt 37 35,mt 9 37] (sr [A1 10 (.mv (.c .nils))] (sr [mt 38 8,mt 39 9,ia 40 1 38 39,lb 41 1 40,mt 11 41] (.seq (sr [mI 12 0] (.block 3 (.loop (.seq (sr [mt 42 12,mt 43 11,
  lN 44 0 43,ak 45 .lss 42 44]
 (Fy 45 3)) (.seq (.block 4 (sr [mt 48 9,ib 49 17 32 7 48,la 50 32 49,
  aB 13 32,sb 32 13 50] (.seq (sr [mt 51 12,aI 52 .add 51 1,mt 53 11,
  lN 54 0 53,ak 55 .lss 52 54] (.cond (.t 55) (.reg [mt 56 11,mt 57 12,aI 58 .add 57 1,ia 59 32 56 58,la 60 32 59,sb 32 13 60]) .skip)) (.seq (.regd [⟨0,0,mt 61 11⟩,⟨1,0,mt 62 12⟩,⟨2,3,ia 63 32 61 62⟩,⟨3,7,la 64 32 63⟩,⟨4,0,mt 65 9⟩,⟨5,16,ib 66 17 32 7 65⟩,⟨6,48,la 67 32 66⟩,⟨7,127,A1 68 (.eq false false (.ar 32 1 false .int) (.t 64) (.t 67))⟩,⟨8,255,mt 69 68⟩,⟨9,511,A2 70 69 true (.load true 32 (.t 13))⟩,⟨10,511,mg 71 69 true 9⟩,⟨11,1535,A2 72 69 true (.iarr 17 32 (.t 7) (.t 71))⟩,⟨12,3583,A2 73 69 true (.load true 32 (.t 72))⟩,⟨13,8191,A2 74 69 true (.eq false false (.ar 32 1 false .int) (.t 70) (.t 73))⟩,⟨14,16383,N6 75 69 74⟩]) (.cond (.t 75) (.reg [mt 76 10,mt 77 9,aI 78 .add 77 1,ib 79 17 32 7 78,la 80 32 79,A1 81 (.bsl 32 1 zD [(.i 32 0,32,(.t 80))]),
  aP 82 32 32 76 81,mt 10 82]) (.regd [⟨1,0,mt 84 11⟩,⟨2,0,mt 85 12⟩,⟨3,3,ia 86 32 84 85⟩,⟨4,7,la 87 32 86⟩,⟨5,0,la 88 32 13⟩,⟨6,31,kl 89 207 [(.t 87),(.t 88)]⟩,⟨0,0,mt 83 10⟩,⟨7,63,A1 90 (.bsl 32 1 zD [(.i 32 0,32,(.t 89))])⟩,⟨8,255,aP 91 32 32 83 90⟩,⟨9,511,mt 10 91⟩])))))) (.reg [mt 46 12,aI 47 .add 46 2,mt 12 47])))))) (.reg [mt 92 8,mt 93 10,A1 94 (.bsl 1 1 .slice [(.i 1 0,1,(.t 93))]),
  aP 95 1 24 92 94,mt 8 95])))))) (.reg [aI 96 .add 35 1,mt 35 96]))))))) (.seq (.regd [⟨0,0,mt 97 8⟩,⟨1,0,la 98 544 7⟩,⟨2,1,mt 4 97⟩,⟨3,7,sb 544 5 98⟩,⟨4,15,mn 6⟩]) .ret))))))
def Axy:LF:=⟨Azy,2,0,99,[.tmp 4,.cell 5 true 544,.tmp 6]⟩
def Anu:LC:=(sr [bX 1 0,
 aB 2 32] (sr [aB 3 32] (.seq (sr [mI 5 0] (.block 0 (.loop (sr [aI 6 .lss 5 32] (.seq (Fy 6 0) (.seq (.block 1 (sr [mt 7 5,mt 4 7] (.reg [mt 8 4,mt 9 4,aI 10 .quo 9 8,ib 11 25 1 1 10,lb 12 1 11,mt 13 4,aI 14 .rem 13 8,
  aJ 15 .mul 8 14,ak 16 .shr 12 15,
  Ea 17 .u8 16,ib 18 32 1 3 8,sb 1 18 17]))) (.reg [aI 19 .add 5 1,mt 5 19]))))))) (sr [la 20 32 3,sb 32 2 20] .ret))))
def Aha:LF:=⟨Anu,1,0,21,[.cell 2 true 32]⟩
def Aok:LC:=(sr [bX 2 0,A1 4 (.alloc (.ar 25 zU))] (.seq (sr [mI 8 0] (.block 0 (.loop (sr [aI 9 .lss 8 17] (.seq (Fy 9 0) (.seq (.block 1 (sr [mt 10 8,mt 5 10] (sr [mt 11 1,mt 12 5,
  aJ 13 .mul 8 12,mt 14 5,
  aJ 15 .mul 8 14,aI 16 .add 15 8,A1 17 (.slsl 1 (.t 11) (some (.t 13)) (some (.t 16))),
  lN 18 0 17,
  mI 19 0] (.block 2 (.loop (sr [ak 20 .lss 19 18] (.seq (Fy 20 2) (.seq (.block 3 (sr [mt 21 19,ia 22 1 17 19,lb 23 1 22,mt 6 21,mt 7 23]
 (.regd [⟨0,0,mt 24 5⟩,⟨1,1,ib 25 25 1 2 24⟩,⟨2,3,lb 26 1 25⟩,⟨3,0,mt 27 7⟩,⟨4,8,Ea 28 .u64 27⟩,⟨5,0,mt 29 6⟩,⟨6,32,aJ 30 .mul 8 29⟩,⟨7,120,ak 31 .shl 28 30⟩,⟨8,255,ak 32 .xor 26 31⟩,⟨9,511,ib 33 25 1 2 24⟩,⟨10,1023,sb 1 33 32⟩]))) (.reg [aI 34 .add 19 1,mt 19 34]))))))))) (.reg [aI 35 .add 8 1,mt 8 35]))))))) (sr [la 36 25 2,kl 37 417 [(.t 36)],sb 25 4 37] .ret)))
def Akk:LF:=⟨Aok,2,0,38,[.cell 4 true 25]⟩
def A0q:LC:=(sr [mI 5 0] (.block 0 (.loop (sr [aI 6 .lss 5 8] (.seq (Fy 6 0) (.seq (.block 1 (sr [mt 7 5,mt 4 7] (.reg [mt 8 0,mt 9 4,mt 10 1,mt 11 4,
  aJ 12 .mul 8 11,
  aJ 13 .sub 56 12,ak 14 .shr 10 13,
  Ea 15 .u8 14,ia 16 1 8 9,sb 1 16 15]))) (.reg [aI 17 .add 5 1,mt 5 17])))))))
def Au1:LF:=⟨A0q,2,0,18,[]⟩
def An3:LC:=(sr [bX 1 0,A1 2 (.alloc (.ar 25 zU))] (.seq (sr [A1 27 (.load true 24 (.g 1)),
  mI 28 0] (.block 0 (.loop (sr [aI 29 .lss 28 24] (.seq (Fy 29 0) (.seq (.block 1 (sr [A1 30 (.idx 24 1 false (.t 27) (.t 28)),mt 4 30] (.seq (.regd [⟨0,0,iI 31 25 1 1 0⟩,⟨1,1,lb 32 1 31⟩,⟨2,0,iI 33 25 1 1 5⟩,⟨3,4,lb 34 1 33⟩,⟨4,15,ak 35 .xor 32 34⟩,⟨5,0,iI 36 25 1 1 10⟩,⟨6,32,lb 37 1 36⟩,⟨7,127,ak 38 .xor 35 37⟩,⟨8,0,iI 39 25 1 1 15⟩,⟨9,256,lb 40 1 39⟩,⟨10,1023,ak 41 .xor 38 40⟩,⟨11,0,iI 42 25 1 1 20⟩,⟨12,2048,lb 43 1 42⟩,⟨13,8191,ak 44 .xor 41 43⟩,⟨14,0,iI 45 25 1 1 1⟩,⟨15,16384,lb 46 1 45⟩,⟨16,0,iI 47 25 1 1 6⟩,⟨17,65536,lb 48 1 47⟩,⟨18,245760,ak 49 .xor 46 48⟩,⟨19,0,iI 50 25 1 1 11⟩,⟨20,524288,lb 51 1 50⟩,⟨21,2080768,ak 52 .xor 49 51⟩,⟨22,0,iI 53 25 1 1 16⟩,⟨23,4194304,lb 54 1 53⟩,⟨24,16760832,ak 55 .xor 52 54⟩,⟨25,0,iI 56 25 1 1 21⟩,⟨26,33554432,lb 57 1 56⟩,⟨27,134201344,ak 58 .xor 55 57⟩,⟨28,0,iI 59 25 1 1 2⟩,⟨29,268435456,lb 60 1 59⟩,⟨30,0,iI 61 25 1 1 7⟩,⟨31,1073741824,lb 62 1 61⟩,⟨32,4026531840,ak 63 .xor 60 62⟩,⟨33,0,iI 64 25 1 1 12⟩,⟨34,8589934592,lb 65 1 64⟩,⟨35,34091302912,ak 66 .xor 63 65⟩,⟨36,0,iI 67 25 1 1 17⟩,⟨37,68719476736,lb 68 1 67⟩,⟨38,274609471488,ak 69 .xor 66 68⟩,⟨39,0,iI 70 25 1 1 22⟩,⟨40,549755813888,lb 71 1 70⟩,⟨41,2198754820096,ak 72 .xor 69 71⟩,⟨42,0,iI 73 25 1 1 3⟩,⟨43,4398046511104,lb 74 1 73⟩,⟨44,0,iI 75 25 1 1 8⟩,⟨45,17592186044416,lb 76 1 75⟩,⟨46,65970697666560,ak 77 .xor 74 76⟩,⟨47,0,iI 78 25 1 1 13⟩,⟨48,140737488355328,lb 79 1 78⟩,⟨49,558551906910208,ak 80 .xor 77 79⟩,⟨50,0,iI 81 25 1 1 18⟩,⟨51,1125899906842624,lb 82 1 81⟩,⟨52,4499201580859392,ak 83 .xor 80 82⟩,⟨53,0,iI 84 25 1 1 23⟩,⟨54,9007199254740992,lb 85 1 84⟩,⟨55,36024398972452864,ak 86 .xor 83 85⟩,⟨56,0,iI 87 25 1 1 4⟩,⟨57,72057594037927936,lb 88 1 87⟩,⟨58,0,iI 89 25 1 1 9⟩,⟨59,288230376151711744,lb 90 1 89⟩,⟨60,1080863910568919040,ak 91 .xor 88 90⟩,⟨61,0,iI 92 25 1 1 14⟩,⟨62,2305843009213693952,lb 93 1 92⟩,⟨63,9151314442816847872,ak 94 .xor 91 93⟩,⟨64,0,iI 95 25 1 1 19⟩,⟨65,18446744073709551616,lb 96 1 95⟩,⟨66,73714918700800278528,ak 97 .xor 94 96⟩,⟨67,0,iI 98 25 1 1 24⟩,⟨68,147573952589676412928,lb 99 1 98⟩,⟨69,590223752764667723776,ak 100 .xor 97 99⟩,⟨70,16383,mt 5 44⟩,⟨71,1180591620717679738879,mt 6 58⟩,⟨72,3541774866550280421375,mt 7 72⟩,⟨73,8264213402615917051903,mt 8 86⟩,⟨74,18889465931478580854783,mt 9 100⟩]) (sr [mt 101 9,mt 102 6,kl 103 462 [(.t 102),(cI 1)],ak 104 .xor 101 103,mt 105 5,mt 106 7,kl 107 462 [(.t 106),(cI 1)],ak 108 .xor 105 107,mt 109 6,mt 110 8,kl 111 462 [(.t 110),(cI 1)],ak 112 .xor 109 111,mt 113 7,mt 114 9,kl 115 462 [(.t 114),(cI 1)],ak 116 .xor 113 115,mt 117 8,mt 118 5,kl 119 462 [(.t 118),(cI 1)],ak 120 .xor 117 119,mt 10 104,mt 11 108,mt 12 112,mt 13 116,mt 14 120] (.seq (sr [mI 15 0] (.block 2 (.loop (.seq (sr [mt 121 15,aI 122 .lss 121 25]
 (Fy 122 2)) (.seq (.block 3 (sr [mt 125 15,A1 126 (.slarr 25 1 (.t 1) (some (.t 125)) none),A1 127 (.s2a 5 1 (.t 126)),mt 16 127]
 (.regd [⟨0,0,mt 128 16⟩,⟨5,0,mt 133 16⟩,⟨6,2,nc 134 133⟩,⟨7,6,iI 135 5 1 134 0⟩,⟨8,14,lb 136 1 135⟩,⟨9,0,mt 137 10⟩,⟨10,62,ak 138 .xor 136 137⟩,⟨11,0,mt 139 16⟩,⟨12,128,nc 140 139⟩,⟨13,384,iI 141 5 1 140 1⟩,⟨14,896,lb 142 1 141⟩,⟨17,0,mt 145 16⟩,⟨18,2048,nc 146 145⟩,⟨19,6144,iI 147 5 1 146 2⟩,⟨20,14336,lb 148 1 147⟩,⟨23,0,mt 151 16⟩,⟨24,32768,nc 152 151⟩,⟨25,98304,iI 153 5 1 152 3⟩,⟨26,229376,lb 154 1 153⟩,⟨29,0,mt 157 16⟩,⟨30,524288,nc 158 157⟩,⟨31,1572864,iI 159 5 1 158 4⟩,⟨32,3670016,lb 160 1 159⟩,⟨35,1,nc 163 128⟩,⟨36,16777215,iI 164 5 1 163 0⟩,⟨37,33554431,sb 1 164 138⟩,⟨1,0,mt 129 16⟩,⟨15,0,mt 143 11⟩,⟨16,134219648,ak 144 .xor 142 143⟩,⟨38,67108864,nc 165 129⟩,⟨39,1073741823,iI 166 5 1 165 1⟩,⟨40,2147483647,sb 1 166 144⟩,⟨2,0,mt 130 16⟩,⟨21,0,mt 149 12⟩,⟨22,8589965312,ak 150 .xor 148 149⟩,⟨41,4294967296,nc 167 130⟩,⟨42,68719476735,iI 168 5 1 167 2⟩,⟨43,137438953471,sb 1 168 150⟩,⟨3,0,mt 131 16⟩,⟨27,0,mt 155 13⟩,⟨28,549756305408,ak 156 .xor 154 155⟩,⟨44,274877906944,nc 169 131⟩,⟨45,4398046511103,iI 170 5 1 169 3⟩,⟨46,8796093022207,sb 1 170 156⟩,⟨4,0,mt 132 16⟩,⟨33,0,mt 161 14⟩,⟨34,35184379953152,ak 162 .xor 160 161⟩,⟨47,17592186044416,nc 171 132⟩,⟨48,281474976710655,iI 172 5 1 171 4⟩,⟨49,562949953421311,sb 1 172 162⟩]))) (.reg [mt 123 15,aI 124 .add 123 5,mt 15 124])))))) (sr [iI 173 25 1 1 1,lb 174 1 173,mt 17 174] (.seq (sr [A1 175 (.load true 24 (.g 2)),
  mI 176 0] (.block 4 (.loop (sr [aI 177 .lss 176 24] (.seq (Fy 177 4) (.seq (.block 5 (sr [mt 178 176,A1 179 (.idx 24 1 false (.t 175) (.t 176)),mt 18 178,mt 19 179]
 (.regd [⟨4,0,mt 184 17⟩,⟨5,0,mt 185 18⟩,⟨6,2,A1 186 (.iarr 24 1 (.g 3) (.t 185))⟩,⟨7,6,lb 187 1 186⟩,⟨8,15,kl 188 462 [(.t 184),(.t 187)]⟩,⟨0,0,mt 180 19⟩,⟨1,0,mt 181 19⟩,⟨2,64,ib 182 25 1 1 181⟩,⟨3,192,lb 183 1 182⟩,⟨9,479,mt 17 183⟩,⟨10,1023,ib 189 25 1 1 180⟩,⟨11,2047,sb 1 189 188⟩]))) (.reg [aI 190 .add 176 1,mt 176 190]))))))) (.seq (sr [mI 20 0] (.block 6 (.loop (.seq (sr [mt 191 20,aI 192 .lss 191 25]
 (Fy 192 6)) (.seq (.block 7 (sr [mt 195 20,A1 196 (.slarr 25 1 (.t 1) (some (.t 195)) none),A1 197 (.s2a 5 1 (.t 196)),mt 21 197] (.seq (.regd [⟨0,0,mt 198 21⟩,⟨1,1,nc 199 198⟩,⟨2,3,iI 200 5 1 199 0⟩,⟨3,7,lb 201 1 200⟩,⟨4,0,mt 202 21⟩,⟨5,16,nc 203 202⟩,⟨6,48,iI 204 5 1 203 1⟩,⟨7,112,lb 205 1 204⟩,⟨8,0,mt 206 21⟩,⟨9,256,nc 207 206⟩,⟨10,768,iI 208 5 1 207 2⟩,⟨11,1792,lb 209 1 208⟩,⟨12,0,mt 210 21⟩,⟨13,4096,nc 211 210⟩,⟨14,12288,iI 212 5 1 211 3⟩,⟨15,28672,lb 213 1 212⟩,⟨16,0,mt 214 21⟩,⟨17,65536,nc 215 214⟩,⟨18,196608,iI 216 5 1 215 4⟩,⟨19,458752,lb 217 1 216⟩,⟨20,15,mt 22 201⟩,⟨21,1048831,mt 23 205⟩,⟨22,3149823,mt 24 209⟩,⟨23,7405567,mt 25 213⟩,⟨24,16777215,mt 26 217⟩])
 (.regd [⟨0,0,mt 218 21⟩,⟨5,0,mt 223 22⟩,⟨6,0,mt 224 23⟩,⟨7,4,A1 225 (.un .xor (.t 224))⟩,⟨8,0,mt 226 24⟩,⟨9,28,ak 227 .and 225 226⟩,⟨10,62,ak 228 .xor 223 227⟩,⟨35,1,nc 253 218⟩,⟨36,255,iI 254 5 1 253 0⟩,⟨37,511,sb 1 254 228⟩,⟨1,0,mt 219 21⟩,⟨11,0,mt 229 23⟩,⟨12,0,mt 230 24⟩,⟨13,4096,A1 231 (.un .xor (.t 230))⟩,⟨14,0,mt 232 25⟩,⟨15,28672,ak 233 .and 231 232⟩,⟨16,63488,ak 234 .xor 229 233⟩,⟨38,1024,nc 255 219⟩,⟨39,262143,iI 256 5 1 255 1⟩,⟨40,524287,sb 1 256 234⟩,⟨2,0,mt 220 21⟩,⟨17,0,mt 235 24⟩,⟨18,0,mt 236 25⟩,⟨19,4194304,A1 237 (.un .xor (.t 236))⟩,⟨20,0,mt 238 26⟩,⟨21,29360128,ak 239 .and 237 238⟩,⟨22,65011712,ak 240 .xor 235 239⟩,⟨41,1048576,nc 257 220⟩,⟨42,268435455,iI 258 5 1 257 2⟩,⟨43,536870911,sb 1 258 240⟩,⟨3,0,mt 221 21⟩,⟨23,0,mt 241 25⟩,⟨24,0,mt 242 26⟩,⟨25,4294967296,A1 243 (.un .xor (.t 242))⟩,⟨26,0,mt 244 22⟩,⟨27,30064771072,ak 245 .and 243 244⟩,⟨28,66571993088,ak 246 .xor 241 245⟩,⟨44,1073741824,nc 259 221⟩,⟨45,274877906943,iI 260 5 1 259 3⟩,⟨46,549755813887,sb 1 260 246⟩,⟨4,0,mt 222 21⟩,⟨29,0,mt 247 26⟩,⟨30,0,mt 248 22⟩,⟨31,4398046511104,A1 249 (.un .xor (.t 248))⟩,⟨32,0,mt 250 23⟩,⟨33,30786325577728,ak 251 .and 249 250⟩,⟨34,68169720922112,ak 252 .xor 247 251⟩,⟨47,1099511627776,nc 261 222⟩,⟨48,281474976710655,iI 262 5 1 261 4⟩,⟨49,562949953421311,sb 1 262 252⟩])))) (.reg [mt 193 20,aI 194 .add 193 5,mt 20 194])))))) (.reg [iI 263 25 1 1 0,lb 264 1 263,mt 265 4,ak 266 .xor 264 265,
  iI 267 25 1 1 0,sb 1 267 266]))))))))) (.reg [aI 268 .add 28 1,mt 28 268]))))))) (sr [la 269 25 1,sb 25 2 269] .ret)))
def Aak:LF:=⟨An3,1,0,270,[.cell 2 true 25]⟩
def Aox:LC:=(sr [mU 4 0] (sr [mt 6 1,
  Ea 7 .u64 6,
  aU 8 .and 7 63,mt 5 8] (sr [mt 9 0,mt 10 5,ak 11 .shl 9 10,mt 12 0,mt 13 5,
  aV 14 .sub 64 13,ak 15 .shr 12 14,ak 16 .or 11 15,mt 4 16] .ret)))
def Vr:LF:=⟨Aox,2,0,17,[.tmp 4]⟩
end Mv
