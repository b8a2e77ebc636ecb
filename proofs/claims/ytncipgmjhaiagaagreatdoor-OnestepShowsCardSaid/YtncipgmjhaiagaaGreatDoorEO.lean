/- A part. -/
import Derived.Test.YtncipgmjhaiagaaGreatDoorEN
set_option linter.all false
set_option maxRecDepth 10000
namespace Mv
open Go
def Cg (k:IntKind) (v:V) (H:Hp):Out:=match v with
 | .int _ a=>⟨True,.int k (k.wrap a),H⟩
 | _=>BR H
theorem Ab (A:List V) (H:Hp) (n:Nat) (k:IntKind) (x:X):Ad A H n (.conv k x)=Cg k (x.ev A) H:=rfl
theorem Iu (k k':IntKind) (a:Int) (H:Hp):Cg k (.int k' a) H=⟨True,.int k (k.wrap a),H⟩:=rfl
theorem JJ (b:BitVec 8) (H:Hp):Cg .u64 (B b) H=⟨True,W (b.setWidth 64),H⟩:=by
 have h:=b.isLt
 simp only [Cg,B,W,Dw,BitVec.toNat_setWidth]
 congr 2
theorem J6 (w:BitVec 64) (H:Hp):Cg .u8 (W w) H=⟨True,B (w.setWidth 8),H⟩:=by
 simp only [Cg,B,W,KB,BitVec.toNat_setWidth]
 congr 2
theorem Ii (w:BitVec 64) (H:Hp):Cg .i64 (W w) H=⟨True,.int .i64 (IntKind.i64.wrap (w.toNat:Int)),H⟩:=rfl
theorem Ie (w:BitVec 8) (H:Hp):Cg .i64 (B w) H=⟨True,.int .i64 (w.toNat:Int),H⟩:=by
 have h:=w.isLt
 simp only [Cg,B]
 rw [AI Aa]
theorem E5 (a:BitVec 64) (k:IntKind) (b:Int) (H:Hp):AK .shl (W a) (.int k b) H=⟨0≤b,W (a <<< b.toNat),H⟩:=by
 simp only [AK,W,Dw,BitVec.toNat_shiftLeft,Nat.shiftLeft_eq,IntKind.bits]
 congr 2
 by_cases hb:b.toNat≤64
 ·rw [Nat.min_eq_left hb]
  rw [Int.natCast_emod,Int.natCast_mul,Int.natCast_pow]
  rfl
 ·rw [Nat.min_eq_right Aa]
  have e1:a.toNat * 2 ^ b.toNat % 2 ^ 64=0:=by
   have:b.toNat=64 + (b.toNat - 64):=Aa
   rw [this,Nat.pow_add,← Nat.mul_assoc,Nat.mul_right_comm]
   exact Nat.mul_mod_left _ _
  rw [e1]
  have e2:(2:Int) ^ 64=18446744073709551616:=Ak
  rw [e2];omega
theorem Fv (a:BitVec 64) (k:IntKind) (b:Int) (H:Hp):AK .shr (W a) (.int k b) H=⟨0≤b,W (a >>> b.toNat),H⟩:=by
 have ha:=a.isLt
 simp only [AK,W,Lb4,IntKind.bits]
 congr 2
 rw [Int.fdiv_eq_ediv_of_nonneg _ (Int.pow_nonneg Aa),Int.natCast_ediv,Int.natCast_pow]
 by_cases hb:b.toNat≤64
 ·rw [Nat.min_eq_left hb];rfl
 ·rw [Nat.min_eq_right Aa]
  have h1:(a.toNat:Int) / 2 ^ 64=0:=Int.ediv_eq_zero_of_lt Aa Aa
  have h2:a.toNat / 2 ^ b.toNat=0:=Nat.div_eq_of_lt (Nat.lt_of_lt_of_le ha (Nat.pow_le_pow_right Aa Aa))
  have h3:(a.toNat:Int) / ((2:Nat):Int) ^ b.toNat=0:=by
   rw [← Int.natCast_pow,← Int.natCast_ediv,h2];rfl
  rw [h1];exact h3.symm
theorem eqW (a b:BitVec 64):decide ((a.toNat:Int)=(b.toNat:Int))=decide (a=b):=by
 rw [decide_eq_decide]
 constructor
 ·intro h;exact BitVec.eq_of_toNat_eq Aa
 ·rintro rfl;rfl
theorem EU (a b:BitVec 64) (H:Hp):AK .eql (W a) (W b) H=⟨True,.bool (decide (a=b)),H⟩:=by
 simp only [AK,W,eqW]
theorem EZ (a b:BitVec 64) (H:Hp):AK .neq (W a) (W b) H=⟨True,.bool (!decide (a=b)),H⟩:=by
 simp only [AK,W,eqW]
theorem FJ (a:BitVec 64) (c:Int) (H:Hp):AK .eql (W a) (.int .u64 c) H=⟨True,.bool (decide ((a.toNat:Int)=c)),H⟩:=by
 simp only [AK,W]
theorem FO (a:BitVec 64) (c:Int) (H:Hp):AK .geq (W a) (.int .u64 c) H=⟨True,.bool (decide (c≤(a.toNat:Int))),H⟩:=by
 simp only [AK,W]
theorem FG (a:BitVec 64) (c:Int) (H:Hp):AK .rem (W a) (.int .u64 c) H=⟨c ≠ 0,.int .u64 ((a.toNat:Int).tmod c),H⟩:=by
 simp only [AK,W,true_and]
theorem Tt (a b:BitVec 8) (H:Hp):AK .xor (B a) (B b) H=⟨True,B (a ^^^ b),H⟩:=by
 simp only [AK,B,KB]
 congr 2
 rw [BB,BB]
 have e1:BitVec.ofNat IntKind.u8.bits a.toNat=a:=by apply BitVec.eq_of_toNat_eq;simp [IntKind.bits]
 have e2:BitVec.ofNat IntKind.u8.bits b.toNat=b:=by apply BitVec.eq_of_toNat_eq;simp [IntKind.bits]
 have h3:(BitVec.ofNat IntKind.u8.bits a.toNat ^^^ BitVec.ofNat IntKind.u8.bits b.toNat).toNat=(a ^^^ b).toNat:=by
  rw [BitVec.toNat_xor,BitVec.toNat_xor,e1,e2];rfl
 rw [h3]
 have:=(a ^^^ b).isLt
 omega
theorem Akz (n:Nat) (h:n < 18446744073709551616):V.int .u64 (n:Int)=W (BitVec.ofNat 64 n):=by
 simp only [W,BitVec.toNat_ofNat];rw [Nat.mod_eq_of_lt Aa]
theorem Ajz (n:Nat) (h:n < 256):V.int .u8 (n:Int)=B (BitVec.ofNat 8 n):=by
 simp only [B,BitVec.toNat_ofNat];rw [Nat.mod_eq_of_lt Aa]
theorem W_0:V.int .u64 0=W 0:=rfl
theorem B_0:V.int .u8 0=B 0:=rfl
theorem GQ {M:Seat} {f:Nat} {us us0:List V} {H:Hp} {n:Nat} {K:V→Hp→Prop} {v:V} (z:List Nat) (hr:Af M f us0 [] 0 (Q3 v [] 0)) (hus:AV H [] z us0 us) (hv:v.ren (Bc [] n 0)=v) (hK:K v (A4 H z)):AS M f us H n K:=by
 refine B3 hr False [] z List.nodup_nil Bu rfl Bu hus trivial ?_
 rintro v' H' k' ⟨rfl,rfl,rfl⟩
 refine ⟨⟨by omega,fun h=>h.elim⟩,?_⟩
 rw [hv]
 simpa [AQ] using hK
def rc:List (BitVec 64):=rounds.map (BitVec.ofInt 64)
theorem Ac7:∀ j,j < 24→((rc.getD j 0).toNat:Int)=rounds.getD j 0:=Ak
theorem ZG:US 1 = .ar 1 24 (ws rc):=by
 have:(fun i=>V.int .u64 (rounds.getD i 0))=ws rc:=by
  funext j
  by_cases hj:j < 24
  ·simp only [ws,W,Ac7 j hj]
  ·have h1:rounds.getD j 0=0:=by rw [List.getD_eq_getElem?_getD,List.getElem?_eq_none (by simp [rounds];omega)];rfl
   have h2:rc.getD j 0=0:=by rw [List.getD_eq_getElem?_getD,List.getElem?_eq_none (by simp [rc,rounds];omega)];rfl
   simp only [ws,W,h1,h2]
   rfl
 simp only [US,this]
theorem Z6:US 2 = .ar 1 24 (fun i=>.int .i64 (lanes.getD i 0)):=rfl
theorem Zz:US 3 = .ar 1 24 (fun i=>.int .i64 (turns.getD i 0)):=rfl
theorem W6:∀ p,p < 24→0≤turns.getD p 0∧turns.getD p 0 < 64:=Ak
theorem XU:∀ p,p < 24→0≤lanes.getD p 0∧lanes.getD p 0 < 25:=Ak
structure Dg where
 l:List (BitVec 8)
 h:l.length=32
deriving DecidableEq
def Dg.at (d:Dg) (j:Nat):BitVec 8:=d.l.getD j 0
def Dg.mk' (f:Nat→BitVec 8):Dg:=⟨(List.range 32).map f,by simp⟩
theorem Dg.at_mk' (f:Nat→BitVec 8) (j:Nat) (hj:j < 32):(Dg.mk' f).at j=f j:=by
 simp [Dg.at,Dg.mk',List.getD,List.getElem?_map,List.getElem?_range hj]
theorem Dg.ext' {a b:Dg} (h:∀ j,j < 32→a.at j=b.at j):a=b:=by
 obtain ⟨l,hl⟩:=a
 obtain ⟨m,hm⟩:=b
 have:l=m:=by
  apply List.ext_getElem Aa
  intro i h1 h2
  have:=h i Aa
  simpa [Dg.at,List.getD,h1,h2] using this
 subst this;rfl
def Dg.zero:Dg:=Dg.mk' fun _=>0
theorem Dg.at_zero (j:Nat):Dg.zero.at j=0:=by
 by_cases hj:j < 32
 ·rw [Dg.zero,Dg.at_mk' _ _ hj]
 ·simp only [Dg.at,Dg.zero,Dg.mk',List.getD]
  rw [List.getElem?_eq_none Cd];rfl
instance:Inhabited Dg:=⟨Dg.zero⟩
def dg (d:Dg):V:=.ar 1 32 (fun j=>B (d.at j))
def Gc (s:List Dg):Nat→V:=fun j=>dg (s.getD j Dg.zero)
theorem DG (d:Dg):(dg d).solid=true:=rfl
theorem Jz (d:Dg):(dg d).size=32:=rfl
theorem NK (d:Dg):(dg d).isAgg=true:=rfl
theorem Xy (m:List Nat) (d:Dg):(dg d).ren m=dg d:=rfl
theorem Iv (s:List Dg) (j:Nat):Gc s j=dg (s.getD j Dg.zero):=rfl
theorem Abh (m:List Nat) (s:List Dg) (j:Nat):(Gc s j).ren m=Gc s j:=rfl
theorem S4 (H:Hp) (m z:List Nat) (a:Dg) (u:V):Bd H m z (dg a) u=Aw H m z (dg a) u:=rfl
theorem AJ (H:Hp) (m z:List Nat) (a b:Dg):Aw H m z (dg a) (dg b) ↔ b=a:=by
 simp only [Aw,dg,Gv,true_and]
 constructor
 ·intro h;exact Dg.ext' (fun j hj=>h j hj)
 ·rintro rfl _ _;rfl
theorem Rc {p:Prop} [Decidable p] (a b:Dg):(if p then dg a else dg b)=dg (if p then a else b):=by split <;> rfl
theorem eqB (a b:BitVec 8):decide ((a.toNat:Int)=(b.toNat:Int))=decide (a=b):=by
 rw [decide_eq_decide]
 constructor
 ·intro h;exact BitVec.eq_of_toNat_eq Aa
 ·rintro rfl;rfl
theorem Gb (c:Bool) (a b:Dg):AH c (.ar 32 1 false .int) (dg a) (dg b):=by
 simp only [AH,dg,true_and]
 intro i _
 refine ⟨rfl,rfl,?_⟩
 simp only [B]
theorem Hu (a b:Dg):AN (.ar 32 1 false .int) (dg a) (dg b)=decide (a=b):=by
 have h1:AN (.ar 32 1 false .int) (dg a) (dg b)=(List.range 32).all (fun i=>decide (a.at i=b.at i)):=by
  simp only [AN,dg,B,eqB]
 rw [h1,Bool.eq_iff_iff,List.all_eq_true]
 simp only [decide_eq_true_eq,List.mem_range]
 constructor
 ·exact fun h=>Dg.ext' h
 ·rintro rfl _ _;rfl
def YL (x:BitVec 64) (p:Nat→BitVec 8) (j:Nat):Nat→BitVec 64
 | 0=>x
 | k + 1=>YL x p j k ^^^ ((p (8 * j + k)).setWidth 64 <<< (8 * k))
def Oc (s:List (BitVec 64)) (p:Nat→BitVec 8) (i k j:Nat):BitVec 64 :=
 if j < i then YL (s.getD j 0) p j 8 else if j=i then YL (s.getD j 0) p j k else s.getD j 0
def mix (s:List (BitVec 64)) (p:Nat→BitVec 8):List (BitVec 64):=(List.range 25).map (Oc s p 17 0)
theorem Rl (s:List (BitVec 64)) (p:Nat→BitVec 8) (j:Nat) (hj:j < 25):(mix s p).getD j 0=Oc s p 17 0 j:=by
 simp [mix,List.getD,List.getElem?_map,List.getElem?_range hj]
theorem Adg (s:List (BitVec 64)) (p:Nat→BitVec 8) (j:Nat):Oc s p 0 0 j=s.getD j 0:=by
 simp only [Oc,YL]
 split
 ·omega
 ·split <;> rfl
theorem Adn (s:List (BitVec 64)) (p:Nat→BitVec 8) (i k j:Nat):(if j=i then Oc s p i k i ^^^ ((p (8 * i + k)).setWidth 64 <<< (8 * k)) else Oc s p i k j)=Oc s p i (k + 1) j:=by
 by_cases h:j=i
 ·subst h
  simp [Oc,YL]
 ·simp only [Oc,if_neg h]
theorem Adm (s:List (BitVec 64)) (p:Nat→BitVec 8) (i j:Nat):Oc s p i 8 j=Oc s p (i + 1) 0 j:=by
 simp only [Oc,YL]
 by_cases h:j < i
 ·rw [if_pos h,if_pos Aa]
 ·rw [if_neg h]
  by_cases h2:j=i
  ·rw [if_pos h2,if_pos Aa]
  ·rw [if_neg h2,if_neg Aa]
   split <;> rfl
def Qf (s:List (BitVec 64)):Dg:=Dg.mk' fun i=>(s.getD (i / 8) 0 >>> (8 * (i % 8))).setWidth 8
def UR (a b:Dg) (j:Nat):BitVec 8:=if j < 32 then a.at j else if j < 64 then b.at (j - 32) else if j=64 then 1 else if j=135 then 128 else 0
theorem Yf:V.ar 1 32 (fun _=>V.int .u8 0)=dg Dg.zero:=by
 have h:(fun _=>V.int .u8 0)=fun j=>B (Dg.zero.at j):=by
  funext j;rw [Dg.at_zero];rfl
 simp only [dg,h]
theorem exZ (M:Seat) (x:Ctx) (Q:List V→Hp→Nat→Prop) (k:List It) (N:Nat) (A:List V) (H:Hp):ex M x Q 0 k N A H=Bl M x Q k N A H:=by cases k <;> rfl
theorem exN (M:Seat) (x:Ctx) (Q:List V→Hp→Nat→Prop) (n:Nat) (N:Nat) (A:List V) (H:Hp):ex M x Q (n + 1) [] N A H=Q A H N:=rfl
theorem X0 (M:Seat) (x:Ctx) (Q:List V→Hp→Nat→Prop) (n:Nat) (k:List It) (N:Nat) (A:List V) (H:Hp):ex M x Q (n + 1) (.code .skip :: k) N A H=ex M x Q n k N A H:=rfl
theorem Adq (M:Seat) (x:Ctx) (Q:List V→Hp→Nat→Prop) (n:Nat) (ops:List LOp) (k:List It) (N:Nat) (A:List V) (H:Hp):ex M x Q (n + 1) (.code (.reg ops) :: k) N A H=Ro M (ex M x Q n k (N + 16 * ops.length)) ops N A H:=rfl
theorem V1 (M:Seat) (x:Ctx) (Q:List V→Hp→Nat→Prop) (n:Nat) (L:List DOp) (k:List It) (N:Nat) (A:List V) (H:Hp):ex M x Q (n + 1) (.code (.regd L) :: k) N A H=AC M (ex M x Q n k (N + 32 * L.length)) L.length N (G3 L 0) L 0 A H [(0,H)] []:=rfl
theorem Ac8 (M:Seat) (x:Ctx) (Q:List V→Hp→Nat→Prop) (n:Nat) (c d:LC) (k:List It) (N:Nat) (A:List V) (H:Hp):ex M x Q (n + 1) (.code (.seq c d) :: k) N A H=ex M x Q n (.code c :: .code d :: k) N A H:=rfl
theorem Tk (M:Seat) (x:Ctx) (Q:List V→Hp→Nat→Prop) (n:Nat) (id:Nat) (c:LC) (k:List It) (N:Nat) (A:List V) (H:Hp):ex M x Q (n + 1) (.code (.block id c) :: k) N A H=ex M x Q n (.code c :: .blk id :: k) N A H:=rfl
theorem Wr (M:Seat) (x:Ctx) (Q:List V→Hp→Nat→Prop) (n:Nat) (c:LC) (k:List It) (N:Nat) (A:List V) (H:Hp):ex M x Q (n + 1) (.code (.loop c) :: k) N A H=Gz M x Q c k A H N:=rfl
theorem Vv (M:Seat) (x:Ctx) (Q:List V→Hp→Nat→Prop) (n:Nat) (id:Nat) (k:List It) (N:Nat) (A:List V) (H:Hp):ex M x Q (n + 1) (.code (.exit id) :: k) N A H=(match BX id k with | some k'=>ex M x Q n k' N A H | none=>False):=rfl
theorem Adh (M:Seat) (x:Ctx) (Q:List V→Hp→Nat→Prop) (n:Nat) (k:List It) (N:Nat) (A:List V) (H:Hp):ex M x Q (n + 1) (.code .ret :: k) N A H=Q A H N:=rfl
theorem Adb (M:Seat) (x:Ctx) (Q:List V→Hp→Nat→Prop) (n:Nat) (i:Nat) (k:List It) (N:Nat) (A:List V) (H:Hp):ex M x Q (n + 1) (.blk i :: k) N A H=ex M x Q n k N A H:=rfl
theorem Ads (M:Seat) (x:Ctx) (Q:List V→Hp→Nat→Prop) (n:Nat) (J:List V→Hp→Nat→Prop) (k:List It) (N:Nat) (A:List V) (H:Hp):ex M x Q (n + 1) (.inv J :: k) N A H=J A H N:=rfl
open Classical in
theorem Adv (M:Seat) (x:Ctx) (Q:List V→Hp→Nat→Prop) (n:Nat) (y:X) (c d:LC) (k:List It) (N:Nat) (A:List V) (H:Hp):ex M x Q (n + 1) (.code (.cond y c d) :: k) N A H=(if y.ev A = .bool true then ex M x Q n (.code c :: k) N A H else if y.ev A = .bool false then ex M x Q n (.code d :: k) N A H else False):=by
 have h:ex M x Q (n + 1) (.code (.cond y c d) :: k) N A H=(match y.ev A with
  | .bool t=>(t=true→ex M x Q n (.code c :: k) N A H)∧(t=false→ex M x Q n (.code d :: k) N A H)
  | _=>False):=rfl
 rw [h]
 cases hy:y.ev A <;> simp
 rename_i t
 cases t <;> simp
def Mg (v:V) (b:Bool):Prop:=match v with
 | .bool b'=>b' = !b
 | .tup _=>True
 | _=>False
theorem Rm (b b':Bool):Mg (.bool b') b=(b' = !b):=rfl
theorem U5 (v:V) (b:Bool):Mg (.tup v) b=True:=rfl
theorem RoN (M:Seat) (K:List V→Hp→Prop) (n:Nat) (A:List V) (H:Hp):Ro M K [] n A H=K A H:=rfl
theorem RoO (M:Seat) (K:List V→Hp→Prop) (d:Option Nat) (o:LO) (r:List LOp) (n:Nat) (A:List V) (H:Hp):Ro M K (⟨d,.lo o,none⟩ :: r) n A H=((Ad A H n o).pre∧Ro M K r (n + 16) (put A d (Ad A H n o).v) (Ad A H n o).H):=rfl
theorem RoC (M:Seat) (K:List V→Hp→Prop) (d:Option Nat) (f:Nat) (xs:List X) (r:List LOp) (n:Nat) (A:List V) (H:Hp):Ro M K (⟨d,.call f xs,none⟩ :: r) n A H=AS M f (xs.map (X.ev A)) H n (fun v H'=>Ro M K r (n + 16) (put A d v) H'):=rfl
theorem RoY (M:Seat) (K:List V→Hp→Prop) (d:Option Nat) (u:X) (xs:List X) (r:List LOp) (n:Nat) (A:List V) (H:Hp):Ro M K (⟨d,.dyn u xs,none⟩ :: r) n A H=EX M (u.ev A) (xs.map (X.ev A)) H n (fun v H'=>Ro M K r (n + 16) (put A d v) H'):=rfl
open Classical in
theorem RoG (M:Seat) (K:List V→Hp→Prop) (d:Option Nat) (k:LK) (t:Nat) (b:Bool) (r:List LOp) (n:Nat) (A:List V) (H:Hp):Ro M K (⟨d,k,some (t,b)⟩ :: r) n A H =
 (if A.getD t .junk = .bool b then Ro M K (⟨d,k,none⟩ :: r) n A H else if Mg (A.getD t .junk) b then Ro M K r (n + 16) (put A d (.tup .fnil)) H else False):=by
 have h:Ro M K (⟨d,k,some (t,b)⟩ :: r) n A H=(match A.getD t .junk with
  | .bool b'=>(b'=b→Ro M K (⟨d,k,none⟩ :: r) n A H)∧(b' = !b→Ro M K r (n + 16) (put A d (.tup .fnil)) H)
  | .tup _=>Ro M K r (n + 16) (put A d (.tup .fnil)) H
  | _=>False):=rfl
 rw [h]
 cases hy:A.getD t .junk <;> simp [Mg]
 rename_i b'
 cases b' <;> cases b <;> simp
theorem Amj (M:Seat) (K:List V→Hp→Prop) (m N wm p:Nat) (A:List V) (H:Hp) (bd:List (Nat × Hp)) (al:List (Nat × Nat × V)):AC M K m N wm [] p A H bd al=K A H:=rfl
theorem Amy (M:Seat) (K:List V→Hp→Prop) (m N wm ix bf:Nat) (d:Option Nat) (k:LK) (r:List DOp) (p:Nat) (A:List V) (H:Hp) (bd:List (Nat × Hp)) (al:List (Nat × Nat × V)):AC M K m N wm (⟨ix,bf,⟨d,k,none⟩⟩ :: r) p A H bd al =
 A5 M A H (bs N m p k) k (fun v H'=>(TZ A (bs N m p k) k v wm bf al bd∧(bif k.isW then Dq (N + 16 * p) (N + 16 * m) H' else True)) ∧
  AC M K m N wm r (p + 1) (put A d v) H' (bif k.isW then (p + 1,H') :: bd else bd) (bif k.isA then (p,bs N m p k,hget H' (bs N m p k)) :: al else al)):=rfl
open Classical in
theorem Anj (M:Seat) (K:List V→Hp→Prop) (m N wm ix bf:Nat) (d:Option Nat) (k:LK) (t:Nat) (b:Bool) (r:List DOp) (p:Nat) (A:List V) (H:Hp) (bd:List (Nat × Hp)) (al:List (Nat × Nat × V)):AC M K m N wm (⟨ix,bf,⟨d,k,some (t,b)⟩⟩ :: r) p A H bd al =
 (if A.getD t .junk = .bool b then AC M K m N wm (⟨ix,bf,⟨d,k,none⟩⟩ :: r) p A H bd al else if Mg (A.getD t .junk) b then AC M K m N wm r (p + 1) (put A d (.tup .fnil)) H (bif k.isW then (p + 1,H) :: bd else bd) al else False):=by
 have h:AC M K m N wm (⟨ix,bf,⟨d,k,some (t,b)⟩⟩ :: r) p A H bd al=(match A.getD t .junk with
  | .bool b'=>(b'=b→AC M K m N wm (⟨ix,bf,⟨d,k,none⟩⟩ :: r) p A H bd al)∧(b' = !b→AC M K m N wm r (p + 1) (put A d (.tup .fnil)) H (bif k.isW then (p + 1,H) :: bd else bd) al)
  | .tup _=>AC M K m N wm r (p + 1) (put A d (.tup .fnil)) H (bif k.isW then (p + 1,H) :: bd else bd) al
  | _=>False):=rfl
 rw [h]
 cases hy:A.getD t .junk <;> simp [Mg]
 rename_i b'
 cases b' <;> cases b <;> simp
def LS:=(aq3 (App @S4 @AJ @Iv @Wp @Wd @Ds @Gv @Jf @Iq @Ea @Je @GO @not_false_eq_true) (App @M1 @PF @Mp @Oy @MC @PN @Pc @Ma @Sr @Ok @Ms @PA @Mi) (Apn @Tl @Mh @O8 @Su @SC @OL @true_and @and_true @and_self @V.int.injEq @V.sl.injEq @V.ptr.injEq @V.bool.injEq @Bool.true_or))
def Lz:=(aq9 @BEq.rfl.{0} @LS @La4 @CD @hget.eq_1 @hget.eq_2 @Ae.eq_1 @Ae.eq_2 @ne_eq.{1})
def LT:=(aq5 (App @S4 @AJ @Iv @Wp @Wd @Ds @Gv @Jf @Iq @Ea @Je @GO @not_false_eq_true) (Apn @M1 @PF @Mp @Oy @MC @PN @Pc @Ma @Sr @Ok @Ms @PA @Mi @Tl) (Apn @Mh @O8 @Su @SC @OL @true_and @and_true @and_self @V.int.injEq @V.sl.injEq @V.ptr.injEq @V.bool.injEq @Bool.true_or @Ib) (Apn @Hm @DG @Ex @DK @En @DH @Ez @Es @DI @FD @Ep @DN @Er @DF) (Apn @FL @DA @Em @FI @FB @Bool.and_true @Bool.true_and @Bool.and_self @Nat.zero_add @Nat.le_refl @Bool.or_true @Bool.or_false @Bool.false_or @Int.natCast_zero))
def La6:=(Apl @LT @La0 @La4 @List.contains_cons.{0} @List.contains_nil.{0} @implies_true.{0} @implies_true.{1} @DS.eq_1 @DS.eq_2 @Ek.eq_1 @Ek.eq_2)
def A7:=(aq5 (Apk @BEq.rfl.{0} @Int.cast_ofNat_Int @LT @List.contains_cons.{0} @List.contains_nil.{0} @List.getElem?_cons_succ.{0} @List.getElem?_cons_zero.{0} @List.getElem?_nil.{0} @Option.some.injEq.{0} @Aw.eq_1 @Aw.eq_2 @Aw.eq_3 @Aw.eq_4 @Aw.eq_5 @Aw.eq_6) (Apk @Aw.eq_7 @Aw.eq_8 @Aw.eq_9 @Aw.eq_10 @Aw.eq_11 @Aw.eq_12 @Aw.eq_13 @Aw.eq_14 @Aw.eq_15 @Aw.eq_16 @Aw.eq_17 @Aw.eq_18 @Aw.eq_19 @Aw.eq_20 @Aw.eq_21) (Apm @Aw.eq_22 @Aw.eq_23 @Aw.eq_24 @Aw.eq_25 @Aw.eq_26 @Aw.eq_27 @Aw.eq_28 @Aw.eq_29 @Aw.eq_30 @Aw.eq_31 @Aw.eq_32 @Aw.eq_33 @Aw.eq_34 @Aw.eq_35 @Aw.eq_36 @Aw.eq_37) (Apk @AV.eq_1 @AV.eq_2 @AV.eq_3 @Bk.eq_1 @Bk.eq_2 @Lj.eq_1 @Lj.eq_2 @V.fget.eq_1 @V.fget.eq_2 @V.fhas.eq_1 @V.fhas.eq_2 @V.get.eq_1 @V.get.eq_2 @V.get.eq_3 @V.get.eq_4) (Apm @V.get.eq_5 @V.ok.eq_1 @V.ok.eq_2 @V.ok.eq_3 @V.ok.eq_4 @V.ok.eq_5 @Ux.eq_1 @hget.eq_1 @hget.eq_2 @Ae.eq_1 @Ae.eq_2 @if_false.{1} @if_true.{1} @implies_true.{0} @implies_true.{1} @ne_eq.{1}))
def LR:=(aq9 (Apk @Iu @JJ @J6 @Ii @Ie @E5 @Fv @EU @EZ @FJ @FO @FG @Tt @Od @Hh) (Apm @Ea @Je @GO @BH @not_false_eq_true @Te @RU @Sl @Tj @SP @Sd @Sy @Tu @S3 @SF @Sx) (Apm @SI @RZ @Y6 @Ahb @WW @S5 @GY @Hb @GW @J0 @Int.le_refl @JZ @Ki @Rc @DG @Jz) (Apm @NK @Iv @Gb @Hu @Int.toNat_natCast @true_or @or_true @Nat.add_zero @ZG @Z6 @Zz @Nat.zero_or @Nat.or_zero @Nat.and_zero @Nat.zero_and @Nat.zero_shiftRight) (Apm @Int.toNat_zero @Jf @Iq @Ib @NY @SX @Hm @N3 @Tf @Ex @DK @En @DH @Ez @Es @DI) (Apm @FD @Ep @DN @Er @DF @FL @DA @Em @FI @FB @HK @Gi @H5 @Xa0 @Hk @Hq) (Apm @FV @JN @HC @FX @Hy @Gk @J9 @FY @HQ @J2 @J4 @JA @HT @J5 @HV @JP) (Apm @JD @HI @ME @JK @H8 @J7 @HF @Nn @Ic @J8 @MS @MR @Bool.true_or @Bool.or_true @Bool.false_or @Bool.or_false) (Apm @Bool.and_true @Bool.true_and @Bool.false_and @Bool.and_false @true_and @and_true @Bool.false_eq_true @Bool.true_eq_false @false_implies @true_implies @decide_true @decide_false @Ns @Kw @Bool.not_true @Bool.not_false))
def Fe:=(aq2 @LR @La0)
def LU:=(Apq (Apk @Iu @JJ @J6 @Ii @Ie @E5 @Fv @EU @EZ @FJ @FO @FG @Tt @Od @Hh) (Apk @Ea @Je @GO @BH @not_false_eq_true @Te @RU @Sl @Tj @SP @Sd @Sy @Tu @S3 @SF) (Apk @Sx @SI @RZ @Y6 @Ahb @WW @S5 @GY @Hb @GW @J0 @Int.le_refl @JZ @Ki @Rc) (Apk @DG @Jz @NK @Iv @Gb @Hu @Int.toNat_natCast @true_or @or_true @Nat.add_zero @ZG @Z6 @Zz @Nat.zero_or @Nat.or_zero) (Apk @Nat.and_zero @Nat.zero_and @Nat.zero_shiftRight @Int.toNat_zero @Jf @Iq @Ib @NY @SX @Hm @N3 @Tf @Ex @DK @En) (Apk @DH @Ez @Es @DI @FD @Ep @DN @Er @DF @FL @DA @Em @FI @FB @HK) (Apk @Gi @H5 @Xa0 @Hk @Hq @FV @JN @HC @FX @Hy @Gk @J9 @FY @HQ @J2) (Apk @J4 @JA @HT @J5 @HV @JP @JD @HI @ME @JK @H8 @J7 @HF @Nn @Ic) (Apk @J8 @MS @MR @Bool.true_or @Bool.or_true @Bool.false_or @Bool.or_false @Bool.and_true @Bool.true_and @Bool.false_and @Bool.and_false @true_and @and_true @Bool.false_eq_true @Bool.true_eq_false) (Apm @false_implies @true_implies @decide_true @decide_false @Ns @Kw @Bool.not_true @Bool.not_false @Nat.zero_add @Nat.add_one_ne_zero @Int.natCast_zero @Nat.mul_zero @Bool.false_xor @Bool.xor_false @Bool.true_xor @Bool.xor_true))
def CH:=(aq2 @LU @La0)
def Lc:=(aq4 @Tp @CH @HD.eq_1 @HD.eq_2)
def LQ:=(Apl (Apk @Iu @JJ @J6 @Ii @Ie @E5 @Fv @EU @EZ @FJ @FO @FG @Tt @Od @Hh) (Apm @Ea @Je @GO @BH @not_false_eq_true @Te @RU @Sl @Tj @SP @Sd @Sy @Tu @S3 @SF @Sx) (Apm @SI @RZ @Y6 @Ahb @WW @S5 @GY @Hb @GW @J0 @Int.le_refl @JZ @Ki @Rc @DG @Jz) (Apm @NK @Iv @Gb @Hu @Int.toNat_natCast @true_or @or_true @Nat.add_zero @ZG @Z6 @Zz @Nat.zero_or @Nat.or_zero @Nat.and_zero @Nat.zero_and @Nat.zero_shiftRight) (Apm @Int.toNat_zero @Jf @Iq @Ib @NY @SX @Hm @N3 @Tf @Ex @DK @En @DH @Ez @Es @DI) (Apm @FD @Ep @DN @Er @DF @FL @DA @Em @FI @FB @HK @Gi @H5 @Xa0 @Hk @Hq) (Apm @FV @JN @HC @FX @Hy @Gk @J9 @FY @HQ @J2 @J4 @JA @HT @J5 @HV @JP) (Apm @JD @HI @ME @JK @H8 @J7 @HF @Nn @Ic @J8 @MS @MR @Bool.true_or @Bool.or_true @Bool.false_or @Bool.or_false) (Apm @Bool.and_true @Bool.true_and @Bool.false_and @Bool.and_false @true_and @and_true @Bool.false_eq_true @Bool.true_eq_false @false_implies @true_implies @decide_true @decide_false @Ns @Kw @Bool.not_true @Bool.not_false) (Apm @V.bool.injEq @exZ @exN @X0 @Adq @V1 @Ac8 @Tk @Wr @Vv @Adh @Adb @Ads @Adv @Rm @U5) (Apm @RoN @RoO @RoC @RoY @RoG @Amj @Amy @Anj @Nat.zero_add @Nat.add_one_ne_zero @Int.natCast_zero @Nat.mul_zero @Bool.false_xor @Bool.xor_false @Bool.true_xor @Bool.xor_true))
def LN:=(aq7 @Amm @Al7 @Xy @Aip @Abq @Abh @not_false_eq_true)
theorem poP (a b:Prop):(bif true then a else b)=a:=rfl
theorem Ang (a b:Prop):(bif false then a else b)=b:=rfl
theorem poH (a b:List (Nat × Hp)):(bif true then a else b)=a:=rfl
theorem Am3 (a b:List (Nat × Hp)):(bif false then a else b)=b:=rfl
theorem poA (a b:List (Nat × Nat × V)):(bif true then a else b)=a:=rfl
theorem An3 (a b:List (Nat × Nat × V)):(bif false then a else b)=b:=rfl
theorem poB (a b:Bool):(bif true then a else b)=a:=rfl
theorem Am2 (a b:Bool):(bif false then a else b)=b:=rfl
theorem poV (a b:V):(bif true then a else b)=a:=rfl
theorem Ann (a b:V):(bif false then a else b)=b:=rfl
theorem poN (a b:Nat):(a ≠ b) = ¬ (a=b):=rfl
theorem poI (a b:Int):(a ≠ b) = ¬ (a=b):=rfl
theorem Aoc (a:Nat):(a == a)=true:=beq_self_eq_true a
theorem Al2 (a:Bool):(a == a)=true:=beq_self_eq_true a
theorem An6 (a:Bool):(a != a)=false:=by cases a <;> rfl
theorem Any (a b:Nat):(some a=some b)=(a=b):=Bu
theorem Amu (a:Nat) (l:List Nat):(a :: l)[0]?=some a:=rfl
theorem Anw (a:Nat) (l:List Nat) (i:Nat):(a :: l)[i + 1]?=l[i]?:=rfl
theorem Am7 (i:Nat):([]:List Nat)[i]?=none:=rfl
theorem Am5 (a b:Nat) (l:List Nat):(b :: l).contains a=(a == b || l.contains a):=List.contains_cons
theorem An4 (a:Nat):([]:List Nat).contains a=false:=rfl
theorem Aod (f:X→V) (a:X) (l:List X):(a :: l).map f=f a :: l.map f:=rfl
theorem Aob (f:X→V):([]:List X).map f=[]:=rfl
theorem Amx (f:Nat × Nat × V→Nat × V) (a:Nat × Nat × V) (l:List (Nat × Nat × V)):(a :: l).map f=f a :: l.map f:=rfl
theorem Ame (f:Nat × Nat × V→Nat × V):([]:List (Nat × Nat × V)).map f=[]:=rfl
theorem Anv (p:Nat × Nat × V→Bool) (a:Nat × Nat × V) (l:List (Nat × Nat × V)):(a :: l).filter p=if p a=true then a :: l.filter p else l.filter p:=List.filter_cons
theorem An0 (p:Nat × Nat × V→Bool):([]:List (Nat × Nat × V)).filter p=[]:=rfl
theorem Ans (a:LOp) (l:List LOp):(a :: l).length=l.length + 1:=rfl
theorem Alr:([]:List LOp).length=0:=rfl
theorem Anm (a:DOp) (l:List DOp):(a :: l).length=l.length + 1:=rfl
theorem Aj0:([]:List DOp).length=0:=rfl
theorem Anc (a:V) (l:List V):(a :: l).length=l.length + 1:=rfl
theorem Akv:([]:List V).length=0:=rfl
theorem An9 (a:X) (l:List X):(a :: l).length=l.length + 1:=rfl
theorem Ajb:([]:List X).length=0:=rfl
theorem Am4 (a:Nat × V) (l m:List (Nat × V)):a :: l ++ m=a :: (l ++ m):=rfl
theorem Akn (m:List (Nat × V)):[] ++ m=m:=rfl
theorem Aoa (a:V) (l m:List V):a :: l ++ m=a :: (l ++ m):=rfl
theorem Akq (m:List V):[] ++ m=m:=rfl
theorem Am9 (l:List (Nat × V)):l ++ []=l:=List.append_nil l
theorem poZ (n:Nat):((OfNat.ofNat n:Nat):Int)=OfNat.ofNat n:=rfl
def LP:=(aq3 (App @poP @Ang @poH @Am3 @poA @An3 @poB @Am2 @poV @Ann @poN @poI @Aoc) (Apn @Al2 @An6 @Any @Amu @Anw @Am7 @Am5 @An4 @Aod @Aob @Amx @Ame @Anv @An0) (Apn @Ans @Alr @Anm @Aj0 @Anc @Akv @An9 @Ajb @Am4 @Akn @Aoa @Akq @Am9 @poZ))
end Mv
