/- A part. -/
import Derived.Test.YtfljfijnobocoaaDoorCW
set_option linter.all false
set_option maxRecDepth 10000
namespace Mv
open Go
def Ca (k:IntKind) (v:V) (H:Hp):Out:=match v with
 | .int _ a=>⟨True,.int k (k.wrap a),H⟩
 | _=>BG H
theorem Ad (A:List V) (H:Hp) (n:Nat) (k:IntKind) (x:X):Ae A H n (.conv k x)=Ca k (x.ev A) H:=rfl
theorem K0 (k k':IntKind) (a:Int) (H:Hp):Ca k (.int k' a) H=⟨True,.int k (k.wrap a),H⟩:=rfl
theorem Ms (b:BitVec 8) (H:Hp):Ca .u64 (B b) H=⟨True,W (b.setWidth 64),H⟩:=by
 have h:=b.isLt
 simp only [Ca,B,W,Dx,BitVec.toNat_setWidth]
 congr 2
theorem Mj (w:BitVec 64) (H:Hp):Ca .u8 (W w) H=⟨True,B (w.setWidth 8),H⟩:=by
 simp only [Ca,B,W,JX,BitVec.toNat_setWidth]
 congr 2
theorem Ir (w:BitVec 64) (H:Hp):Ca .i64 (W w) H=⟨True,.int .i64 (IntKind.i64.wrap (w.toNat:Int)),H⟩:=rfl
theorem Jg (w:BitVec 8) (H:Hp):Ca .i64 (B w) H=⟨True,.int .i64 (w.toNat:Int),H⟩:=by
 have h:=w.isLt
 simp only [Ca,B]
 rw [AY Aa]
theorem GC (a:BitVec 64) (k:IntKind) (b:Int) (H:Hp):AP .shl (W a) (.int k b) H=⟨0≤b,W (a <<< b.toNat),H⟩:=by
 simp only [AP,W,Dx,BitVec.toNat_shiftLeft,Nat.shiftLeft_eq,IntKind.bits]
 congr 2
 by_cases hb:b.toNat≤64
 ·rw [Nat.min_eq_left hb]
  rw [Int.natCast_emod,Int.natCast_mul,Int.natCast_pow]
  rfl
 ·rw [Nat.min_eq_right Aa]
  have e1:a.toNat * 2 ^ b.toNat % 2 ^ 64=0:=by
   have:b.toNat=64 + (b.toNat - 64):=Aa
   rw [this,Nat.pow_add,← Nat.mul_assoc,Nat.mul_right_comm]
   exact Nat.mul_mod_left _ _
  rw [e1]
  have e2:(2:Int) ^ 64=18446744073709551616:=Am
  rw [e2];omega
theorem GK (a:BitVec 64) (k:IntKind) (b:Int) (H:Hp):AP .shr (W a) (.int k b) H=⟨0≤b,W (a >>> b.toNat),H⟩:=by
 have ha:=a.isLt
 simp only [AP,W,Lb4,IntKind.bits]
 congr 2
 rw [Int.fdiv_eq_ediv_of_nonneg _ (Int.pow_nonneg Aa),Int.natCast_ediv,Int.natCast_pow]
 by_cases hb:b.toNat≤64
 ·rw [Nat.min_eq_left hb];rfl
 ·rw [Nat.min_eq_right Aa]
  have h1:(a.toNat:Int) / 2 ^ 64=0:=Int.ediv_eq_zero_of_lt Aa Aa
  have h2:a.toNat / 2 ^ b.toNat=0:=Nat.div_eq_of_lt (Nat.lt_of_lt_of_le ha (Nat.pow_le_pow_right Aa Aa))
  have h3:(a.toNat:Int) / ((2:Nat):Int) ^ b.toNat=0:=by
   rw [← Int.natCast_pow,← Int.natCast_ediv,h2];rfl
  rw [h1];exact h3.symm
theorem eqW (a b:BitVec 64):decide ((a.toNat:Int)=(b.toNat:Int))=decide (a=b):=by
 rw [decide_eq_decide]
 constructor
 ·intro h;exact BitVec.eq_of_toNat_eq Aa
 ·rintro rfl;rfl
theorem FF (a b:BitVec 64) (H:Hp):AP .eql (W a) (W b) H=⟨True,.bool (decide (a=b)),H⟩:=by
 simp only [AP,W,eqW]
theorem FL (a b:BitVec 64) (H:Hp):AP .neq (W a) (W b) H=⟨True,.bool (!decide (a=b)),H⟩:=by
 simp only [AP,W,eqW]
theorem Hu (a:BitVec 64) (c:Int) (H:Hp):AP .eql (W a) (.int .u64 c) H=⟨True,.bool (decide ((a.toNat:Int)=c)),H⟩:=by
 simp only [AP,W]
theorem H3 (a:BitVec 64) (c:Int) (H:Hp):AP .geq (W a) (.int .u64 c) H=⟨True,.bool (decide (c≤(a.toNat:Int))),H⟩:=by
 simp only [AP,W]
theorem H9 (a:BitVec 64) (c:Int) (H:Hp):AP .rem (W a) (.int .u64 c) H=⟨c ≠ 0,.int .u64 ((a.toNat:Int).tmod c),H⟩:=by
 simp only [AP,W,true_and]
theorem V5 (a b:BitVec 8) (H:Hp):AP .xor (B a) (B b) H=⟨True,B (a ^^^ b),H⟩:=by
 simp only [AP,B,JX]
 congr 2
 rw [BN,BN]
 have e1:BitVec.ofNat IntKind.u8.bits a.toNat=a:=by apply BitVec.eq_of_toNat_eq;simp [IntKind.bits]
 have e2:BitVec.ofNat IntKind.u8.bits b.toNat=b:=by apply BitVec.eq_of_toNat_eq;simp [IntKind.bits]
 have h3:(BitVec.ofNat IntKind.u8.bits a.toNat ^^^ BitVec.ofNat IntKind.u8.bits b.toNat).toNat=(a ^^^ b).toNat:=by
  rw [BitVec.toNat_xor,BitVec.toNat_xor,e1,e2];rfl
 rw [h3]
 have:=(a ^^^ b).isLt
 omega
theorem Aex (n:Nat) (h:n < 18446744073709551616):V.int .u64 (n:Int)=W (BitVec.ofNat 64 n):=by
 simp only [W,BitVec.toNat_ofNat];rw [Nat.mod_eq_of_lt Aa]
theorem Ahs (n:Nat) (h:n < 256):V.int .u8 (n:Int)=B (BitVec.ofNat 8 n):=by
 simp only [B,BitVec.toNat_ofNat];rw [Nat.mod_eq_of_lt Aa]
theorem JL {M:Seat} {f:Nat} {us us0:List V} {H:Hp} {n:Nat} {K:V→Hp→Prop} {v:V} (z:List Nat) (hr:Ag M f us0 [] 0 (Q3 v [] 0)) (hus:Bd H [] z us0 us) (hv:v.ren (Bh [] n 0)=v) (hK:K v (A6 H z)):AR M f us H n K:=by
 refine BE hr False [] z List.nodup_nil B5 rfl B5 hus trivial ?_
 rintro v' H' k' ⟨rfl,rfl,rfl⟩
 refine ⟨⟨by omega,fun h=>h.elim⟩,?_⟩
 rw [hv]
 simpa [AV] using hK
def rc:List (BitVec 64):=rounds.map (BitVec.ofInt 64)
theorem Aiw:∀ j,j < 24→((rc.getD j 0).toNat:Int)=rounds.getD j 0:=Am
theorem Ac8:Sa 1 = .ar 1 24 (ws rc):=by
 have:(fun i=>V.int .u64 (rounds.getD i 0))=ws rc:=by
  funext j
  by_cases hj:j < 24
  ·simp only [ws,W,Aiw j hj]
  ·have h1:rounds.getD j 0=0:=by rw [List.getD_eq_getElem?_getD,List.getElem?_eq_none (by simp [rounds];omega)];rfl
   have h2:rc.getD j 0=0:=by rw [List.getD_eq_getElem?_getD,List.getElem?_eq_none (by simp [rc,rounds];omega)];rfl
   simp only [ws,W,h1,h2]
   rfl
 simp only [Sa,this]
theorem Aa3:Sa 2 = .ar 1 24 (fun i=>.int .i64 (lanes.getD i 0)):=rfl
theorem Adm:Sa 3 = .ar 1 24 (fun i=>.int .i64 (turns.getD i 0)):=rfl
theorem UY:∀ p,p < 24→0≤turns.getD p 0∧turns.getD p 0 < 64:=Am
theorem TU:∀ p,p < 24→0≤lanes.getD p 0∧lanes.getD p 0 < 25:=Am
structure Dg where
 l:List (BitVec 8)
 h:l.length=32
deriving DecidableEq
def Dg.at (d:Dg) (j:Nat):BitVec 8:=d.l.getD j 0
def Dg.mk' (f:Nat→BitVec 8):Dg:=⟨(List.range 32).map f,by simp⟩
theorem Dg.at_mk' (f:Nat→BitVec 8) (j:Nat) (hj:j < 32):(Dg.mk' f).at j=f j:=by
 simp [Dg.at,Dg.mk',List.getD,List.getElem?_map,List.getElem?_range hj]
theorem Dg.ext' {a b:Dg} (h:∀ j,j < 32→a.at j=b.at j):a=b:=by
 obtain ⟨l,hl⟩:=a
 obtain ⟨m,hm⟩:=b
 have:l=m:=by
  apply List.ext_getElem Aa
  intro i h1 h2
  have:=h i Aa
  simpa [Dg.at,List.getD,h1,h2] using this
 subst this;rfl
def Dg.zero:Dg:=Dg.mk' fun _=>0
theorem Dg.at_zero (j:Nat):Dg.zero.at j=0:=by
 by_cases hj:j < 32
 ·rw [Dg.zero,Dg.at_mk' _ _ hj]
 ·simp only [Dg.at,Dg.zero,Dg.mk',List.getD]
  rw [List.getElem?_eq_none DI];rfl
instance:Inhabited Dg:=⟨Dg.zero⟩
def dg (d:Dg):V:=.ar 1 32 (fun j=>B (d.at j))
def Fk (s:List Dg):Nat→V:=fun j=>dg (s.getD j Dg.zero)
theorem DQ (d:Dg):(dg d).solid=true:=rfl
theorem Lg (d:Dg):(dg d).size=32:=rfl
theorem OK (d:Dg):(dg d).isAgg=true:=rfl
theorem Wb (m:List Nat) (d:Dg):(dg d).ren m=dg d:=rfl
theorem IS (s:List Dg) (j:Nat):Fk s j=dg (s.getD j Dg.zero):=rfl
theorem Y3 (m:List Nat) (s:List Dg) (j:Nat):(Fk s j).ren m=Fk s j:=rfl
theorem Rj (H:Hp) (m z:List Nat) (a:Dg) (u:V):Bi H m z (dg a) u=Az H m z (dg a) u:=rfl
theorem AU (H:Hp) (m z:List Nat) (a b:Dg):Az H m z (dg a) (dg b) ↔ b=a:=by
 simp only [Az,dg,QA,true_and]
 constructor
 ·intro h;exact Dg.ext' (fun j hj=>h j hj)
 ·rintro rfl _ _;rfl
theorem Uc {p:Prop} [Decidable p] (a b:Dg):(if p then dg a else dg b)=dg (if p then a else b):=by split <;> rfl
theorem eqB (a b:BitVec 8):decide ((a.toNat:Int)=(b.toNat:Int))=decide (a=b):=by
 rw [decide_eq_decide]
 constructor
 ·intro h;exact BitVec.eq_of_toNat_eq Aa
 ·rintro rfl;rfl
theorem Gk (c:Bool) (a b:Dg):AD c (.ar 32 1 false .int) (dg a) (dg b):=by
 simp only [AD,dg,true_and]
 intro i _
 refine ⟨rfl,rfl,?_⟩
 simp only [B]
theorem Ik (a b:Dg):AK (.ar 32 1 false .int) (dg a) (dg b)=decide (a=b):=by
 have h1:AK (.ar 32 1 false .int) (dg a) (dg b)=(List.range 32).all (fun i=>decide (a.at i=b.at i)):=by
  simp only [AK,dg,B,eqB]
 rw [h1,Bool.eq_iff_iff,List.all_eq_true]
 simp only [decide_eq_true_eq,List.mem_range]
 constructor
 ·exact fun h=>Dg.ext' h
 ·rintro rfl _ _;rfl
def pwx (x:BitVec 64) (p:Nat→BitVec 8) (j:Nat):Nat→BitVec 64
 | 0=>x
 | k + 1=>pwx x p j k ^^^ ((p (8 * j + k)).setWidth 64 <<< (8 * k))
def Qg (s:List (BitVec 64)) (p:Nat→BitVec 8) (i k j:Nat):BitVec 64 :=
 if j < i then pwx (s.getD j 0) p j 8 else if j=i then pwx (s.getD j 0) p j k else s.getD j 0
def mix (s:List (BitVec 64)) (p:Nat→BitVec 8):List (BitVec 64):=(List.range 25).map (Qg s p 17 0)
theorem ZI (s:List (BitVec 64)) (p:Nat→BitVec 8) (j:Nat) (hj:j < 25):(mix s p).getD j 0=Qg s p 17 0 j:=by
 simp [mix,List.getD,List.getElem?_map,List.getElem?_range hj]
theorem Aej (s:List (BitVec 64)) (p:Nat→BitVec 8) (j:Nat):Qg s p 0 0 j=s.getD j 0:=by
 simp only [Qg,pwx]
 split
 ·omega
 ·split <;> rfl
theorem Aim (s:List (BitVec 64)) (p:Nat→BitVec 8) (i k j:Nat):(if j=i then Qg s p i k i ^^^ ((p (8 * i + k)).setWidth 64 <<< (8 * k)) else Qg s p i k j)=Qg s p i (k + 1) j:=by
 by_cases h:j=i
 ·subst h
  simp [Qg,pwx]
 ·simp only [Qg,if_neg h]
theorem Aez (s:List (BitVec 64)) (p:Nat→BitVec 8) (i j:Nat):Qg s p i 8 j=Qg s p (i + 1) 0 j:=by
 simp only [Qg,pwx]
 by_cases h:j < i
 ·rw [if_pos h,if_pos Aa]
 ·rw [if_neg h]
  by_cases h2:j=i
  ·rw [if_pos h2,if_pos Aa]
  ·rw [if_neg h2,if_neg Aa]
   split <;> rfl
def Xg (s:List (BitVec 64)):Dg:=Dg.mk' fun i=>(s.getD (i / 8) 0 >>> (8 * (i % 8))).setWidth 8
def pad (a b:Dg) (j:Nat):BitVec 8:=if j < 32 then a.at j else if j < 64 then b.at (j - 32) else if j=64 then 1 else if j=135 then 128 else 0
theorem Ws:V.ar 1 32 (fun _=>V.int .u8 0)=dg Dg.zero:=by
 have h:(fun _=>V.int .u8 0)=fun j=>B (Dg.zero.at j):=by
  funext j;rw [Dg.at_zero];rfl
 simp only [dg,h]
theorem exZ (M:Seat) (x:Ctx) (Q:List V→Hp→Nat→Prop) (k:List It) (N:Nat) (A:List V) (H:Hp):ex M x Q 0 k N A H=Bm M x Q k N A H:=by cases k <;> rfl
theorem exN (M:Seat) (x:Ctx) (Q:List V→Hp→Nat→Prop) (n:Nat) (N:Nat) (A:List V) (H:Hp):ex M x Q (n + 1) [] N A H=Q A H N:=rfl
theorem ZO (M:Seat) (x:Ctx) (Q:List V→Hp→Nat→Prop) (n:Nat) (k:List It) (N:Nat) (A:List V) (H:Hp):ex M x Q (n + 1) (.code .skip :: k) N A H=ex M x Q n k N A H:=rfl
theorem Ahb (M:Seat) (x:Ctx) (Q:List V→Hp→Nat→Prop) (n:Nat) (ops:List LOp) (k:List It) (N:Nat) (A:List V) (H:Hp):ex M x Q (n + 1) (.code (.reg ops) :: k) N A H=Ro M (ex M x Q n k (N + 16 * ops.length)) ops N A H:=rfl
theorem Aby (M:Seat) (x:Ctx) (Q:List V→Hp→Nat→Prop) (n:Nat) (L:List DOp) (k:List It) (N:Nat) (A:List V) (H:Hp):ex M x Q (n + 1) (.code (.regd L) :: k) N A H=AJ M (ex M x Q n k (N + 32 * L.length)) L.length N (F5 L 0) L 0 A H [(0,H)] []:=rfl
theorem Ahm (M:Seat) (x:Ctx) (Q:List V→Hp→Nat→Prop) (n:Nat) (c d:LC) (k:List It) (N:Nat) (A:List V) (H:Hp):ex M x Q (n + 1) (.code (.seq c d) :: k) N A H=ex M x Q n (.code c :: .code d :: k) N A H:=rfl
theorem XJ (M:Seat) (x:Ctx) (Q:List V→Hp→Nat→Prop) (n:Nat) (id:Nat) (c:LC) (k:List It) (N:Nat) (A:List V) (H:Hp):ex M x Q (n + 1) (.code (.block id c) :: k) N A H=ex M x Q n (.code c :: .blk id :: k) N A H:=rfl
theorem Abg (M:Seat) (x:Ctx) (Q:List V→Hp→Nat→Prop) (n:Nat) (c:LC) (k:List It) (N:Nat) (A:List V) (H:Hp):ex M x Q (n + 1) (.code (.loop c) :: k) N A H=HH M x Q c k A H N:=rfl
theorem Aae (M:Seat) (x:Ctx) (Q:List V→Hp→Nat→Prop) (n:Nat) (id:Nat) (k:List It) (N:Nat) (A:List V) (H:Hp):ex M x Q (n + 1) (.code (.exit id) :: k) N A H=(match BQ id k with | some k'=>ex M x Q n k' N A H | none=>False):=rfl
theorem Afu (M:Seat) (x:Ctx) (Q:List V→Hp→Nat→Prop) (n:Nat) (k:List It) (N:Nat) (A:List V) (H:Hp):ex M x Q (n + 1) (.code .ret :: k) N A H=Q A H N:=rfl
theorem Ahc (M:Seat) (x:Ctx) (Q:List V→Hp→Nat→Prop) (n:Nat) (i:Nat) (k:List It) (N:Nat) (A:List V) (H:Hp):ex M x Q (n + 1) (.blk i :: k) N A H=ex M x Q n k N A H:=rfl
theorem Aib (M:Seat) (x:Ctx) (Q:List V→Hp→Nat→Prop) (n:Nat) (J:List V→Hp→Nat→Prop) (k:List It) (N:Nat) (A:List V) (H:Hp):ex M x Q (n + 1) (.inv J :: k) N A H=J A H N:=rfl
theorem RoN (M:Seat) (K:List V→Hp→Prop) (n:Nat) (A:List V) (H:Hp):Ro M K [] n A H=K A H:=rfl
theorem Ai9 (M:Seat) (K:List V→Hp→Prop) (m N wm p:Nat) (A:List V) (H:Hp) (bd:List (Nat × Hp)) (al:List (Nat × Nat × V)):AJ M K m N wm [] p A H bd al=K A H:=rfl
def LS:=(C4 (Lj @Rj @AU @IS @Vq @US @Rc @QA @Nq @JS @Ed @JE @Hr @not_false_eq_true) (Lj @K6 @Ns @KA @MO @KO @NZ @Nf @KK @QR @NI @KT @NP @Lc) (Er @Qq @La @M7 @Ri @QS @Ob @true_and @and_true @and_self @V.int.injEq @V.sl.injEq @V.ptr.injEq @V.bool.injEq @Bool.true_or))
def Ko:=(SN @BEq.rfl.{0} @LS @La4 @CL @hget.eq_1 @hget.eq_2 @Af.eq_1 @Af.eq_2 @ne_eq.{1})
def LT:=(GM (Lj @Rj @AU @IS @Vq @US @Rc @QA @Nq @JS @Ed @JE @Hr @not_false_eq_true) (Er @K6 @Ns @KA @MO @KO @NZ @Nf @KK @QR @NI @KT @NP @Lc @Qq) (Er @La @M7 @Ri @QS @Ob @true_and @and_true @and_self @V.int.injEq @V.sl.injEq @V.ptr.injEq @V.bool.injEq @Bool.true_or @Ic) (Er @Ii @DQ @Fw @DZ @Fv @E4 @Fl @Ff @Em @G8 @Fr @Ea @Fy @E2) (Er @GB @Eg @Fx @Gt @Gg @Bool.and_true @Bool.true_and @Bool.and_self @Nat.zero_add @Nat.le_refl @Bool.or_true @Bool.or_false @Bool.false_or @Int.natCast_zero))
def La6:=(BT @LT @La0 @La4 @List.contains_cons.{0} @List.contains_nil.{0} @implies_true.{0} @implies_true.{1} @Dz.eq_1 @Dz.eq_2 @DC.eq_1 @DC.eq_2)
def Bo:=(GM (Hq @BEq.rfl.{0} @Int.cast_ofNat_Int @LT @List.contains_cons.{0} @List.contains_nil.{0} @List.getElem?_cons_succ.{0} @List.getElem?_cons_zero.{0} @List.getElem?_nil.{0} @Option.some.injEq.{0} @Az.eq_1 @Az.eq_2 @Az.eq_3 @Az.eq_4 @Az.eq_5 @Az.eq_6 @Az.eq_7) (Hq @Az.eq_8 @Az.eq_9 @Az.eq_10 @Az.eq_11 @Az.eq_12 @Az.eq_13 @Az.eq_14 @Az.eq_15 @Az.eq_16 @Az.eq_17 @Az.eq_18 @Az.eq_19 @Az.eq_20 @Az.eq_21 @Az.eq_22 @Az.eq_23) (Hq @Az.eq_24 @Az.eq_25 @Az.eq_26 @Az.eq_27 @Az.eq_28 @Az.eq_29 @Az.eq_30 @Az.eq_31 @Az.eq_32 @Az.eq_33 @Az.eq_34 @Az.eq_35 @Az.eq_36 @Az.eq_37 @Az.eq_38 @Az.eq_39) (Hq @Az.eq_40 @Bd.eq_1 @Bd.eq_2 @Bd.eq_3 @Br.eq_1 @Br.eq_2 @Kj.eq_1 @Kj.eq_2 @V.fget.eq_1 @V.fget.eq_2 @V.fhas.eq_1 @V.fhas.eq_2 @V.get.eq_1 @V.get.eq_2 @V.get.eq_3 @V.get.eq_4) (Hq @V.get.eq_5 @V.ok.eq_1 @V.ok.eq_2 @V.ok.eq_3 @V.ok.eq_4 @V.ok.eq_5 @Sj.eq_1 @hget.eq_1 @hget.eq_2 @Af.eq_1 @Af.eq_2 @if_false.{1} @if_true.{1} @implies_true.{0} @implies_true.{1} @ne_eq.{1}))
def LR:=(SN (CA @K0 @Ms @Mj @Ir @Jg @GC @GK @FF @FL @Hu @H3 @H9 @V5 @PT @JA) (Hq @Ed @JE @Hr @BL @not_false_eq_true @Wp @V8 @V6 @VW @TT @Wd @Wi @TF @Tr @UP @UI) (Hq @UH @TN @Z4 @Aia @Z5 @Un @Ix @II @Ll @Mn @Int.le_refl @NM @KU @Uc @DQ @Lg) (Hq @OK @IS @Gk @Ik @Int.toNat_natCast @true_or @or_true @Nat.add_zero @Ac8 @Aa3 @Adm @Nat.zero_or @Nat.or_zero @Nat.and_zero @Nat.zero_and @Nat.zero_shiftRight) (Hq @Int.toNat_zero @Nq @JS @Ic @O9 @TO @Ii @OD @Ut @Fw @DZ @Fv @E4 @Fl @Ff @Em) (Hq @G8 @Fr @Ea @Fy @E2 @GB @Eg @Fx @Gt @Gg @JZ @GV @IY @Hh @JR @IJ) (Hq @GW @Lk @Iz @GT @IZ @Hf @Ma @Hi @J1 @M0 @Lo @Lt @JD @L6 @Je @Mi) (Hq @Md @IA @O7 @Ly @I6 @L7 @Iv @OT @Jp @LL @O6 @P3 @Bool.true_or @Bool.or_true @Bool.false_or @Bool.or_false) (Hq @Bool.and_true @Bool.true_and @Bool.false_and @Bool.and_false @true_and @and_true @Bool.false_eq_true @Bool.true_eq_false @false_implies @true_implies @decide_true @decide_false @Q6 @NL @Bool.not_true @Bool.not_false))
def E5:=(Bb @LR @La0)
def LU:=(Ho (CA @K0 @Ms @Mj @Ir @Jg @GC @GK @FF @FL @Hu @H3 @H9 @V5 @PT @JA) (CA @Ed @JE @Hr @BL @not_false_eq_true @Wp @V8 @V6 @VW @TT @Wd @Wi @TF @Tr @UP) (CA @UI @UH @TN @Z4 @Aia @Z5 @Un @Ix @II @Ll @Mn @Int.le_refl @NM @KU @Uc) (CA @DQ @Lg @OK @IS @Gk @Ik @Int.toNat_natCast @true_or @or_true @Nat.add_zero @Ac8 @Aa3 @Adm @Nat.zero_or @Nat.or_zero) (CA @Nat.and_zero @Nat.zero_and @Nat.zero_shiftRight @Int.toNat_zero @Nq @JS @Ic @O9 @TO @Ii @OD @Ut @Fw @DZ @Fv) (CA @E4 @Fl @Ff @Em @G8 @Fr @Ea @Fy @E2 @GB @Eg @Fx @Gt @Gg @JZ) (CA @GV @IY @Hh @JR @IJ @GW @Lk @Iz @GT @IZ @Hf @Ma @Hi @J1 @M0) (CA @Lo @Lt @JD @L6 @Je @Mi @Md @IA @O7 @Ly @I6 @L7 @Iv @OT @Jp) (CA @LL @O6 @P3 @Bool.true_or @Bool.or_true @Bool.false_or @Bool.or_false @Bool.and_true @Bool.true_and @Bool.false_and @Bool.and_false @true_and @and_true @Bool.false_eq_true @Bool.true_eq_false) (Hq @false_implies @true_implies @decide_true @decide_false @Q6 @NL @Bool.not_true @Bool.not_false @Nat.zero_add @Nat.add_one_ne_zero @Int.natCast_zero @Nat.mul_zero @Bool.false_xor @Bool.xor_false @Bool.true_xor @Bool.xor_true))
def Cz:=(Bb @LU @La0)
def SD:=(Ka @Laj @Cz @G5.eq_1 @G5.eq_2)
def LN:=(aq7 @Afo @Ag7 @Wb @Acs @WW @Y3 @not_false_eq_true)
theorem poP (a b:Prop):(bif true then a else b)=a:=rfl
theorem Ai5 (a b:Prop):(bif false then a else b)=b:=rfl
theorem poH (a b:List (Nat × Hp)):(bif true then a else b)=a:=rfl
theorem Ajn (a b:List (Nat × Hp)):(bif false then a else b)=b:=rfl
theorem poA (a b:List (Nat × Nat × V)):(bif true then a else b)=a:=rfl
theorem Aj3 (a b:List (Nat × Nat × V)):(bif false then a else b)=b:=rfl
theorem poB (a b:Bool):(bif true then a else b)=a:=rfl
theorem Aj2 (a b:Bool):(bif false then a else b)=b:=rfl
theorem poV (a b:V):(bif true then a else b)=a:=rfl
theorem Ajw (a b:V):(bif false then a else b)=b:=rfl
theorem poN (a b:Nat):(a ≠ b) = ¬ (a=b):=rfl
theorem poI (a b:Int):(a ≠ b) = ¬ (a=b):=rfl
theorem Aj7 (a:Nat):(a == a)=true:=beq_self_eq_true a
theorem Aij (a:Bool):(a == a)=true:=beq_self_eq_true a
theorem Aj8 (a:Bool):(a != a)=false:=by cases a <;> rfl
theorem Ajz (a b:Nat):(some a=some b)=(a=b):=B5
theorem Ajy (a:Nat) (l:List Nat):(a :: l)[0]?=some a:=rfl
theorem Ajx (a:Nat) (l:List Nat) (i:Nat):(a :: l)[i + 1]?=l[i]?:=rfl
theorem Aka (i:Nat):([]:List Nat)[i]?=none:=rfl
theorem Ajl (a b:Nat) (l:List Nat):(b :: l).contains a=(a == b || l.contains a):=List.contains_cons
theorem Ai6 (a:Nat):([]:List Nat).contains a=false:=rfl
theorem Aje (f:X→V) (a:X) (l:List X):(a :: l).map f=f a :: l.map f:=rfl
theorem Aju (f:X→V):([]:List X).map f=[]:=rfl
theorem Ajr (f:Nat × Nat × V→Nat × V) (a:Nat × Nat × V) (l:List (Nat × Nat × V)):(a :: l).map f=f a :: l.map f:=rfl
theorem Afv (f:Nat × Nat × V→Nat × V):([]:List (Nat × Nat × V)).map f=[]:=rfl
theorem Aj4 (p:Nat × Nat × V→Bool) (a:Nat × Nat × V) (l:List (Nat × Nat × V)):(a :: l).filter p=if p a=true then a :: l.filter p else l.filter p:=List.filter_cons
theorem Ajp (p:Nat × Nat × V→Bool):([]:List (Nat × Nat × V)).filter p=[]:=rfl
theorem Ajm (a:LOp) (l:List LOp):(a :: l).length=l.length + 1:=rfl
theorem Ae9:([]:List LOp).length=0:=rfl
theorem Ajj (a:DOp) (l:List DOp):(a :: l).length=l.length + 1:=rfl
theorem Ae1:([]:List DOp).length=0:=rfl
theorem Aj6 (a:V) (l:List V):(a :: l).length=l.length + 1:=rfl
theorem Ag3:([]:List V).length=0:=rfl
theorem Aji (a:X) (l:List X):(a :: l).length=l.length + 1:=rfl
theorem Ahf:([]:List X).length=0:=rfl
theorem Ajt (a:Nat × V) (l m:List (Nat × V)):a :: l ++ m=a :: (l ++ m):=rfl
theorem Ahd (m:List (Nat × V)):[] ++ m=m:=rfl
theorem Ajq (a:V) (l m:List V):a :: l ++ m=a :: (l ++ m):=rfl
theorem Afg (m:List V):[] ++ m=m:=rfl
theorem Ajk (l:List (Nat × V)):l ++ []=l:=List.append_nil l
theorem poZ (n:Nat):((OfNat.ofNat n:Nat):Int)=OfNat.ofNat n:=rfl
def LP:=(C4 (Lj @poP @Ai5 @poH @Ajn @poA @Aj3 @poB @Aj2 @poV @Ajw @poN @poI @Aj7) (Er @Aij @Aj8 @Ajz @Ajy @Ajx @Aka @Ajl @Ai6 @Aje @Aju @Ajr @Afv @Aj4 @Ajp) (Er @Ajm @Ae9 @Ajj @Ae1 @Aj6 @Ag3 @Aji @Ahf @Ajt @Ahd @Ajq @Afg @Ajk @poZ))
end Mv
