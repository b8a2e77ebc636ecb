/- A part. -/
import Derived.Test.YtgeionenpaopaaaGreatDoorAP
set_option linter.all false
set_option maxRecDepth 10000
namespace Mv
open Go
def Cm (k:IntKind) (v:V) (H:Hp):Out:=match v with
 | .int _ a=>⟨True,.int k (k.wrap a),H⟩
 | _=>bad H
theorem Ax (A:List V) (H:Hp) (n:Nat) (k:IntKind) (x:X):Ag A H n (.conv k x)=Cm k (x.ev A) H:=rfl
theorem Mj (k k':IntKind) (a:Int) (H:Hp):Cm k (.int k' a) H=⟨True,.int k (k.wrap a),H⟩:=rfl
theorem MT (b:BitVec 8) (H:Hp):Cm .u64 (B b) H=⟨True,W (b.setWidth 64),H⟩:=by
 have h:=b.isLt;simp only [Cm,B,W,DW,BitVec.toNat_setWidth]
 congr 2
theorem Nk (w:BitVec 64) (H:Hp):Cm .u8 (W w) H=⟨True,B (w.setWidth 8),H⟩:=by
 simp only [Cm,B,W,ME,BitVec.toNat_setWidth]
 congr 2
theorem Kk (w:BitVec 64) (H:Hp):Cm .i64 (W w) H=⟨True,.int .i64 (IntKind.i64.wrap (w.toNat:Int)),H⟩:=rfl
theorem J2 (w:BitVec 8) (H:Hp):Cm .i64 (B w) H=⟨True,.int .i64 (w.toNat:Int),H⟩:=by
 have h:=w.isLt;simp only [Cm,B];rw [AR Aa]
theorem Hr (a:BitVec 64) (k:IntKind) (b:Int) (H:Hp):AT .shl (W a) (.int k b) H=⟨0≤b,W (a <<< b.toNat),H⟩:=by
 simp only [AT,W,DW,BitVec.toNat_shiftLeft,Nat.shiftLeft_eq,IntKind.bits]
 congr 2
 by_cases hb:b.toNat≤64
 ·rw [Nat.min_eq_left hb];rw [Int.natCast_emod,Int.natCast_mul,Int.natCast_pow];rfl
 ·rw [Nat.min_eq_right Aa];have e1:a.toNat * 2 ^ b.toNat % 2 ^ 64=0:=by
   have:b.toNat=64 + (b.toNat - 64):=Aa;rw [this,Nat.pow_add,← Nat.mul_assoc,Nat.mul_right_comm];exact Nat.mul_mod_left _ _
  rw [e1];have e2:(2:Int) ^ 64=18446744073709551616:=Ab;rw [e2];omega
theorem X3 (a:BitVec 64) (k:IntKind) (b:Int) (H:Hp):AT .shr (W a) (.int k b) H=⟨0≤b,W (a >>> b.toNat),H⟩:=by
 have ha:=a.isLt;simp only [AT,W,Lb4,IntKind.bits]
 congr 2
 rw [Int.fdiv_eq_ediv_of_nonneg _ (Int.pow_nonneg Aa),Int.natCast_ediv,Int.natCast_pow];by_cases hb:b.toNat≤64
 ·rw [Nat.min_eq_left hb];rfl
 ·rw [Nat.min_eq_right Aa];have h1:(a.toNat:Int) / 2 ^ 64=0:=Int.ediv_eq_zero_of_lt Aa Aa;have h2:a.toNat / 2 ^ b.toNat=0:=Nat.div_eq_of_lt (Nat.lt_of_lt_of_le ha (Nat.pow_le_pow_right Aa Aa));have h3:(a.toNat:Int) / ((2:Nat):Int) ^ b.toNat=0:=by
   rw [← Int.natCast_pow,← Int.natCast_ediv,h2];rfl
  rw [h1];exact h3.symm
theorem eqW (a b:BitVec 64):decide ((a.toNat:Int)=(b.toNat:Int))=decide (a=b):=by
 rw [decide_eq_decide];constructor
 ·intro h;exact BitVec.eq_of_toNat_eq Aa
 ·rintro rfl;rfl
theorem GI (a b:BitVec 64) (H:Hp):AT .eql (W a) (W b) H=⟨True,.bool (decide (a=b)),H⟩:=by
 simp only [AT,W,eqW]
theorem GV (a b:BitVec 64) (H:Hp):AT .neq (W a) (W b) H=⟨True,.bool (!decide (a=b)),H⟩:=by
 simp only [AT,W,eqW]
theorem IH (a:BitVec 64) (c:Int) (H:Hp):AT .eql (W a) (.int .u64 c) H=⟨True,.bool (decide ((a.toNat:Int)=c)),H⟩:=by
 simp only [AT,W]
theorem II (a:BitVec 64) (c:Int) (H:Hp):AT .geq (W a) (.int .u64 c) H=⟨True,.bool (decide (c≤(a.toNat:Int))),H⟩:=by
 simp only [AT,W]
theorem I6 (a:BitVec 64) (c:Int) (H:Hp):AT .rem (W a) (.int .u64 c) H=⟨c ≠ 0,.int .u64 ((a.toNat:Int).tmod c),H⟩:=by
 simp only [AT,W,true_and]
theorem YG (a b:BitVec 8) (H:Hp):AT .xor (B a) (B b) H=⟨True,B (a ^^^ b),H⟩:=by
 simp only [AT,B,ME]
 congr 2
 rw [CG,CG];have e1:BitVec.ofNat IntKind.u8.bits a.toNat=a:=by apply BitVec.eq_of_toNat_eq;simp [IntKind.bits]
 have e2:BitVec.ofNat IntKind.u8.bits b.toNat=b:=by apply BitVec.eq_of_toNat_eq;simp [IntKind.bits]
 have h3:(BitVec.ofNat IntKind.u8.bits a.toNat ^^^ BitVec.ofNat IntKind.u8.bits b.toNat).toNat=(a ^^^ b).toNat:=by
  rw [BitVec.toNat_xor,BitVec.toNat_xor,e1,e2];rfl
 rw [h3];have:=(a ^^^ b).isLt;omega
theorem Al5 (n:Nat) (h:n < 18446744073709551616):V.int .u64 (n:Int)=W (BitVec.ofNat 64 n):=by
 simp only [W,BitVec.toNat_ofNat];rw [Nat.mod_eq_of_lt Aa]
theorem Alx (n:Nat) (h:n < 256):V.int .u8 (n:Int)=B (BitVec.ofNat 8 n):=by
 simp only [B,BitVec.toNat_ofNat];rw [Nat.mod_eq_of_lt Aa]
theorem Qu {M:Seat} {f:Nat} {us us0:List V} {H:Hp} {n:Nat} {K:V→Hp→Prop} {v:V} (z:List Nat) (hr:As M f us0 [] 0 (Q3 v [] 0)) (hus:Bh H [] z us0 us) (hv:v.ren (Bo [] n 0)=v) (hK:K v (AH H z)):Bk M f us H n K:=by
 refine EE hr False [] z List.nodup_nil BF rfl BF hus trivial ?_;rintro v' H' k' ⟨rfl,rfl,rfl⟩;refine ⟨⟨by omega,fun h=>h.elim⟩,?_⟩;rw [hv];simpa [Bf] using hK
def rc:List (BitVec 64):=rounds.map (BitVec.ofInt 64)
theorem App:∀ j,j < 24→((rc.getD j 0).toNat:Int)=rounds.getD j 0:=Ab
theorem Aj5:U8 1 = .ar 1 24 (ws rc):=by
 have:(fun i=>V.int .u64 (rounds.getD i 0))=ws rc:=by
  funext j;by_cases hj:j < 24
  ·simp only [ws,W,App j hj]
  ·have h1:rounds.getD j 0=0:=by rw [List.getD_eq_getElem?_getD,List.getElem?_eq_none (by simp [rounds];omega)];rfl
   have h2:rc.getD j 0=0:=by rw [List.getD_eq_getElem?_getD,List.getElem?_eq_none (by simp [rc,rounds];omega)];rfl
   simp only [ws,W,h1,h2];rfl
 simp only [U8,this]
theorem Ajb:U8 2 = .ar 1 24 (fun i=>.int .i64 (lanes.getD i 0)):=rfl
theorem Ago:U8 3 = .ar 1 24 (fun i=>.int .i64 (turns.getD i 0)):=rfl
theorem Xi:∀ p,p < 24→0≤turns.getD p 0∧turns.getD p 0 < 64:=Ab
theorem Wa:∀ p,p < 24→0≤lanes.getD p 0∧lanes.getD p 0 < 25:=Ab
structure Dg where
 l:List (BitVec 8)
 h:l.length=32
deriving DecidableEq
def Dg.at (d:Dg) (j:Nat):BitVec 8:=d.l.getD j 0
def Dg.mk' (f:Nat→BitVec 8):Dg:=⟨(List.range 32).map f,by simp⟩
theorem Dg.at_mk' (f:Nat→BitVec 8) (j:Nat) (hj:j < 32):(Dg.mk' f).at j=f j:=by
 simp [Dg.at,Dg.mk',List.getD,List.getElem?_map,List.getElem?_range hj]
theorem Dg.ext' {a b:Dg} (h:∀ j,j < 32→a.at j=b.at j):a=b:=by
 obtain ⟨l,hl⟩:=a;obtain ⟨m,hm⟩:=b;have:l=m:=by
  apply List.ext_getElem Aa;intro i h1 h2;have:=h i Aa;simpa [Dg.at,List.getD,h1,h2] using this
 subst this;rfl
def Dg.zero:Dg:=Dg.mk' fun _=>0
theorem Dg.at_zero (j:Nat):Dg.zero.at j=0:=by
 by_cases hj:j < 32
 ·rw [Dg.zero,Dg.at_mk' _ _ hj]
 ·simp only [Dg.at,Dg.zero,Dg.mk',List.getD];rw [List.getElem?_eq_none F6];rfl
instance:Inhabited Dg:=⟨Dg.zero⟩
def dg (d:Dg):V:=.ar 1 32 (fun j=>B (d.at j))
def dgs (s:List Dg):Nat→V:=fun j=>dg (s.getD j Dg.zero)
theorem E4 (d:Dg):(dg d).solid=true:=rfl
theorem MD (d:Dg):(dg d).size=32:=rfl
theorem Qa (d:Dg):(dg d).isAgg=true:=rfl
theorem YB (m:List Nat) (d:Dg):(dg d).ren m=dg d:=rfl
theorem JS (s:List Dg) (j:Nat):dgs s j=dg (s.getD j Dg.zero):=rfl
theorem ZX (m:List Nat) (s:List Dg) (j:Nat):(dgs s j).ren m=dgs s j:=rfl
theorem Sm (H:Hp) (m z:List Nat) (a:Dg) (u:V):B5 H m z (dg a) u=Aw H m z (dg a) u:=rfl
theorem Kt (H:Hp) (m z:List Nat) (a b:Dg):Aw H m z (dg a) (dg b) ↔ b=a:=by
 simp only [Aw,dg,RP,true_and];constructor
 ·intro h;exact Dg.ext' (fun j hj=>h j hj)
 ·rintro rfl _ _;rfl
theorem XT {p:Prop} [Decidable p] (a b:Dg):(if p then dg a else dg b)=dg (if p then a else b):=by split <;> rfl
theorem eqB (a b:BitVec 8):decide ((a.toNat:Int)=(b.toNat:Int))=decide (a=b):=by
 rw [decide_eq_decide];constructor
 ·intro h;exact BitVec.eq_of_toNat_eq Aa
 ·rintro rfl;rfl
theorem HJ (c:Bool) (a b:Dg):AQ c (.ar 32 1 false .int) (dg a) (dg b):=by
 simp only [AQ,dg,true_and];intro i _;refine ⟨rfl,rfl,?_⟩;simp only [B]
theorem Jh (a b:Dg):AX (.ar 32 1 false .int) (dg a) (dg b)=decide (a=b):=by
 have h1:AX (.ar 32 1 false .int) (dg a) (dg b)=(List.range 32).all (fun i=>decide (a.at i=b.at i)):=by
  simp only [AX,dg,B,eqB]
 rw [h1,Bool.eq_iff_iff,List.all_eq_true];simp only [decide_eq_true_eq,List.mem_range];constructor
 ·exact fun h=>Dg.ext' h
 ·rintro rfl _ _;rfl
def pwx (x:BitVec 64) (p:Nat→BitVec 8) (j:Nat):Nat→BitVec 64
 | 0=>x
 | k + 1=>pwx x p j k ^^^ ((p (8 * j + k)).setWidth 64 <<< (8 * k))
def SC (s:List (BitVec 64)) (p:Nat→BitVec 8) (i k j:Nat):BitVec 64 :=
 if j < i then pwx (s.getD j 0) p j 8 else if j=i then pwx (s.getD j 0) p j k else s.getD j 0
def mix (s:List (BitVec 64)) (p:Nat→BitVec 8):List (BitVec 64):=(List.range 25).map (SC s p 17 0)
theorem Af9 (s:List (BitVec 64)) (p:Nat→BitVec 8) (j:Nat) (hj:j < 25):(mix s p).getD j 0=SC s p 17 0 j:=by
 simp [mix,List.getD,List.getElem?_map,List.getElem?_range hj]
theorem Anr (s:List (BitVec 64)) (p:Nat→BitVec 8) (j:Nat):SC s p 0 0 j=s.getD j 0:=by
 simp only [SC,pwx];split
 ·omega
 ·split <;> rfl
theorem Al8 (s:List (BitVec 64)) (p:Nat→BitVec 8) (i k j:Nat):(if j=i then SC s p i k i ^^^ ((p (8 * i + k)).setWidth 64 <<< (8 * k)) else SC s p i k j)=SC s p i (k + 1) j:=by
 by_cases h:j=i
 ·subst h;simp [SC,pwx]
 ·simp only [SC,if_neg h]
theorem Ant (s:List (BitVec 64)) (p:Nat→BitVec 8) (i j:Nat):SC s p i 8 j=SC s p (i + 1) 0 j:=by
 simp only [SC,pwx];by_cases h:j < i
 ·rw [if_pos h,if_pos Aa]
 ·rw [if_neg h];by_cases h2:j=i
  ·rw [if_pos h2,if_pos Aa]
  ·rw [if_neg h2,if_neg Aa];split <;> rfl
def dig (s:List (BitVec 64)):Dg:=Dg.mk' fun i=>(s.getD (i / 8) 0 >>> (8 * (i % 8))).setWidth 8
def pad (a b:Dg) (j:Nat):BitVec 8:=if j < 32 then a.at j else if j < 64 then b.at (j - 32) else if j=64 then 1 else if j=135 then 128 else 0
theorem dg0:V.ar 1 32 (fun _=>V.int .u8 0)=dg Dg.zero:=by
 have h:(fun _=>V.int .u8 0)=fun j=>B (Dg.zero.at j):=by
  funext j;rw [Dg.at_zero];rfl
 simp only [dg,h]
def a6:=@dg.eq_1
theorem exZ (M:Seat) (x:Ctx) (Q:List V→Hp→Nat→Prop) (k:List It) (N:Nat) (A:List V) (H:Hp):ex M x Q 0 k N A H=F8 M x Q k N A H:=by cases k <;> rfl
theorem exN (M:Seat) (x:Ctx) (Q:List V→Hp→Nat→Prop) (n:Nat) (N:Nat) (A:List V) (H:Hp):ex M x Q (n + 1) [] N A H=Q A H N:=rfl
theorem Akw (M:Seat) (x:Ctx) (Q:List V→Hp→Nat→Prop) (n:Nat) (k:List It) (N:Nat) (A:List V) (H:Hp):ex M x Q (n + 1) (.code .skip :: k) N A H=ex M x Q n k N A H:=rfl
theorem Al1 (M:Seat) (x:Ctx) (Q:List V→Hp→Nat→Prop) (n:Nat) (ops:List LOp) (k:List It) (N:Nat) (A:List V) (H:Hp):ex M x Q (n + 1) (.code (.reg ops) :: k) N A H=Ro M (ex M x Q n k (N + 16 * ops.length)) ops N A H:=rfl
theorem Ag6 (M:Seat) (x:Ctx) (Q:List V→Hp→Nat→Prop) (n:Nat) (L:List DOp) (k:List It) (N:Nat) (A:List V) (H:Hp):ex M x Q (n + 1) (.code (.regd L) :: k) N A H=Cr M (ex M x Q n k (N + 32 * L.length)) L.length N (GD L 0) L 0 A H [(0,H)] []:=rfl
theorem Anv (M:Seat) (x:Ctx) (Q:List V→Hp→Nat→Prop) (n:Nat) (c d:LC) (k:List It) (N:Nat) (A:List V) (H:Hp):ex M x Q (n + 1) (.code (.seq c d) :: k) N A H=ex M x Q n (.code c :: .code d :: k) N A H:=rfl
theorem ZZ (M:Seat) (x:Ctx) (Q:List V→Hp→Nat→Prop) (n:Nat) (id:Nat) (c:LC) (k:List It) (N:Nat) (A:List V) (H:Hp):ex M x Q (n + 1) (.code (.block id c) :: k) N A H=ex M x Q n (.code c :: .blk id :: k) N A H:=rfl
theorem Agd (M:Seat) (x:Ctx) (Q:List V→Hp→Nat→Prop) (n:Nat) (c:LC) (k:List It) (N:Nat) (A:List V) (H:Hp):ex M x Q (n + 1) (.code (.loop c) :: k) N A H=IK M x Q c k A H N:=rfl
theorem Agk (M:Seat) (x:Ctx) (Q:List V→Hp→Nat→Prop) (n:Nat) (id:Nat) (k:List It) (N:Nat) (A:List V) (H:Hp):ex M x Q (n + 1) (.code (.exit id) :: k) N A H=(match Ca id k with | some k'=>ex M x Q n k' N A H | none=>False):=rfl
theorem Amt (M:Seat) (x:Ctx) (Q:List V→Hp→Nat→Prop) (n:Nat) (k:List It) (N:Nat) (A:List V) (H:Hp):ex M x Q (n + 1) (.code .ret :: k) N A H=Q A H N:=rfl
theorem Any (M:Seat) (x:Ctx) (Q:List V→Hp→Nat→Prop) (n:Nat) (i:Nat) (k:List It) (N:Nat) (A:List V) (H:Hp):ex M x Q (n + 1) (.blk i :: k) N A H=ex M x Q n k N A H:=rfl
theorem Amb (M:Seat) (x:Ctx) (Q:List V→Hp→Nat→Prop) (n:Nat) (J:List V→Hp→Nat→Prop) (k:List It) (N:Nat) (A:List V) (H:Hp):ex M x Q (n + 1) (.inv J :: k) N A H=J A H N:=rfl
theorem RoN (M:Seat) (K:List V→Hp→Prop) (n:Nat) (A:List V) (H:Hp):Ro M K [] n A H=K A H:=rfl
theorem Aqy (M:Seat) (K:List V→Hp→Prop) (m N wm p:Nat) (A:List V) (H:Hp) (bd:List (Nat × Hp)) (al:List (Nat × Nat × V)):Cr M K m N wm [] p A H bd al=K A H:=rfl
def LS:=(Jr (KT @Sm @Kt @JS @Yq @VY @Aft @RP @OJ @JX @Fj @Kq @Ih @not_false_eq_true) (KT @Md @Pn @LL @OM @Mi @Ok @OI @LW @Sn @OV @M3 @P3 @L7) (Ik @Tc @Mk @OP @SJ @R9 @Pf @true_and @and_true @and_self @V.int.injEq @V.sl.injEq @V.ptr.injEq @V.bool.injEq @Bool.true_or))
def P8:=(aq9 @BEq.rfl.{0} @LS @La4 @Dh @c7 @c8 @c9 @d7 @ne_eq.{1})
def LT:=(aq5 (KT @Sm @Kt @JS @Yq @VY @Aft @RP @OJ @JX @Fj @Kq @Ih @not_false_eq_true) (Ik @Md @Pn @LL @OM @Mi @Ok @OI @LW @Sn @OV @M3 @P3 @L7 @Tc) (Ik @Mk @OP @SJ @R9 @Pf @true_and @and_true @and_self @V.int.injEq @V.sl.injEq @V.ptr.injEq @V.bool.injEq @Bool.true_or @Jf) (Ik @Jw @E4 @Gm @EV @Gt @Fa @Gn @Gq @EQ @HE @Gs @Fx @Gp @EW) (Ik @HK @EX @G6 @Hw @HL @Bool.and_true @Bool.true_and @Bool.and_self @Nat.zero_add @Nat.le_refl @Bool.or_true @Bool.or_false @Bool.false_or @Int.natCast_zero))
def La6:=(ED @LT @La0 @La4 @List.contains_cons.{0} @List.contains_nil.{0} @implies_true.{0} @implies_true.{1} @EO.eq_1 @EO.eq_2 @Ez.eq_1 @Ez.eq_2)
def Me:=(aq5 (DC @BEq.rfl.{0} @Int.cast_ofNat_Int @LT @List.contains_cons.{0} @List.contains_nil.{0} @List.getElem?_cons_succ.{0} @List.getElem?_cons_zero.{0} @List.getElem?_nil.{0} @Option.some.injEq.{0} @a7 @a8 @a9 @d8 @Aw.eq_5 @Aw.eq_6 @Aw.eq_7) (DC @Aw.eq_8 @Aw.eq_9 @Aw.eq_10 @Aw.eq_11 @Aw.eq_12 @Aw.eq_13 @Aw.eq_14 @Aw.eq_15 @Aw.eq_16 @Aw.eq_17 @Aw.eq_18 @Aw.eq_19 @Aw.eq_20 @Aw.eq_21 @Aw.eq_22 @Aw.eq_23) (DC @Aw.eq_24 @Aw.eq_25 @Aw.eq_26 @Aw.eq_27 @Aw.eq_28 @Aw.eq_29 @Aw.eq_30 @Aw.eq_31 @Aw.eq_32 @Aw.eq_33 @Aw.eq_34 @Aw.eq_35 @Aw.eq_36 @Aw.eq_37 @Aw.eq_38 @Aw.eq_39) (DC @Aw.eq_40 @Bh.eq_1 @Bh.eq_2 @Bh.eq_3 @B3.eq_1 @B3.eq_2 @Ls.eq_1 @Ls.eq_2 @d9 @f5 @f6 @f7 @f9 @j0 @j3 @j4) (DC @j5 @j6 @j7 @j8 @j9 @k6 @TG.eq_1 @c7 @c8 @c9 @d7 @if_false.{1} @if_true.{1} @implies_true.{0} @implies_true.{1} @ne_eq.{1}))
def LR:=(aq9 (Dm @Mj @MT @Nk @Kk @J2 @Hr @X3 @GI @GV @IH @II @I6 @YG @QC @Kf) (DC @Fj @Kq @Ih @BS @not_false_eq_true @XB @Z2 @Y0 @WX @Z8 @Z3 @Wq @WM @W7 @VH @ZF) (DC @Zb @VP @Afu @Anz @Afp @Xd @Kn @Kc @Nw @M8 @Int.le_refl @R4 @Lz @XT @E4 @MD) (DC @Qa @JS @HJ @Jh @Int.toNat_natCast @true_or @or_true @Nat.add_zero @Aj5 @Ajb @Ago @Nat.zero_or @Nat.or_zero @Nat.and_zero @Nat.zero_and @Nat.zero_shiftRight) (DC @Int.toNat_zero @OJ @JX @Jf @Q6 @YH @Jw @QX @Yx @Gm @EV @Gt @Fa @Gn @Gq @EQ) (DC @HE @Gs @Fx @Gp @EW @HK @EX @G6 @Hw @HL @K3 @Ig @JB @Ie @K0 @JR) (DC @HV @Nf @JN @Ic @size_map @Ir @NC @Im @JF @N4 @NE @MI @J5 @MH @KN @No) (DC @Ni @J9 @QJ @Nm @Kd @ND @Ks @PY @KM @Nz @PI @Rp @Bool.true_or @Bool.or_true @Bool.false_or @Bool.or_false) (DC @Bool.and_true @Bool.true_and @Bool.false_and @Bool.and_false @true_and @and_true @Bool.false_eq_true @Bool.true_eq_false @false_implies @true_implies @decide_true @decide_false @SU @Pz @Bool.not_true @Bool.not_false))
def GR:=(BK @LR @La0)
def LU:=(Acn (Dm @Mj @MT @Nk @Kk @J2 @Hr @X3 @GI @GV @IH @II @I6 @YG @QC @Kf) (Dm @Fj @Kq @Ih @BS @not_false_eq_true @XB @Z2 @Y0 @WX @Z8 @Z3 @Wq @WM @W7 @VH) (Dm @ZF @Zb @VP @Afu @Anz @Afp @Xd @Kn @Kc @Nw @M8 @Int.le_refl @R4 @Lz @XT) (Dm @E4 @MD @Qa @JS @HJ @Jh @Int.toNat_natCast @true_or @or_true @Nat.add_zero @Aj5 @Ajb @Ago @Nat.zero_or @Nat.or_zero) (Dm @Nat.and_zero @Nat.zero_and @Nat.zero_shiftRight @Int.toNat_zero @OJ @JX @Jf @Q6 @YH @Jw @QX @Yx @Gm @EV @Gt) (Dm @Fa @Gn @Gq @EQ @HE @Gs @Fx @Gp @EW @HK @EX @G6 @Hw @HL @K3) (Dm @Ig @JB @Ie @K0 @JR @HV @Nf @JN @Ic @size_map @Ir @NC @Im @JF @N4) (Dm @NE @MI @J5 @MH @KN @No @Ni @J9 @QJ @Nm @Kd @ND @Ks @PY @KM) (Dm @Nz @PI @Rp @Bool.true_or @Bool.or_true @Bool.false_or @Bool.or_false @Bool.and_true @Bool.true_and @Bool.false_and @Bool.and_false @true_and @and_true @Bool.false_eq_true @Bool.true_eq_false) (DC @false_implies @true_implies @decide_true @decide_false @SU @Pz @Bool.not_true @Bool.not_false @Nat.zero_add @Nat.add_one_ne_zero @Int.natCast_zero @Nat.mul_zero @Bool.false_xor @Bool.xor_false @Bool.true_xor @Bool.xor_true))
def W0:=(BK @LU @La0)
def Lbb:=(aq4 @Laj @W0 @Lk.eq_1 @Lk.eq_2)
def LN:=(aq7 @Ao7 @An9 @YB @Ahe @Abf @ZX @not_false_eq_true)
theorem poP (a b:Prop):(bif true then a else b)=a:=rfl
theorem Aqd (a b:Prop):(bif false then a else b)=b:=rfl
theorem poH (a b:List (Nat × Hp)):(bif true then a else b)=a:=rfl
theorem Apv (a b:List (Nat × Hp)):(bif false then a else b)=b:=rfl
theorem poA (a b:List (Nat × Nat × V)):(bif true then a else b)=a:=rfl
theorem Aqt (a b:List (Nat × Nat × V)):(bif false then a else b)=b:=rfl
theorem poB (a b:Bool):(bif true then a else b)=a:=rfl
theorem Aqn (a b:Bool):(bif false then a else b)=b:=rfl
theorem poV (a b:V):(bif true then a else b)=a:=rfl
theorem Apx (a b:V):(bif false then a else b)=b:=rfl
theorem poN (a b:Nat):(a ≠ b) = ¬ (a=b):=rfl
theorem poI (a b:Int):(a ≠ b) = ¬ (a=b):=rfl
theorem Aqz (a:Nat):(a == a)=true:=beq_self_eq_true a
theorem Aop (a:Bool):(a == a)=true:=beq_self_eq_true a
theorem Aqe (a:Bool):(a != a)=false:=by cases a <;> rfl
theorem Aq1 (a b:Nat):(some a=some b)=(a=b):=BF
theorem Ap0 (a:Nat) (l:List Nat):(a :: l)[0]?=some a:=rfl
theorem Aqm (a:Nat) (l:List Nat) (i:Nat):(a :: l)[i + 1]?=l[i]?:=rfl
theorem Ap7 (i:Nat):([]:List Nat)[i]?=none:=rfl
theorem Ap9 (a b:Nat) (l:List Nat):(b :: l).contains a=(a == b || l.contains a):=List.contains_cons
theorem Ap3 (a:Nat):([]:List Nat).contains a=false:=rfl
theorem Aqj (f:X→V) (a:X) (l:List X):(a :: l).map f=f a :: l.map f:=rfl
theorem Aql (f:X→V):([]:List X).map f=[]:=rfl
theorem Ap2 (f:Nat × Nat × V→Nat × V) (a:Nat × Nat × V) (l:List (Nat × Nat × V)):(a :: l).map f=f a :: l.map f:=rfl
theorem Anh (f:Nat × Nat × V→Nat × V):([]:List (Nat × Nat × V)).map f=[]:=rfl
theorem Apy (p:Nat × Nat × V→Bool) (a:Nat × Nat × V) (l:List (Nat × Nat × V)):(a :: l).filter p=if p a=true then a :: l.filter p else l.filter p:=List.filter_cons
theorem Ap5 (p:Nat × Nat × V→Bool):([]:List (Nat × Nat × V)).filter p=[]:=rfl
theorem Aq0 (a:LOp) (l:List LOp):(a :: l).length=l.length + 1:=rfl
theorem Am4:([]:List LOp).length=0:=rfl
theorem Ap1 (a:DOp) (l:List DOp):(a :: l).length=l.length + 1:=rfl
theorem Amg:([]:List DOp).length=0:=rfl
theorem Aqo (a:V) (l:List V):(a :: l).length=l.length + 1:=rfl
theorem Ao8:([]:List V).length=0:=rfl
theorem Apz (a:X) (l:List X):(a :: l).length=l.length + 1:=rfl
theorem Al6:([]:List X).length=0:=rfl
theorem Aqb (a:Nat × V) (l m:List (Nat × V)):a :: l ++ m=a :: (l ++ m):=rfl
theorem An5 (m:List (Nat × V)):[] ++ m=m:=rfl
theorem Aqi (a:V) (l m:List V):a :: l ++ m=a :: (l ++ m):=rfl
theorem Amq (m:List V):[] ++ m=m:=rfl
theorem Ap4 (l:List (Nat × V)):l ++ []=l:=List.append_nil l
theorem poZ (n:Nat):((OfNat.ofNat n:Nat):Int)=OfNat.ofNat n:=rfl
def LP:=(Jr (KT @poP @Aqd @poH @Apv @poA @Aqt @poB @Aqn @poV @Apx @poN @poI @Aqz) (Ik @Aop @Aqe @Aq1 @Ap0 @Aqm @Ap7 @Ap9 @Ap3 @Aqj @Aql @Ap2 @Anh @Apy @Ap5) (Ik @Aq0 @Am4 @Ap1 @Amg @Aqo @Ao8 @Apz @Al6 @Aqb @An5 @Aqi @Amq @Ap4 @poZ))
end Mv
