/- A part. -/
import Derived.Test.YtgeionenpaopaaaGreatDoorAO
set_option linter.all false
namespace Mv
open Go
theorem Gm (k:IntKind) (n:Int):(V.int k n).solid=true:=rfl
theorem K3 (k:IntKind) (n:Int):(V.int k n).size=1:=rfl
theorem MI (k:IntKind) (n:Int):(V.int k n).isAgg=false:=rfl
theorem EV (b:Bool):(V.bool b).solid=true:=rfl
theorem Ig (b:Bool):(V.bool b).size=1:=rfl
theorem J5 (b:Bool):(V.bool b).isAgg=false:=rfl
theorem Gt (s:ByteArray):(V.str s).solid=true:=rfl
theorem JB (s:ByteArray):(V.str s).size=1:=rfl
theorem MH (s:ByteArray):(V.str s).isAgg=false:=rfl
theorem Fa:V.nilp.solid=true:=rfl
theorem Ie:V.nilp.size=1:=rfl
theorem KN:V.nilp.isAgg=false:=rfl
theorem Gn (i:Nat) (p:List Stp):(V.ptr i p).solid=true:=rfl
theorem K0 (i:Nat) (p:List Stp):(V.ptr i p).size=1:=rfl
theorem No (i:Nat) (p:List Stp):(V.ptr i p).isAgg=false:=rfl
theorem Gq (v:V):(V.imm v).solid=true:=rfl
theorem JR (v:V):(V.imm v).size=1:=rfl
theorem Ni (v:V):(V.imm v).isAgg=false:=rfl
theorem EQ:V.nils.solid=true:=rfl
theorem HV:V.nils.size=1:=rfl
theorem J9:V.nils.isAgg=false:=rfl
theorem HE (i:Nat) (p:List Stp) (o n sz:Nat):(V.sl i p o n sz).solid=true:=rfl
theorem Nf (i:Nat) (p:List Stp) (o n sz:Nat):(V.sl i p o n sz).size=1:=rfl
theorem QJ (i:Nat) (p:List Stp) (o n sz:Nat):(V.sl i p o n sz).isAgg=false:=rfl
theorem Gs (sz n:Nat) (f:Nat→V):(V.lst sz n f).solid=true:=rfl
theorem JN (sz n:Nat) (f:Nat→V):(V.lst sz n f).size=1:=rfl
theorem Nm (sz n:Nat) (f:Nat→V):(V.lst sz n f).isAgg=false:=rfl
theorem Fx:V.nilm.solid=true:=rfl
theorem Ic:V.nilm.size=1:=rfl
theorem Kd:V.nilm.isAgg=false:=rfl
theorem Gp (i:Nat):(V.map i).solid=true:=rfl
theorem size_map (i:Nat):(V.map i).size=1:=rfl
theorem ND (i:Nat):(V.map i).isAgg=false:=rfl
theorem EW:V.nilf.solid=true:=rfl
theorem Ir:V.nilf.size=1:=rfl
theorem Ks:V.nilf.isAgg=false:=rfl
theorem HK (f:Nat) (c:V):(V.fn f c).solid=true:=rfl
theorem NC (f:Nat) (c:V):(V.fn f c).size=1:=rfl
theorem PY (f:Nat) (c:V):(V.fn f c).isAgg=false:=rfl
theorem EX:V.nili.solid=true:=rfl
theorem Im:V.nili.size=1:=rfl
theorem KM:V.nili.isAgg=false:=rfl
theorem G6 (t:Nat) (v:V):(V.ifc t v).solid=true:=rfl
theorem JF (t:Nat) (v:V):(V.ifc t v).size=1:=rfl
theorem Nz (t:Nat) (v:V):(V.ifc t v).isAgg=false:=rfl
theorem Hw (n:Nat) (fs:V):(V.st n fs).solid=true:=rfl
theorem N4 (n:Nat) (fs:V):(V.st n fs).size=n:=rfl
theorem PI (n:Nat) (fs:V):(V.st n fs).isAgg=true:=rfl
theorem HL (sz n:Nat) (f:Nat→V):(V.ar sz n f).solid=true:=rfl
theorem NE (sz n:Nat) (f:Nat→V):(V.ar sz n f).size=n * sz:=rfl
theorem Rp (sz n:Nat) (f:Nat→V):(V.ar sz n f).isAgg=true:=rfl
theorem DW (n:Int):IntKind.u64.wrap n=n % 18446744073709551616:=Q0
theorem ME (n:Int):IntKind.u8.wrap n=n % 256:=Q0
theorem FE {n:Int} (h:0≤n∧n < 18446744073709551616):IntKind.u64.wrap n=n:=by
 rw [DW];omega
theorem XL (n:Int):IntKind.i64.wrap n=if n % 18446744073709551616 ≥ 9223372036854775808 then n % 18446744073709551616 - 18446744073709551616 else n % 18446744073709551616:=Q0
theorem AR {n:Int} (h:-9223372036854775808≤n∧n < 9223372036854775808):IntKind.i64.wrap n=n:=by
 rw [XL];split <;> omega
theorem SU {p:Prop} [Decidable p] (k:IntKind) (a b:Int):(if p then V.int k a else V.int k b)=V.int k (if p then a else b):=by split <;> rfl
theorem Pz {p:Prop} [Decidable p] (a b:Bool):(if p then V.bool a else V.bool b)=V.bool (if p then a else b):=by split <;> rfl
theorem Av.at {M:Seat} {c:Ctx} {A:List V} {H:Hp} {N:Nat} (m z:List Nat) {k:Nat} (hck:c.k=k) {A':List V} {H':Hp} {N':Nat} (hm:(decide m.Nodup && z.all (fun i=>!m.contains i) && decide (m.length≤N') && decide (k≤N') && (List.range k).all (fun j=>m[j]? == some j))=true)
 (hA:Bh H m z A' A) (hH:B3 H m z H'):Av M c A H N A' H' N':=by
 simp only [X5,decide_eq_true_eq,List.all_eq_true,List.mem_range,beq_iff_eq,List.contains_eq_mem,decide_eq_false_iff_not] at hm;obtain ⟨⟨⟨⟨h1,h2⟩,h3⟩,h4⟩,h5⟩:=hm;exact Av.sim m z h1 h2 h3 Aa (fun j hj=>h5 j Aa) hA hH
theorem Av.atO {M:Seat} {c:Ctx} {A:List V} {H:Hp} {N:Nat} (m z L:List Nat) {k:Nat} (hck:c.k=k) {A':List V} {H':Hp} {N':Nat} (hL:V5 H' L) (hm:((L.all fun i=>L.all fun j=>i == j || m[i]? != m[j]?) && z.all (fun i=>!m.contains i) && decide (m.length≤N') && decide (k≤N') && (List.range k).all (fun j=>m[j]? == some j))=true)
 (hA:Bh H m z A' A) (hH:B3 H m z H'):Av M c A H N A' H' N':=by
 simp only [Bool.and_eq_true,decide_eq_true_eq,List.mem_range] at hm;obtain ⟨⟨⟨⟨h1,h2⟩,h3⟩,h4⟩,h5⟩:=hm;simp only [List.all_eq_true,List.mem_range,beq_iff_eq,Bool.not_eq_true',List.contains_eq_mem,decide_eq_false_iff_not] at h2 h5;exact Av.simO m z (IV.at L hL h1) h2 h3 Aa (fun j hj=>h5 j Aa) hA hH
abbrev A0 (l:LO):LOp:=⟨none,.lo l,none⟩
abbrev A1 (d:Nat) (l:LO):LOp:=⟨some d,.lo l,none⟩
abbrev A2 (d t:Nat) (b:Bool) (l:LO):LOp:=⟨some d,.lo l,some (t,b)⟩
abbrev mt (d s:Nat):LOp:=⟨some d,.lo (.mv (.t s)),none⟩
abbrev mn (d:Nat):LOp:=⟨some d,.lo (.mv (.c .nili)),none⟩
abbrev cI (n:Int):X:=.c (.int .i64 n)
abbrev cU (n:Int):X:=.c (.int .u64 n)
abbrev kl (d f:Nat) (l:List X):LOp:=⟨some d,.call f l,none⟩
abbrev sr (l:List LOp) (c:LC):LC:=.seq (.reg l) c
abbrev zU:Z:=.int .u64
abbrev zI:Z:=.int .i64
abbrev zD:Z:=.ar 32 (.int .u8)
abbrev zK:Z:=.st (.cons zU (.cons zU .nil))
abbrev zM:Z:=.st (.cons (.ar 16 zU) (.cons zU (.cons .bool (.cons zU .nil))))
abbrev zC:Z:=.st (.cons zI (.cons zU (.cons zD (.cons zI (.cons zI (.cons zK (.cons .bool (.cons .bool (.cons .bool (.cons zI .nil))))))))))
abbrev zS:Z:=.st (.cons zD (.cons zM (.cons .slice (.cons (.ar 64 (.int .u8)) .nil))))
abbrev la (d s m:Nat):LOp:=A1 d (.load true s (.t m))
abbrev lb (d s m:Nat):LOp:=A1 d (.load false s (.t m))
abbrev fa (d s m:Nat):LOp:=A1 d (.fadr s (.t m))
abbrev nc (d m:Nat):LOp:=A1 d (.nilc (.t m))
abbrev ak (d:Nat) (o:BinOp) (a b:Nat):LOp:=A1 d (.ari o (.t a) (.t b))
abbrev aI (d:Nat) (o:BinOp) (a:Nat) (n:Int):LOp:=A1 d (.ari o (.t a) (cI n))
abbrev ia (d s a b:Nat):LOp:=A1 d (.isl s (.t a) (.t b))
abbrev ib (d n s a b:Nat):LOp:=A1 d (.iarr n s (.t a) (.t b))
abbrev sb (s a b:Nat):LOp:=A0 (.store s (.t a) (.t b))
abbrev mg (d g:Nat) (b:Bool) (m:Nat):LOp:=A2 d g b (.mv (.t m))
abbrev ee (d m k:Nat):LOp:=A1 d (.ext (.t m) k)
abbrev aJ (d:Nat) (o:BinOp) (n:Int) (b:Nat):LOp:=A1 d (.ari o (cI n) (.t b))
abbrev Ea (d:Nat) (o:IntKind) (b:Nat):LOp:=A1 d (.conv o (.t b))
abbrev Fy (m e:Nat):LC:=.cond (.t m) (.skip) (.exit e)
abbrev mI (d:Nat) (n:Int):LOp:=A1 d (.mv (cI n))
abbrev mU (d:Nat) (n:Int):LOp:=A1 d (.mv (cU n))
abbrev aB (d n:Nat):LOp:=A1 d (.alloc (.ar n (.int .u8)))
abbrev bX (d m:Nat):LOp:=A1 d (.box (.t m))
abbrev FB (d m n:Nat):LOp:=A1 d (.pick (.t m) (.c (.bool true)) (.t n))
abbrev N6 (d m n:Nat):LOp:=A1 d (.pick (.t m) (.t n) (.c (.bool false)))
abbrev iI (d n s a:Nat) (i:Int):LOp:=A1 d (.iarr n s (.t a) (cI i))
abbrev iJ (d s a:Nat) (i:Int):LOp:=A1 d (.isl s (.t a) (cI i))
abbrev aU (d:Nat) (o:BinOp) (a:Nat) (n:Int):LOp:=A1 d (.ari o (.t a) (cU n))
abbrev aV (d:Nat) (o:BinOp) (n:Int) (b:Nat):LOp:=A1 d (.ari o (cU n) (.t b))
abbrev lN (d k m:Nat):LOp:=A1 d (.len k (.t m))
abbrev aP (d s y m n:Nat):LOp:=A1 d (.app s y (.t m) (.t n))
theorem CG (n:Nat) (a:Nat):BitVec.ofInt n (a:Int)=BitVec.ofNat n a:=by
 apply BitVec.eq_of_toNat_eq;simp
theorem YV {a b:Nat} (ha:a < 18446744073709551616) (hb:b < 18446744073709551616):IntKind.u64.wrap (((BitVec.ofInt IntKind.u64.bits (a:Int) ||| BitVec.ofInt IntKind.u64.bits (b:Int)).toNat:Nat):Int)=((a ||| b:Nat):Int):=by
 have h:a ||| b < 2 ^ 64:=Nat.or_lt_two_pow Aa Aa;rw [CG,CG,BitVec.toNat_or,BitVec.toNat_ofNat,BitVec.toNat_ofNat,Nat.mod_eq_of_lt (by simpa [IntKind.bits] using ha),Nat.mod_eq_of_lt (by simpa [IntKind.bits] using hb)];exact FE Aa
theorem RH {a b:Nat} (ha:a < 18446744073709551616) (hb:b < 18446744073709551616):IntKind.u64.wrap (((BitVec.ofInt IntKind.u64.bits (a:Int) &&& BitVec.ofInt IntKind.u64.bits (b:Int)).toNat:Nat):Int)=((a &&& b:Nat):Int):=by
 have h:a &&& b < 2 ^ 64:=Nat.lt_of_le_of_lt Nat.and_le_left Aa;rw [CG,CG,BitVec.toNat_and,BitVec.toNat_ofNat,BitVec.toNat_ofNat,Nat.mod_eq_of_lt (by simpa [IntKind.bits] using ha),Nat.mod_eq_of_lt (by simpa [IntKind.bits] using hb)];exact FE Aa
theorem R5 {a b:Nat} (ha:a < 18446744073709551616) (hb:b < 18446744073709551616):IntKind.u64.wrap (((BitVec.ofInt IntKind.u64.bits (a:Int) ^^^ BitVec.ofInt IntKind.u64.bits (b:Int)).toNat:Nat):Int)=((a ^^^ b:Nat):Int):=by
 have h:a ^^^ b < 2 ^ 64:=Nat.xor_lt_two_pow Aa Aa;rw [CG,CG,BitVec.toNat_xor,BitVec.toNat_ofNat,BitVec.toNat_ofNat,Nat.mod_eq_of_lt (by simpa [IntKind.bits] using ha),Nat.mod_eq_of_lt (by simpa [IntKind.bits] using hb)];exact FE Aa
theorem Ads {a:Nat} (ha:a < 18446744073709551616):IntKind.u64.wrap (((BitVec.ofInt IntKind.u64.bits (if IntKind.u64.signed=true then -1 else IntKind.u64.max) ^^^ BitVec.ofInt IntKind.u64.bits (a:Int)).toNat:Nat):Int)=((18446744073709551615 ^^^ a:Nat):Int):=by
 have e1:(if IntKind.u64.signed=true then (-1:Int) else IntKind.u64.max)=((18446744073709551615:Nat):Int):=DA;rw [e1,R5 Aa ha]
theorem Abg {a k:Nat} (hk:k < 64):IntKind.u64.wrap ((a:Int) * 2 ^ min (k:Int).toNat IntKind.u64.bits)=((a <<< k % 18446744073709551616:Nat):Int):=by
 have e1:min (k:Int).toNat IntKind.u64.bits=k:=by simp only [IntKind.bits];omega
 rw [e1,DW,Nat.shiftLeft_eq,Int.natCast_emod,Int.natCast_mul,Int.natCast_pow];rfl
theorem Ade {a k:Nat} (hk:k≤64):(a:Int).fdiv (2 ^ min (k:Int).toNat IntKind.u64.bits)=((a >>> k:Nat):Int):=by
 have e1:min (k:Int).toNat IntKind.u64.bits=k:=by simp only [IntKind.bits];omega
 rw [e1,Int.fdiv_eq_ediv_of_nonneg _ (Int.pow_nonneg Aa),Nat.shiftRight_eq_div_pow,Int.natCast_ediv,Int.natCast_pow];rfl
def Vx (x k:Nat):Nat:=(x <<< k % 18446744073709551616) ||| (x >>> (64 - k))
theorem Adl {x k:Nat} (hx:x < 18446744073709551616):Vx x k < 18446744073709551616:=by
 have h1:x <<< k % 18446744073709551616 < 2 ^ 64:=Nat.mod_lt _ Aa;have h2:x >>> (64 - k) < 2 ^ 64:=by
  rw [Nat.shiftRight_eq_div_pow];exact Nat.lt_of_le_of_lt (Nat.div_le_self _ _) Aa
 exact Nat.or_lt_two_pow h1 h2
theorem Kf (A:List V) (v:V):put A none v=A:=rfl
theorem Qf (A:List V) (d:Option Nat) (v:V):(put A d v).length=A.length:=by cases d <;> simp [put]
theorem Wn {A:List V} {i:Nat} {v:V} (h:i < A.length):(put A (some i) v).getD i .junk=v:=by simp [put,List.getD,h]
theorem Aje {A:List V} {i t:Nat} {v:V} (h:i ≠ t):(put A (some i) v).getD t .junk=A.getD t .junk:=by simp [put,List.getD,List.getElem?_set_ne h]
def fr (n:Nat):List (Nat × V)→List V
 | []=>List.replicate n .junk
 | (t,v) :: r=>put (fr n r) (some t) v
theorem BS (n:Nat):∀ l,(fr n l).length=n
 | []=>by simp [fr]
 | (t,v) :: r=>by simp [fr,Qf,BS n r]
theorem Ih (n t:Nat):(fr n []).getD t .junk = .junk:=by
 simp only [fr,List.getD,List.getElem?_replicate];split <;> rfl
theorem Fj {n t:Nat} {v:V} {r:List (Nat × V)} (h:t < n):(fr n ((t,v) :: r)).getD t .junk=v:=Wn (by rw [BS];exact h)
theorem Kq {n t i:Nat} {v:V} {r:List (Nat × V)} (h:i ≠ t):(fr n ((i,v) :: r)).getD t .junk=(fr n r).getD t .junk:=Aje h
theorem QC (n t:Nat) (v:V) (r:List (Nat × V)):put (fr n r) (some t) v=fr n ((t,v) :: r):=rfl
def num:Nat→List V→List (Nat × V)→List (Nat × V)
 | _,[],acc=>acc
 | i,u :: r,acc=>num (i + 1) r ((i,u) :: acc)
def La0:=(aq9 (Dm @BEq.rfl.{0} @Int.cast_ofNat_Int @LK.isA.eq_1 @LK.isA.eq_2 @LK.isA.eq_3 @LK.isA.eq_4 @LK.isA.eq_5 @LK.isA.eq_6 @LK.isA.eq_7 @b6 @LK.isP.eq_2 @LK.isP.eq_3 @LK.isP.eq_4 @LK.isP.eq_5 @LK.isP.eq_6) (DC @LK.isP.eq_7 @LK.isP.eq_8 @LK.isP.eq_9 @LK.isP.eq_10 @LK.isP.eq_11 @LK.isP.eq_12 @LK.isP.eq_13 @LK.isP.eq_14 @LK.isP.eq_15 @LK.isW.eq_1 @LK.isW.eq_2 @LK.isW.eq_3 @LK.isW.eq_4 @LK.isW.eq_5 @LK.isW.eq_6 @LK.isW.eq_7) (DC @LK.isW.eq_8 @List.cons_append.{0} @List.filter_cons.{0} @List.filter_nil.{0} @List.length_cons.{0} @List.length_nil.{0} (@List.map_cons.{0,0}) (@List.map_nil.{0,0}) @List.nil_append.{0} @hx.eq_1 @d9 @f5 @f6 @f7 @V.fset.eq_1 @V.fset.eq_2) (Dm @f9 @j0 @j3 @j4 @j5 @j6 @j7 @j8 @j9 @k6 @V.set.eq_1 @V.set.eq_2 @V.set.eq_3 @V.set.eq_4 @X.ev.eq_1) (DC @X.ev.eq_2 @X.ev.eq_3 @X.ev.eq_4 @Z.sz.eq_1 @Z.sz.eq_2 @Z.sz.eq_3 @Z.sz.eq_4 @Z.sz.eq_5 @c4 @Z.v.eq_2 @Z.v.eq_3 @Z.v.eq_4 @Z.v.eq_5 @Z.v.eq_6 @Z.v.eq_7 @Z.v.eq_8) (DC @Z.v.eq_9 @Z.v.eq_10 @Z.v.eq_11 @Z.v.eq_12 @bs.eq_1 @cond_false.{1} @cond_true.{1} @Ca.eq_1 @Ca.eq_2 @Ca.eq_3 @Cv.eq_1 @Cv.eq_2 @Cv.eq_3 @Cv.eq_4 @B4.eq_1 @B4.eq_2) (Dm @Vy.eq_1 @Vy.eq_2 @Gg.eq_1 @Gg.eq_2 @forall_const.{0} @forall_const.{1} @CT.eq_1 @CT.eq_2 @c7 @c8 @c9 @d7 @BC.eq_1 @BC.eq_2 @Dq.eq_1) (DC @Dq.eq_2 @if_false.{1} @if_true.{1} @NW.eq_1 @NW.eq_2 @ite_false.{1} @ite_true.{1} @ne_eq.{1} @H2.eq_1 @H2.eq_2 @H2.eq_3 @num.eq_1 @num.eq_2 @B1.eq_1 @B1.eq_2 @CQ.eq_1) (DC @CQ.eq_2 @CQ.eq_3 @BY.eq_1 @BY.eq_2 @Bu.eq_1 @Bu.eq_2 @DN.eq_1 @DN.eq_2 @C5.eq_1 @C5.eq_2 @AC.eq_1 @AC.eq_2 @Gd.eq_1 @Gd.eq_2 @GD.eq_1 @GD.eq_2))
theorem XO (n:Nat):∀ (us:List V) (i:Nat) (acc:List (Nat × V)) (pre:List V),pre.length=i→fr n acc=pre ++ List.replicate (n - i) .junk→i + us.length≤n→fr n (num i us acc)=pre ++ us ++ List.replicate (n - i - us.length) .junk
 | [],i,acc,pre,_,h,_=>by simpa [num] using h
 | u :: r, i, acc, pre, hp, h, hl => by
   simp only [List.length_cons] at hl;have h2:fr n ((i,u) :: acc)=(pre ++ [u]) ++ List.replicate (n - (i + 1)) .junk:=by
    simp only [fr,put,h];have e1:n - i=(n - (i + 1)) + 1:=Aa;rw [e1,List.replicate_succ];apply List.ext_getElem?;intro k;by_cases hk:k=i
    ·subst hk;rw [List.getElem?_set_self (by simp [hp])];rw [List.getElem?_append_left (by simp [hp])];rw [List.getElem?_append_right Aa];simp [hp]
    ·rw [List.getElem?_set_ne (Ne.symm hk)];by_cases hk2:k < i
     ·rw [List.getElem?_append_left Aa,List.getElem?_append_left F6,List.getElem?_append_left Aa]
     ·rw [List.getElem?_append_right Aa,List.getElem?_append_right F6];have e2:k - pre.length=(k - (pre ++ [u]).length) + 1:=F6;rw [e2,List.getElem?_cons_succ]
   have:=XO n r (i + 1) ((i,u) :: acc) (pre ++ [u]) (by simp [hp]) h2 Aa;simp only [num];rw [this];have e3:n - (i + 1) - r.length=n - i - (u :: r).length:=F6;rw [e3];simp
theorem Vj {us:List V} {n:Nat} (h:us.length≤n):Hb us n=fr n (num 0 us []):=by
 rw [XO n us 0 [] [] rfl (by simp [fr]) Aa];simp [Hb]
theorem Ac {M:Seat} {f:Nat} {lf:LF} {us:List V} {H:Hp} {k:Nat} {Q:V→Hp→Nat→Prop} (hf:Ar M f lf=true) (hn:decide (us.length≤lf.nt)=true)
 (h:∀ x:Ctx,x.k=k→F8 M x (Ay M x lf.rs Q) [.code lf.c] k (fr lf.nt (num 0 us [])) H):As M f us H k Q:=by
 refine TY hf fun x hx=>?_;rw [Vj (of_decide_eq_true hn)];exact h x hx
def Ls (H:Hp) (m z:List Nat) (A:List V):List (Nat × V)→Prop
 | []=>True
 | (t,v) :: r=>B5 H m z v (A.getD t .junk)∧Ls H m z A r
def La4:=(aq4 (KT @List.getElem?_cons_succ.{0} @List.getElem?_cons_zero.{0} @List.getElem?_nil.{0} @Option.some.injEq.{0} @a7 @a8 @a9 @d8 @Aw.eq_5 @Aw.eq_6 @Aw.eq_7 @Aw.eq_8 @Aw.eq_9) (KT @Aw.eq_10 @Aw.eq_11 @Aw.eq_12 @Aw.eq_13 @Aw.eq_14 @Aw.eq_15 @Aw.eq_16 @Aw.eq_17 @Aw.eq_18 @Aw.eq_19 @Aw.eq_20 @Aw.eq_21 @Aw.eq_22) (KT @Aw.eq_23 @Aw.eq_24 @Aw.eq_25 @Aw.eq_26 @Aw.eq_27 @Aw.eq_28 @Aw.eq_29 @Aw.eq_30 @Aw.eq_31 @Aw.eq_32 @Aw.eq_33 @Aw.eq_34 @Aw.eq_35) (KT @Aw.eq_36 @Aw.eq_37 @Aw.eq_38 @Aw.eq_39 @Aw.eq_40 @Bh.eq_1 @Bh.eq_2 @Bh.eq_3 @B3.eq_1 @B3.eq_2 @Ls.eq_1 @Ls.eq_2 @TG.eq_1))
theorem Nq {H:Hp} {m z:List Nat}:∀ {A B:List V},A.length=B.length→(∀ t,B5 H m z (A.getD t .junk) (B.getD t .junk))→Bh H m z A B
 | [],[],_,_=>trivial
 | _ :: _,_ :: _,hl,h=>⟨by simpa using h 0,Nq OG (fun t=>by simpa using h (t + 1))⟩
 | [],_ :: _,hl,_=>by simp at hl
 | _ :: _,[],hl,_=>by simp at hl
theorem KJ {H:Hp} {m z:List Nat} {A:List V} {n:Nat}:∀ {l:List (Nat × V)},Ls H m z A l→∀ t,t < n→B5 H m z ((fr n l).getD t .junk) (A.getD t .junk)
 | [],_,t,_=>by rw [Ih];trivial
 | (i, v) :: r, h, t, ht => by
   by_cases hit:i=t
   ·subst hit;rw [Fj ht];exact h.1
   ·rw [Kq hit];exact KJ h.2 t ht
theorem Av.fr {M:Seat} {c:Ctx} {A:List V} {H:Hp} {N n:Nat} (m z:List Nat) {k:Nat} (hck:c.k=k) {l:List (Nat × V)} {H':Hp} {N':Nat} (hlen:A.length=n)
 (hm:(decide m.Nodup && z.all (fun i=>!m.contains i) && decide (m.length≤N') && decide (k≤N') && (List.range k).all (fun j=>m[j]? == some j))=true)
 (hA:Ls H m z A l) (hH:B3 H m z H'):Av M c A H N (Mv.fr n l) H' N':=by
 refine Av.at m z hck hm (Nq (by rw [BS,hlen]) (fun t=>?_)) hH;by_cases ht:t < n
 ·exact KJ hA t ht
 ·have:(Mv.fr n l).getD t .junk = .junk:=by rw [List.getD_eq_getElem?_getD,List.getElem?_eq_none (by rw [BS];omega)];rfl
  rw [this];trivial
def W (w:BitVec 64):V:=.int .u64 (w.toNat:Int)
def Lcd:=(BK @Int.toNat_natCast @W.eq_1)
def B (b:BitVec 8):V:=.int .u8 (b.toNat:Int)
theorem O5 (w:BitVec 64):w.toNat < 18446744073709551616:=w.isLt
theorem Kn (a b:BitVec 64) (H:Hp):AT .xor (W a) (W b) H=⟨True,W (a ^^^ b),H⟩:=by
 have h:=R5 (O5 a) (O5 b);simp only [AT,W];rw [h,BitVec.toNat_xor]
theorem Kc (a b:BitVec 64) (H:Hp):AT .and (W a) (W b) H=⟨True,W (a &&& b),H⟩:=by
 have h:=RH (O5 a) (O5 b);simp only [AT,W];rw [h,BitVec.toNat_and]
theorem Nw (a b:BitVec 64) (H:Hp):AT .or (W a) (W b) H=⟨True,W (a ||| b),H⟩:=by
 have h:=YV (O5 a) (O5 b);simp only [AT,W];rw [h,BitVec.toNat_or]
theorem M8 (a:BitVec 64) (H:Hp):V8 .xor (W a) H=⟨True,W (~~~a),H⟩:=by
 have h:(18446744073709551615 ^^^ a.toNat:Nat)=(~~~a).toNat:=by
  have h2:BitVec.allOnes 64 ^^^ a = ~~~a:=BitVec.allOnes_xor;rw [← h2,BitVec.toNat_xor];rfl
 have h3:=Ads (O5 a);simp only [V8,W];rw [h3,h]
def rot (x:BitVec 64) (k:Nat):BitVec 64:=x <<< k ||| x >>> (64 - k)
theorem ZE (x:BitVec 64) (k:Nat):Vx x.toNat k=(rot x k).toNat:=by
 simp only [Vx,rot,BitVec.toNat_or,BitVec.toNat_shiftLeft,BitVec.toNat_ushiftRight]
def ws (s:List (BitVec 64)):Nat→V:=fun j=>W (s.getD j 0)
def bys (s:List (BitVec 8)):Nat→V:=fun j=>B (s.getD j 0)
theorem OJ (s:List (BitVec 64)) (j:Nat):ws s j=W (s.getD j 0):=rfl
theorem JX (s:List (BitVec 8)) (j:Nat):bys s j=B (s.getD j 0):=rfl
theorem Jf (w:BitVec 64):(W w).solid=true:=rfl
theorem Q6 (w:BitVec 64):(W w).size=1:=rfl
theorem YH (w:BitVec 64):(W w).isAgg=false:=rfl
theorem Jw (w:BitVec 8):(B w).solid=true:=rfl
theorem QX (w:BitVec 8):(B w).size=1:=rfl
theorem Yx (w:BitVec 8):(B w).isAgg=false:=rfl
theorem Aft (H:Hp) (m z:List Nat) (a b:BitVec 64):Aw H m z (W a) (W b) ↔ b=a:=by
 simp only [Aw,W,V.int.injEq,true_and];constructor
 ·intro h;exact BitVec.eq_of_toNat_eq Aa
 ·rintro rfl;rfl
theorem RP (H:Hp) (m z:List Nat) (a b:BitVec 8):Aw H m z (B a) (B b) ↔ b=a:=by
 simp only [Aw,B,V.int.injEq,true_and];constructor
 ·intro h;exact BitVec.eq_of_toNat_eq Aa
 ·rintro rfl;rfl
theorem R4 {p:Prop} [Decidable p] (a b:BitVec 64):(if p then W a else W b)=W (if p then a else b):=by split <;> rfl
theorem Lz {p:Prop} [Decidable p] (a b:BitVec 8):(if p then B a else B b)=B (if p then a else b):=by split <;> rfl
theorem Md (H:Hp) (m z:List Nat) (u:V):B5 H m z .junk u=True:=rfl
theorem Pn (H:Hp) (m z:List Nat) (k:IntKind) (n:Int) (u:V):B5 H m z (V.int k n) u=Aw H m z (V.int k n) u:=rfl
theorem LL (H:Hp) (m z:List Nat) (b:Bool) (u:V):B5 H m z (V.bool b) u=Aw H m z (V.bool b) u:=rfl
theorem OM (H:Hp) (m z:List Nat) (s:ByteArray) (u:V):B5 H m z (V.str s) u=Aw H m z (V.str s) u:=rfl
theorem Mi (H:Hp) (m z:List Nat) (u:V):B5 H m z V.nilp u=Aw H m z V.nilp u:=rfl
theorem Ok (H:Hp) (m z:List Nat) (i:Nat) (p:List Stp) (u:V):B5 H m z (V.ptr i p) u=Aw H m z (V.ptr i p) u:=rfl
theorem OI (H:Hp) (m z:List Nat) (v:V) (u:V):B5 H m z (V.imm v) u=Aw H m z (V.imm v) u:=rfl
theorem LW (H:Hp) (m z:List Nat) (u:V):B5 H m z V.nils u=Aw H m z V.nils u:=rfl
theorem Sn (H:Hp) (m z:List Nat) (i:Nat) (p:List Stp) (o n sz:Nat) (u:V):B5 H m z (V.sl i p o n sz) u=Aw H m z (V.sl i p o n sz) u:=rfl
theorem OV (H:Hp) (m z:List Nat) (sz n:Nat) (f:Nat→V) (u:V):B5 H m z (V.lst sz n f) u=Aw H m z (V.lst sz n f) u:=rfl
theorem M3 (H:Hp) (m z:List Nat) (u:V):B5 H m z V.nilm u=Aw H m z V.nilm u:=rfl
theorem P3 (H:Hp) (m z:List Nat) (i:Nat) (u:V):B5 H m z (V.map i) u=Aw H m z (V.map i) u:=rfl
theorem L7 (H:Hp) (m z:List Nat) (u:V):B5 H m z V.nilf u=Aw H m z V.nilf u:=rfl
theorem Tc (H:Hp) (m z:List Nat) (f:Nat) (c:V) (u:V):B5 H m z (V.fn f c) u=Aw H m z (V.fn f c) u:=rfl
theorem Mk (H:Hp) (m z:List Nat) (u:V):B5 H m z V.nili u=Aw H m z V.nili u:=rfl
theorem OP (H:Hp) (m z:List Nat) (t:Nat) (v:V) (u:V):B5 H m z (V.ifc t v) u=Aw H m z (V.ifc t v) u:=rfl
theorem SJ (H:Hp) (m z:List Nat) (n:Nat) (fs:V) (u:V):B5 H m z (V.st n fs) u=Aw H m z (V.st n fs) u:=rfl
theorem R9 (H:Hp) (m z:List Nat) (sz n:Nat) (f:Nat→V) (u:V):B5 H m z (V.ar sz n f) u=Aw H m z (V.ar sz n f) u:=rfl
theorem Pf (H:Hp) (m z:List Nat) (fs:V) (u:V):B5 H m z (V.tup fs) u=Aw H m z (V.tup fs) u:=rfl
theorem Yq (H:Hp) (m z:List Nat) (a:BitVec 64) (u:V):B5 H m z (W a) u=Aw H m z (W a) u:=rfl
theorem VY (H:Hp) (m z:List Nat) (a:BitVec 8) (u:V):B5 H m z (B a) u=Aw H m z (B a) u:=rfl
theorem Ao7 (m:List Nat) (a:BitVec 64):(W a).ren m=W a:=rfl
theorem An9 (m:List Nat) (a:BitVec 8):(B a).ren m=B a:=rfl
theorem Ahe (m:List Nat) (s:List (BitVec 64)) (j:Nat):(ws s j).ren m=ws s j:=rfl
theorem BT {M:Seat} {f:Nat} {us us0:List V} {H:Hp} {n:Nat} {K:V→Hp→Prop} {v:V} (hr:As M f us0 [] 0 (Q3 v [] 0)) (hus:Bh H [] [] us0 us) (hv:v.ren (Bo [] n 0)=v) (hK:K v H):Bk M f us H n K:=by
 refine EE hr False [] [] List.nodup_nil BF rfl BF hus trivial ?_;rintro v' H' k' ⟨rfl,rfl,rfl⟩;refine ⟨⟨by omega,fun h=>h.elim⟩,?_⟩;rw [hv];simpa [Bf,AH] using hK
theorem Abf (m:List Nat) (s:List (BitVec 8)) (j:Nat):(bys s j).ren m=bys s j:=rfl
theorem XB (k:IntKind) (a b:Int) (H:Hp):AT .add (.int k a) (.int k b) H=⟨True,.int k (k.wrap (a + b)),H⟩:=HQ
theorem Z2 (k:IntKind) (a b:Int) (H:Hp):AT .sub (.int k a) (.int k b) H=⟨True,.int k (k.wrap (a - b)),H⟩:=HQ
theorem Y0 (k:IntKind) (a b:Int) (H:Hp):AT .mul (.int k a) (.int k b) H=⟨True,.int k (k.wrap (a * b)),H⟩:=HQ
theorem WX (k:IntKind) (a b:Int) (H:Hp):AT .quo (.int k a) (.int k b) H=⟨b ≠ 0,.int k (k.wrap (a.tdiv b)),H⟩:=HQ
theorem Z8 (k:IntKind) (a b:Int) (H:Hp):AT .rem (.int k a) (.int k b) H=⟨b ≠ 0,.int k (a.tmod b),H⟩:=HQ
theorem Z3 (k k':IntKind) (a b:Int) (H:Hp):AT .shl (.int k a) (.int k' b) H=⟨0≤b,.int k (k.wrap (a * 2 ^ min b.toNat k.bits)),H⟩:=rfl
theorem Wq (k k':IntKind) (a b:Int) (H:Hp):AT .shr (.int k a) (.int k' b) H=⟨0≤b,.int k (a.fdiv (2 ^ min b.toNat k.bits)),H⟩:=rfl
theorem WM (k:IntKind) (a b:Int) (H:Hp):AT .lss (.int k a) (.int k b) H=⟨True,.bool (decide (a < b)),H⟩:=HQ
theorem W7 (k:IntKind) (a b:Int) (H:Hp):AT .leq (.int k a) (.int k b) H=⟨True,.bool (decide (a≤b)),H⟩:=HQ
theorem VH (k:IntKind) (a b:Int) (H:Hp):AT .gtr (.int k a) (.int k b) H=⟨True,.bool (decide (b < a)),H⟩:=HQ
theorem ZF (k:IntKind) (a b:Int) (H:Hp):AT .geq (.int k a) (.int k b) H=⟨True,.bool (decide (b≤a)),H⟩:=HQ
theorem Zb (k:IntKind) (a b:Int) (H:Hp):AT .eql (.int k a) (.int k b) H=⟨True,.bool (decide (a=b)),H⟩:=HQ
theorem VP (k:IntKind) (a b:Int) (H:Hp):AT .neq (.int k a) (.int k b) H=⟨True,.bool (!decide (a=b)),H⟩:=HQ
theorem Afu (k:IntKind) (a b:Int) (H:Hp):AT .and (.int k a) (.int k b) H=⟨True,.int k (k.wrap ((BitVec.ofInt k.bits a &&& BitVec.ofInt k.bits b).toNat)),H⟩:=HQ
theorem Anz (k:IntKind) (a b:Int) (H:Hp):AT .or (.int k a) (.int k b) H=⟨True,.int k (k.wrap ((BitVec.ofInt k.bits a ||| BitVec.ofInt k.bits b).toNat)),H⟩:=HQ
theorem Afp (k:IntKind) (a b:Int) (H:Hp):AT .xor (.int k a) (.int k b) H=⟨True,.int k (k.wrap ((BitVec.ofInt k.bits a ^^^ BitVec.ofInt k.bits b).toNat)),H⟩:=HQ
theorem Xd (b:Bool) (H:Hp):V8 .not (.bool b) H=⟨True,.bool (!b),H⟩:=rfl
end Mv
