/- A part. -/
import Derived.Test.YtpcgkiecjakknaaGreatDoorEL
set_option linter.all false
set_option maxRecDepth 10000
namespace Mv
open Go
theorem BN (n:Nat) (a:Nat):BitVec.ofInt n (a:Int)=BitVec.ofNat n a:=by
 apply BitVec.eq_of_toNat_eq
 simp
theorem U2 {a b:Nat} (ha:a < 18446744073709551616) (hb:b < 18446744073709551616):IntKind.u64.wrap (((BitVec.ofInt IntKind.u64.bits (a:Int) ||| BitVec.ofInt IntKind.u64.bits (b:Int)).toNat:Nat):Int)=((a ||| b:Nat):Int):=by
 have h:a ||| b < 2 ^ 64:=Nat.or_lt_two_pow Aa Aa
 rw [BN,BN,BitVec.toNat_or,BitVec.toNat_ofNat,BitVec.toNat_ofNat,Nat.mod_eq_of_lt (by simpa [IntKind.bits] using ha),Nat.mod_eq_of_lt (by simpa [IntKind.bits] using hb)]
 exact EX Aa
theorem QV {a b:Nat} (ha:a < 18446744073709551616) (hb:b < 18446744073709551616):IntKind.u64.wrap (((BitVec.ofInt IntKind.u64.bits (a:Int) &&& BitVec.ofInt IntKind.u64.bits (b:Int)).toNat:Nat):Int)=((a &&& b:Nat):Int):=by
 have h:a &&& b < 2 ^ 64:=Nat.lt_of_le_of_lt Nat.and_le_left Aa
 rw [BN,BN,BitVec.toNat_and,BitVec.toNat_ofNat,BitVec.toNat_ofNat,Nat.mod_eq_of_lt (by simpa [IntKind.bits] using ha),Nat.mod_eq_of_lt (by simpa [IntKind.bits] using hb)]
 exact EX Aa
theorem QO {a b:Nat} (ha:a < 18446744073709551616) (hb:b < 18446744073709551616):IntKind.u64.wrap (((BitVec.ofInt IntKind.u64.bits (a:Int) ^^^ BitVec.ofInt IntKind.u64.bits (b:Int)).toNat:Nat):Int)=((a ^^^ b:Nat):Int):=by
 have h:a ^^^ b < 2 ^ 64:=Nat.xor_lt_two_pow Aa Aa
 rw [BN,BN,BitVec.toNat_xor,BitVec.toNat_ofNat,BitVec.toNat_ofNat,Nat.mod_eq_of_lt (by simpa [IntKind.bits] using ha),Nat.mod_eq_of_lt (by simpa [IntKind.bits] using hb)]
 exact EX Aa
theorem Yo {a:Nat} (ha:a < 18446744073709551616):IntKind.u64.wrap (((BitVec.ofInt IntKind.u64.bits (if IntKind.u64.signed=true then -1 else IntKind.u64.max) ^^^ BitVec.ofInt IntKind.u64.bits (a:Int)).toNat:Nat):Int)=((18446744073709551615 ^^^ a:Nat):Int):=by
 have e1:(if IntKind.u64.signed=true then (-1:Int) else IntKind.u64.max)=((18446744073709551615:Nat):Int):=B4
 rw [e1,QO Aa ha]
theorem WL {a k:Nat} (hk:k < 64):IntKind.u64.wrap ((a:Int) * 2 ^ min (k:Int).toNat IntKind.u64.bits)=((a <<< k % 18446744073709551616:Nat):Int):=by
 have e1:min (k:Int).toNat IntKind.u64.bits=k:=by simp only [IntKind.bits];omega
 rw [e1,Dx,Nat.shiftLeft_eq,Int.natCast_emod,Int.natCast_mul,Int.natCast_pow]
 rfl
theorem Y9 {a k:Nat} (hk:k≤64):(a:Int).fdiv (2 ^ min (k:Int).toNat IntKind.u64.bits)=((a >>> k:Nat):Int):=by
 have e1:min (k:Int).toNat IntKind.u64.bits=k:=by simp only [IntKind.bits];omega
 rw [e1,Int.fdiv_eq_ediv_of_nonneg _ (Int.pow_nonneg Aa),Nat.shiftRight_eq_div_pow,Int.natCast_ediv,Int.natCast_pow]
 rfl
def Rz (x k:Nat):Nat:=(x <<< k % 18446744073709551616) ||| (x >>> (64 - k))
theorem Xt {x k:Nat} (hx:x < 18446744073709551616):Rz x k < 18446744073709551616:=by
 have h1:x <<< k % 18446744073709551616 < 2 ^ 64:=Nat.mod_lt _ Aa
 have h2:x >>> (64 - k) < 2 ^ 64:=by
  rw [Nat.shiftRight_eq_div_pow]
  exact Nat.lt_of_le_of_lt (Nat.div_le_self _ _) Aa
 exact Nat.or_lt_two_pow h1 h2
theorem JA (A:List V) (v:V):put A none v=A:=rfl
theorem PN (A:List V) (d:Option Nat) (v:V):(put A d v).length=A.length:=by cases d <;> simp [put]
theorem U6 {A:List V} {i:Nat} {v:V} (h:i < A.length):(put A (some i) v).getD i .junk=v:=by simp [put,List.getD,h]
theorem Aa0 {A:List V} {i t:Nat} {v:V} (h:i ≠ t):(put A (some i) v).getD t .junk=A.getD t .junk:=by simp [put,List.getD,List.getElem?_set_ne h]
def fr (n:Nat):List (Nat × V)→List V
 | []=>List.replicate n .junk
 | (t,v) :: r=>put (fr n r) (some t) v
theorem BL (n:Nat):∀ l,(fr n l).length=n
 | []=>by simp [fr]
 | (t,v) :: r=>by simp [fr,PN,BL n r]
theorem Hr (n t:Nat):(fr n []).getD t .junk = .junk:=by
 simp only [fr,List.getD,List.getElem?_replicate]
 split <;> rfl
theorem Ed {n t:Nat} {v:V} {r:List (Nat × V)} (h:t < n):(fr n ((t,v) :: r)).getD t .junk=v:=U6 (by rw [BL];exact h)
theorem JE {n t i:Nat} {v:V} {r:List (Nat × V)} (h:i ≠ t):(fr n ((i,v) :: r)).getD t .junk=(fr n r).getD t .junk:=Aa0 h
theorem PT (n t:Nat) (v:V) (r:List (Nat × V)):put (fr n r) (some t) v=fr n ((t,v) :: r):=rfl
def Wu:Nat→List V→List (Nat × V)→List (Nat × V)
 | _,[],acc=>acc
 | i,u :: r,acc=>Wu (i + 1) r ((i,u) :: acc)
def La0:=(SN (CA @BEq.rfl.{0} @Int.cast_ofNat_Int @LK.isA.eq_1 @LK.isA.eq_2 @LK.isA.eq_3 @LK.isA.eq_4 @LK.isA.eq_5 @LK.isA.eq_6 @LK.isA.eq_7 @LK.isP.eq_1 @LK.isP.eq_2 @LK.isP.eq_3 @LK.isP.eq_4 @LK.isP.eq_5 @LK.isP.eq_6) (CA @LK.isP.eq_7 @LK.isP.eq_8 @LK.isP.eq_9 @LK.isP.eq_10 @LK.isP.eq_11 @LK.isW.eq_1 @LK.isW.eq_2 @LK.isW.eq_3 @LK.isW.eq_4 @LK.isW.eq_5 @LK.isW.eq_6 @LK.isW.eq_7 @List.cons_append.{0} @List.filter_cons.{0} @List.filter_nil.{0}) (CA @List.length_cons.{0} @List.length_nil.{0} (@List.map_cons.{0,0}) (@List.map_nil.{0,0}) @List.nil_append.{0} @hx.eq_1 @V.fget.eq_1 @V.fget.eq_2 @V.fhas.eq_1 @V.fhas.eq_2 @V.fset.eq_1 @V.fset.eq_2 @V.get.eq_1 @V.get.eq_2 @V.get.eq_3) (CA @V.get.eq_4 @V.get.eq_5 @V.ok.eq_1 @V.ok.eq_2 @V.ok.eq_3 @V.ok.eq_4 @V.ok.eq_5 @V.set.eq_1 @V.set.eq_2 @V.set.eq_3 @V.set.eq_4 @X.ev.eq_1 @X.ev.eq_2 @X.ev.eq_3 @X.ev.eq_4) (CA @Z.sz.eq_1 @Z.sz.eq_2 @Z.sz.eq_3 @Z.sz.eq_4 @Z.sz.eq_5 @Z.v.eq_1 @Z.v.eq_2 @Z.v.eq_3 @Z.v.eq_4 @Z.v.eq_5 @Z.v.eq_6 @Z.v.eq_7 @Z.v.eq_8 @Z.v.eq_9 @Z.v.eq_10) (CA @Z.v.eq_11 @Z.v.eq_12 @bs.eq_1 @cond_false.{1} @cond_true.{1} @BQ.eq_1 @BQ.eq_2 @BQ.eq_3 @Cv.eq_1 @Cv.eq_2 @Cv.eq_3 @Cv.eq_4 @B8.eq_1 @B8.eq_2 @SV.eq_1) (CA @SV.eq_2 @ET.eq_1 @ET.eq_2 @forall_const.{0} @forall_const.{1} @BS.eq_1 @BS.eq_2 @hget.eq_1 @hget.eq_2 @Af.eq_1 @Af.eq_2 @BU.eq_1 @BU.eq_2 @CX.eq_1 @CX.eq_2) (CA @if_false.{1} @if_true.{1} @Nj.eq_1 @Nj.eq_2 @ite_false.{1} @ite_true.{1} @ne_eq.{1} @Gx.eq_1 @Gx.eq_2 @Gx.eq_3 @Wu.eq_1 @Wu.eq_2 @B1.eq_1 @B1.eq_2 @C0.eq_1) (Hq @C0.eq_2 @C0.eq_3 @BP.eq_1 @BP.eq_2 @Bv.eq_1 @Bv.eq_2 @Dl.eq_1 @Dl.eq_2 @Cp.eq_1 @Cp.eq_2 @A8.eq_1 @A8.eq_2 @EV.eq_1 @EV.eq_2 @F5.eq_1 @F5.eq_2))
theorem Tj (n:Nat):∀ (us:List V) (i:Nat) (acc:List (Nat × V)) (pre:List V),pre.length=i→fr n acc=pre ++ List.replicate (n - i) .junk→i + us.length≤n→fr n (Wu i us acc)=pre ++ us ++ List.replicate (n - i - us.length) .junk
 | [],i,acc,pre,_,h,_=>by simpa [Wu] using h
 | u :: r, i, acc, pre, hp, h, hl => by
   simp only [List.length_cons] at hl
   have h2:fr n ((i,u) :: acc)=(pre ++ [u]) ++ List.replicate (n - (i + 1)) .junk:=by
    simp only [fr,put,h]
    have e1:n - i=(n - (i + 1)) + 1:=Aa
    rw [e1,List.replicate_succ]
    apply List.ext_getElem?
    intro k
    by_cases hk:k=i
    ·subst hk
     rw [List.getElem?_set_self (by simp [hp])]
     rw [List.getElem?_append_left (by simp [hp])]
     rw [List.getElem?_append_right Aa]
     simp [hp]
    ·rw [List.getElem?_set_ne (Ne.symm hk)]
     by_cases hk2:k < i
     ·rw [List.getElem?_append_left Aa,List.getElem?_append_left DI,List.getElem?_append_left Aa]
     ·rw [List.getElem?_append_right Aa,List.getElem?_append_right DI]
      have e2:k - pre.length=(k - (pre ++ [u]).length) + 1:=DI
      rw [e2,List.getElem?_cons_succ]
   have:=Tj n r (i + 1) ((i,u) :: acc) (pre ++ [u]) (by simp [hp]) h2 Aa
   simp only [Wu]
   rw [this]
   have e3:n - (i + 1) - r.length=n - i - (u :: r).length:=DI
   rw [e3]
   simp
theorem Sy {us:List V} {n:Nat} (h:us.length≤n):FG us n=fr n (Wu 0 us []):=by
 rw [Tj n us 0 [] [] rfl (by simp [fr]) Aa]
 simp [FG]
theorem Ab {M:Seat} {f:Nat} {lf:LF} {us:List V} {H:Hp} {k:Nat} {Q:V→Hp→Nat→Prop} (hf:Au M f lf=true) (hn:decide (us.length≤lf.nt)=true)
 (h:∀ x:Ctx,x.k=k→Bm M x (Ar M x lf.rs Q) [.code lf.c] k (fr lf.nt (Wu 0 us [])) H):Ag M f us H k Q:=by
 refine R2 hf fun x hx=>?_
 rw [Sy (of_decide_eq_true hn)]
 exact h x hx
def Kj (H:Hp) (m z:List Nat) (A:List V):List (Nat × V)→Prop
 | []=>True
 | (t,v) :: r=>Bi H m z v (A.getD t .junk)∧Kj H m z A r
def La4:=(Ka (FU @List.getElem?_cons_succ.{0} @List.getElem?_cons_zero.{0} @List.getElem?_nil.{0} @Option.some.injEq.{0} @Az.eq_1 @Az.eq_2 @Az.eq_3 @Az.eq_4 @Az.eq_5 @Az.eq_6 @Az.eq_7 @Az.eq_8) (FU @Az.eq_9 @Az.eq_10 @Az.eq_11 @Az.eq_12 @Az.eq_13 @Az.eq_14 @Az.eq_15 @Az.eq_16 @Az.eq_17 @Az.eq_18 @Az.eq_19 @Az.eq_20) (FU @Az.eq_21 @Az.eq_22 @Az.eq_23 @Az.eq_24 @Az.eq_25 @Az.eq_26 @Az.eq_27 @Az.eq_28 @Az.eq_29 @Az.eq_30 @Az.eq_31 @Az.eq_32) (Am2 @Az.eq_33 @Az.eq_34 @Az.eq_35 @Az.eq_36 @Az.eq_37 @Bd.eq_1 @Bd.eq_2 @Bd.eq_3 @Br.eq_1 @Br.eq_2 @Kj.eq_1 @Kj.eq_2 @Sj.eq_1))
theorem Mg {H:Hp} {m z:List Nat}:∀ {A B:List V},A.length=B.length→(∀ t,Bi H m z (A.getD t .junk) (B.getD t .junk))→Bd H m z A B
 | [],[],_,_=>trivial
 | _ :: _,_ :: _,hl,h=>⟨by simpa using h 0,Mg N8 (fun t=>by simpa using h (t + 1))⟩
 | [],_ :: _,hl,_=>by simp at hl
 | _ :: _,[],hl,_=>by simp at hl
theorem Js {H:Hp} {m z:List Nat} {A:List V} {n:Nat}:∀ {l:List (Nat × V)},Kj H m z A l→∀ t,t < n→Bi H m z ((fr n l).getD t .junk) (A.getD t .junk)
 | [],_,t,_=>by rw [Hr];trivial
 | (i, v) :: r, h, t, ht => by
   by_cases hit:i=t
   ·subst hit;rw [Ed ht];exact h.1
   ·rw [JE hit];exact Js h.2 t ht
theorem Ao.fr {M:Seat} {c:Ctx} {A:List V} {H:Hp} {N n:Nat} (m z:List Nat) {k:Nat} (hck:c.k=k) {l:List (Nat × V)} {H':Hp} {N':Nat} (hlen:A.length=n)
 (hm:(decide m.Nodup && z.all (fun i=>!m.contains i) && decide (m.length≤N') && decide (k≤N') && (List.range k).all (fun j=>m[j]? == some j))=true)
 (hA:Kj H m z A l) (hH:Br H m z H'):Ao M c A H N (Mv.fr n l) H' N':=by
 refine Ao.at m z hck hm (Mg (by rw [BL,hlen]) (fun t=>?_)) hH
 by_cases ht:t < n
 ·exact Js hA t ht
 ·have:(Mv.fr n l).getD t .junk = .junk:=by rw [List.getD_eq_getElem?_getD,List.getElem?_eq_none (by rw [BL];omega)];rfl
  rw [this];trivial
def W (w:BitVec 64):V:=.int .u64 (w.toNat:Int)
def Lcd:=(Bb @Int.toNat_natCast @W.eq_1)
def B (b:BitVec 8):V:=.int .u8 (b.toNat:Int)
theorem NO (w:BitVec 64):w.toNat < 18446744073709551616:=w.isLt
theorem Ix (a b:BitVec 64) (H:Hp):AP .xor (W a) (W b) H=⟨True,W (a ^^^ b),H⟩:=by
 have h:=QO (NO a) (NO b)
 simp only [AP,W]
 rw [h,BitVec.toNat_xor]
theorem II (a b:BitVec 64) (H:Hp):AP .and (W a) (W b) H=⟨True,W (a &&& b),H⟩:=by
 have h:=QV (NO a) (NO b)
 simp only [AP,W]
 rw [h,BitVec.toNat_and]
theorem Ll (a b:BitVec 64) (H:Hp):AP .or (W a) (W b) H=⟨True,W (a ||| b),H⟩:=by
 have h:=U2 (NO a) (NO b)
 simp only [AP,W]
 rw [h,BitVec.toNat_or]
theorem Mn (a:BitVec 64) (H:Hp):ST .xor (W a) H=⟨True,W (~~~a),H⟩:=by
 have h:(18446744073709551615 ^^^ a.toNat:Nat)=(~~~a).toNat:=by
  have h2:BitVec.allOnes 64 ^^^ a = ~~~a:=BitVec.allOnes_xor
  rw [← h2,BitVec.toNat_xor];rfl
 have h3:=Yo (NO a)
 simp only [ST,W]
 rw [h3,h]
def rot (x:BitVec 64) (k:Nat):BitVec 64:=x <<< k ||| x >>> (64 - k)
theorem TX (x:BitVec 64) (k:Nat):Rz x.toNat k=(rot x k).toNat:=by
 simp only [Rz,rot,BitVec.toNat_or,BitVec.toNat_shiftLeft,BitVec.toNat_ushiftRight]
def ws (s:List (BitVec 64)):Nat→V:=fun j=>W (s.getD j 0)
def bys (s:List (BitVec 8)):Nat→V:=fun j=>B (s.getD j 0)
theorem Nq (s:List (BitVec 64)) (j:Nat):ws s j=W (s.getD j 0):=rfl
theorem JS (s:List (BitVec 8)) (j:Nat):bys s j=B (s.getD j 0):=rfl
theorem Ic (w:BitVec 64):(W w).solid=true:=rfl
theorem O9 (w:BitVec 64):(W w).size=1:=rfl
theorem TO (w:BitVec 64):(W w).isAgg=false:=rfl
theorem Ii (w:BitVec 8):(B w).solid=true:=rfl
theorem OD (w:BitVec 8):(B w).size=1:=rfl
theorem Ut (w:BitVec 8):(B w).isAgg=false:=rfl
theorem Rc (H:Hp) (m z:List Nat) (a b:BitVec 64):Az H m z (W a) (W b) ↔ b=a:=by
 simp only [Az,W,V.int.injEq,true_and]
 constructor
 ·intro h;exact BitVec.eq_of_toNat_eq Aa
 ·rintro rfl;rfl
theorem QA (H:Hp) (m z:List Nat) (a b:BitVec 8):Az H m z (B a) (B b) ↔ b=a:=by
 simp only [Az,B,V.int.injEq,true_and]
 constructor
 ·intro h;exact BitVec.eq_of_toNat_eq Aa
 ·rintro rfl;rfl
theorem NM {p:Prop} [Decidable p] (a b:BitVec 64):(if p then W a else W b)=W (if p then a else b):=by split <;> rfl
theorem KU {p:Prop} [Decidable p] (a b:BitVec 8):(if p then B a else B b)=B (if p then a else b):=by split <;> rfl
theorem K6 (H:Hp) (m z:List Nat) (u:V):Bi H m z .junk u=True:=rfl
theorem Ns (H:Hp) (m z:List Nat) (k:IntKind) (n:Int) (u:V):Bi H m z (V.int k n) u=Az H m z (V.int k n) u:=rfl
theorem KA (H:Hp) (m z:List Nat) (b:Bool) (u:V):Bi H m z (V.bool b) u=Az H m z (V.bool b) u:=rfl
theorem MO (H:Hp) (m z:List Nat) (s:ByteArray) (u:V):Bi H m z (V.str s) u=Az H m z (V.str s) u:=rfl
theorem KO (H:Hp) (m z:List Nat) (u:V):Bi H m z V.nilp u=Az H m z V.nilp u:=rfl
theorem NZ (H:Hp) (m z:List Nat) (i:Nat) (p:List Stp) (u:V):Bi H m z (V.ptr i p) u=Az H m z (V.ptr i p) u:=rfl
theorem Nf (H:Hp) (m z:List Nat) (v:V) (u:V):Bi H m z (V.imm v) u=Az H m z (V.imm v) u:=rfl
theorem KK (H:Hp) (m z:List Nat) (u:V):Bi H m z V.nils u=Az H m z V.nils u:=rfl
theorem QR (H:Hp) (m z:List Nat) (i:Nat) (p:List Stp) (o n sz:Nat) (u:V):Bi H m z (V.sl i p o n sz) u=Az H m z (V.sl i p o n sz) u:=rfl
theorem NI (H:Hp) (m z:List Nat) (sz n:Nat) (f:Nat→V) (u:V):Bi H m z (V.lst sz n f) u=Az H m z (V.lst sz n f) u:=rfl
theorem KT (H:Hp) (m z:List Nat) (u:V):Bi H m z V.nilm u=Az H m z V.nilm u:=rfl
theorem NP (H:Hp) (m z:List Nat) (i:Nat) (u:V):Bi H m z (V.map i) u=Az H m z (V.map i) u:=rfl
theorem Lc (H:Hp) (m z:List Nat) (u:V):Bi H m z V.nilf u=Az H m z V.nilf u:=rfl
theorem Qq (H:Hp) (m z:List Nat) (f:Nat) (c:V) (u:V):Bi H m z (V.fn f c) u=Az H m z (V.fn f c) u:=rfl
theorem La (H:Hp) (m z:List Nat) (u:V):Bi H m z V.nili u=Az H m z V.nili u:=rfl
theorem M7 (H:Hp) (m z:List Nat) (t:Nat) (v:V) (u:V):Bi H m z (V.ifc t v) u=Az H m z (V.ifc t v) u:=rfl
theorem Ri (H:Hp) (m z:List Nat) (n:Nat) (fs:V) (u:V):Bi H m z (V.st n fs) u=Az H m z (V.st n fs) u:=rfl
theorem QS (H:Hp) (m z:List Nat) (sz n:Nat) (f:Nat→V) (u:V):Bi H m z (V.ar sz n f) u=Az H m z (V.ar sz n f) u:=rfl
theorem Ob (H:Hp) (m z:List Nat) (fs:V) (u:V):Bi H m z (V.tup fs) u=Az H m z (V.tup fs) u:=rfl
theorem Vq (H:Hp) (m z:List Nat) (a:BitVec 64) (u:V):Bi H m z (W a) u=Az H m z (W a) u:=rfl
theorem US (H:Hp) (m z:List Nat) (a:BitVec 8) (u:V):Bi H m z (B a) u=Az H m z (B a) u:=rfl
theorem Afo (m:List Nat) (a:BitVec 64):(W a).ren m=W a:=rfl
theorem Ag7 (m:List Nat) (a:BitVec 8):(B a).ren m=B a:=rfl
theorem Acs (m:List Nat) (s:List (BitVec 64)) (j:Nat):(ws s j).ren m=ws s j:=rfl
theorem AE {M:Seat} {f:Nat} {us us0:List V} {H:Hp} {n:Nat} {K:V→Hp→Prop} {v:V} (hr:Ag M f us0 [] 0 (Q3 v [] 0)) (hus:Bd H [] [] us0 us) (hv:v.ren (Bh [] n 0)=v) (hK:K v H):AR M f us H n K:=by
 refine BE hr False [] [] List.nodup_nil B5 rfl B5 hus trivial ?_
 rintro v' H' k' ⟨rfl,rfl,rfl⟩
 refine ⟨⟨by omega,fun h=>h.elim⟩,?_⟩
 rw [hv]
 simpa [AV,A6] using hK
theorem WW (m:List Nat) (s:List (BitVec 8)) (j:Nat):(bys s j).ren m=bys s j:=rfl
theorem Wp (k:IntKind) (a b:Int) (H:Hp):AP .add (.int k a) (.int k b) H=⟨True,.int k (k.wrap (a + b)),H⟩:=G7
theorem V8 (k:IntKind) (a b:Int) (H:Hp):AP .sub (.int k a) (.int k b) H=⟨True,.int k (k.wrap (a - b)),H⟩:=G7
theorem V6 (k:IntKind) (a b:Int) (H:Hp):AP .mul (.int k a) (.int k b) H=⟨True,.int k (k.wrap (a * b)),H⟩:=G7
theorem VW (k:IntKind) (a b:Int) (H:Hp):AP .quo (.int k a) (.int k b) H=⟨b ≠ 0,.int k (k.wrap (a.tdiv b)),H⟩:=G7
theorem TT (k:IntKind) (a b:Int) (H:Hp):AP .rem (.int k a) (.int k b) H=⟨b ≠ 0,.int k (a.tmod b),H⟩:=G7
theorem Wd (k k':IntKind) (a b:Int) (H:Hp):AP .shl (.int k a) (.int k' b) H=⟨0≤b,.int k (k.wrap (a * 2 ^ min b.toNat k.bits)),H⟩:=rfl
theorem Wi (k k':IntKind) (a b:Int) (H:Hp):AP .shr (.int k a) (.int k' b) H=⟨0≤b,.int k (a.fdiv (2 ^ min b.toNat k.bits)),H⟩:=rfl
theorem TF (k:IntKind) (a b:Int) (H:Hp):AP .lss (.int k a) (.int k b) H=⟨True,.bool (decide (a < b)),H⟩:=G7
theorem Tr (k:IntKind) (a b:Int) (H:Hp):AP .leq (.int k a) (.int k b) H=⟨True,.bool (decide (a≤b)),H⟩:=G7
theorem UP (k:IntKind) (a b:Int) (H:Hp):AP .gtr (.int k a) (.int k b) H=⟨True,.bool (decide (b < a)),H⟩:=G7
theorem UI (k:IntKind) (a b:Int) (H:Hp):AP .geq (.int k a) (.int k b) H=⟨True,.bool (decide (b≤a)),H⟩:=G7
theorem UH (k:IntKind) (a b:Int) (H:Hp):AP .eql (.int k a) (.int k b) H=⟨True,.bool (decide (a=b)),H⟩:=G7
theorem TN (k:IntKind) (a b:Int) (H:Hp):AP .neq (.int k a) (.int k b) H=⟨True,.bool (!decide (a=b)),H⟩:=G7
theorem Z4 (k:IntKind) (a b:Int) (H:Hp):AP .and (.int k a) (.int k b) H=⟨True,.int k (k.wrap ((BitVec.ofInt k.bits a &&& BitVec.ofInt k.bits b).toNat)),H⟩:=G7
theorem Aia (k:IntKind) (a b:Int) (H:Hp):AP .or (.int k a) (.int k b) H=⟨True,.int k (k.wrap ((BitVec.ofInt k.bits a ||| BitVec.ofInt k.bits b).toNat)),H⟩:=G7
theorem Z5 (k:IntKind) (a b:Int) (H:Hp):AP .xor (.int k a) (.int k b) H=⟨True,.int k (k.wrap ((BitVec.ofInt k.bits a ^^^ BitVec.ofInt k.bits b).toNat)),H⟩:=G7
theorem Un (b:Bool) (H:Hp):ST .not (.bool b) H=⟨True,.bool (!b),H⟩:=rfl
def Ca (k:IntKind) (v:V) (H:Hp):Out:=match v with
 | .int _ a=>⟨True,.int k (k.wrap a),H⟩
 | _=>BG H
theorem Ad (A:List V) (H:Hp) (n:Nat) (k:IntKind) (x:X):Ae A H n (.conv k x)=Ca k (x.ev A) H:=rfl
theorem K0 (k k':IntKind) (a:Int) (H:Hp):Ca k (.int k' a) H=⟨True,.int k (k.wrap a),H⟩:=rfl
theorem Ms (b:BitVec 8) (H:Hp):Ca .u64 (B b) H=⟨True,W (b.setWidth 64),H⟩:=by
 have h:=b.isLt
 simp only [Ca,B,W,Dx,BitVec.toNat_setWidth]
 congr 2
theorem Mj (w:BitVec 64) (H:Hp):Ca .u8 (W w) H=⟨True,B (w.setWidth 8),H⟩:=by
 simp only [Ca,B,W,JX,BitVec.toNat_setWidth]
 congr 2
theorem Ir (w:BitVec 64) (H:Hp):Ca .i64 (W w) H=⟨True,.int .i64 (IntKind.i64.wrap (w.toNat:Int)),H⟩:=rfl
theorem Jg (w:BitVec 8) (H:Hp):Ca .i64 (B w) H=⟨True,.int .i64 (w.toNat:Int),H⟩:=by
 have h:=w.isLt
 simp only [Ca,B]
 rw [AY Aa]
theorem GC (a:BitVec 64) (k:IntKind) (b:Int) (H:Hp):AP .shl (W a) (.int k b) H=⟨0≤b,W (a <<< b.toNat),H⟩:=by
 simp only [AP,W,Dx,BitVec.toNat_shiftLeft,Nat.shiftLeft_eq,IntKind.bits]
 congr 2
 by_cases hb:b.toNat≤64
 ·rw [Nat.min_eq_left hb]
  rw [Int.natCast_emod,Int.natCast_mul,Int.natCast_pow]
  rfl
 ·rw [Nat.min_eq_right Aa]
  have e1:a.toNat * 2 ^ b.toNat % 2 ^ 64=0:=by
   have:b.toNat=64 + (b.toNat - 64):=Aa
   rw [this,Nat.pow_add,← Nat.mul_assoc,Nat.mul_right_comm]
   exact Nat.mul_mod_left _ _
  rw [e1]
  have e2:(2:Int) ^ 64=18446744073709551616:=Am
  rw [e2];omega
theorem GK (a:BitVec 64) (k:IntKind) (b:Int) (H:Hp):AP .shr (W a) (.int k b) H=⟨0≤b,W (a >>> b.toNat),H⟩:=by
 have ha:=a.isLt
 simp only [AP,W,Lb4,IntKind.bits]
 congr 2
 rw [Int.fdiv_eq_ediv_of_nonneg _ (Int.pow_nonneg Aa),Int.natCast_ediv,Int.natCast_pow]
 by_cases hb:b.toNat≤64
 ·rw [Nat.min_eq_left hb];rfl
 ·rw [Nat.min_eq_right Aa]
  have h1:(a.toNat:Int) / 2 ^ 64=0:=Int.ediv_eq_zero_of_lt Aa Aa
  have h2:a.toNat / 2 ^ b.toNat=0:=Nat.div_eq_of_lt (Nat.lt_of_lt_of_le ha (Nat.pow_le_pow_right Aa Aa))
  have h3:(a.toNat:Int) / ((2:Nat):Int) ^ b.toNat=0:=by
   rw [← Int.natCast_pow,← Int.natCast_ediv,h2];rfl
  rw [h1];exact h3.symm
theorem eqW (a b:BitVec 64):decide ((a.toNat:Int)=(b.toNat:Int))=decide (a=b):=by
 rw [decide_eq_decide]
 constructor
 ·intro h;exact BitVec.eq_of_toNat_eq Aa
 ·rintro rfl;rfl
theorem FF (a b:BitVec 64) (H:Hp):AP .eql (W a) (W b) H=⟨True,.bool (decide (a=b)),H⟩:=by
 simp only [AP,W,eqW]
theorem FL (a b:BitVec 64) (H:Hp):AP .neq (W a) (W b) H=⟨True,.bool (!decide (a=b)),H⟩:=by
 simp only [AP,W,eqW]
theorem Hu (a:BitVec 64) (c:Int) (H:Hp):AP .eql (W a) (.int .u64 c) H=⟨True,.bool (decide ((a.toNat:Int)=c)),H⟩:=by
 simp only [AP,W]
theorem H3 (a:BitVec 64) (c:Int) (H:Hp):AP .geq (W a) (.int .u64 c) H=⟨True,.bool (decide (c≤(a.toNat:Int))),H⟩:=by
 simp only [AP,W]
theorem H9 (a:BitVec 64) (c:Int) (H:Hp):AP .rem (W a) (.int .u64 c) H=⟨c ≠ 0,.int .u64 ((a.toNat:Int).tmod c),H⟩:=by
 simp only [AP,W,true_and]
theorem V5 (a b:BitVec 8) (H:Hp):AP .xor (B a) (B b) H=⟨True,B (a ^^^ b),H⟩:=by
 simp only [AP,B,JX]
 congr 2
 rw [BN,BN]
 have e1:BitVec.ofNat IntKind.u8.bits a.toNat=a:=by apply BitVec.eq_of_toNat_eq;simp [IntKind.bits]
 have e2:BitVec.ofNat IntKind.u8.bits b.toNat=b:=by apply BitVec.eq_of_toNat_eq;simp [IntKind.bits]
 have h3:(BitVec.ofNat IntKind.u8.bits a.toNat ^^^ BitVec.ofNat IntKind.u8.bits b.toNat).toNat=(a ^^^ b).toNat:=by
  rw [BitVec.toNat_xor,BitVec.toNat_xor,e1,e2];rfl
 rw [h3]
 have:=(a ^^^ b).isLt
 omega
theorem Aex (n:Nat) (h:n < 18446744073709551616):V.int .u64 (n:Int)=W (BitVec.ofNat 64 n):=by
 simp only [W,BitVec.toNat_ofNat];rw [Nat.mod_eq_of_lt Aa]
theorem Ahs (n:Nat) (h:n < 256):V.int .u8 (n:Int)=B (BitVec.ofNat 8 n):=by
 simp only [B,BitVec.toNat_ofNat];rw [Nat.mod_eq_of_lt Aa]
theorem W_0:V.int .u64 0=W 0:=rfl
theorem B_0:V.int .u8 0=B 0:=rfl
theorem JL {M:Seat} {f:Nat} {us us0:List V} {H:Hp} {n:Nat} {K:V→Hp→Prop} {v:V} (z:List Nat) (hr:Ag M f us0 [] 0 (Q3 v [] 0)) (hus:Bd H [] z us0 us) (hv:v.ren (Bh [] n 0)=v) (hK:K v (A6 H z)):AR M f us H n K:=by
 refine BE hr False [] z List.nodup_nil B5 rfl B5 hus trivial ?_
 rintro v' H' k' ⟨rfl,rfl,rfl⟩
 refine ⟨⟨by omega,fun h=>h.elim⟩,?_⟩
 rw [hv]
 simpa [AV] using hK
def rc:List (BitVec 64):=rounds.map (BitVec.ofInt 64)
theorem Aiw:∀ j,j < 24→((rc.getD j 0).toNat:Int)=rounds.getD j 0:=Am
theorem Ac8:Sa 1 = .ar 1 24 (ws rc):=by
 have:(fun i=>V.int .u64 (rounds.getD i 0))=ws rc:=by
  funext j
  by_cases hj:j < 24
  ·simp only [ws,W,Aiw j hj]
  ·have h1:rounds.getD j 0=0:=by rw [List.getD_eq_getElem?_getD,List.getElem?_eq_none (by simp [rounds];omega)];rfl
   have h2:rc.getD j 0=0:=by rw [List.getD_eq_getElem?_getD,List.getElem?_eq_none (by simp [rc,rounds];omega)];rfl
   simp only [ws,W,h1,h2]
   rfl
 simp only [Sa,this]
theorem Aa3:Sa 2 = .ar 1 24 (fun i=>.int .i64 (lanes.getD i 0)):=rfl
theorem Adm:Sa 3 = .ar 1 24 (fun i=>.int .i64 (turns.getD i 0)):=rfl
theorem UY:∀ p,p < 24→0≤turns.getD p 0∧turns.getD p 0 < 64:=Am
theorem TU:∀ p,p < 24→0≤lanes.getD p 0∧lanes.getD p 0 < 25:=Am
structure Dg where
 l:List (BitVec 8)
 h:l.length=32
deriving DecidableEq
def Dg.at (d:Dg) (j:Nat):BitVec 8:=d.l.getD j 0
def Dg.mk' (f:Nat→BitVec 8):Dg:=⟨(List.range 32).map f,by simp⟩
theorem Dg.at_mk' (f:Nat→BitVec 8) (j:Nat) (hj:j < 32):(Dg.mk' f).at j=f j:=by
 simp [Dg.at,Dg.mk',List.getD,List.getElem?_map,List.getElem?_range hj]
theorem Dg.ext' {a b:Dg} (h:∀ j,j < 32→a.at j=b.at j):a=b:=by
 obtain ⟨l,hl⟩:=a
 obtain ⟨m,hm⟩:=b
 have:l=m:=by
  apply List.ext_getElem Aa
  intro i h1 h2
  have:=h i Aa
  simpa [Dg.at,List.getD,h1,h2] using this
 subst this;rfl
def Dg.zero:Dg:=Dg.mk' fun _=>0
theorem Dg.at_zero (j:Nat):Dg.zero.at j=0:=by
 by_cases hj:j < 32
 ·rw [Dg.zero,Dg.at_mk' _ _ hj]
 ·simp only [Dg.at,Dg.zero,Dg.mk',List.getD]
  rw [List.getElem?_eq_none DI];rfl
instance:Inhabited Dg:=⟨Dg.zero⟩
def dg (d:Dg):V:=.ar 1 32 (fun j=>B (d.at j))
def Fk (s:List Dg):Nat→V:=fun j=>dg (s.getD j Dg.zero)
theorem DQ (d:Dg):(dg d).solid=true:=rfl
theorem Lg (d:Dg):(dg d).size=32:=rfl
theorem OK (d:Dg):(dg d).isAgg=true:=rfl
theorem Wb (m:List Nat) (d:Dg):(dg d).ren m=dg d:=rfl
theorem IS (s:List Dg) (j:Nat):Fk s j=dg (s.getD j Dg.zero):=rfl
theorem Y3 (m:List Nat) (s:List Dg) (j:Nat):(Fk s j).ren m=Fk s j:=rfl
theorem Rj (H:Hp) (m z:List Nat) (a:Dg) (u:V):Bi H m z (dg a) u=Az H m z (dg a) u:=rfl
theorem AU (H:Hp) (m z:List Nat) (a b:Dg):Az H m z (dg a) (dg b) ↔ b=a:=by
 simp only [Az,dg,QA,true_and]
 constructor
 ·intro h;exact Dg.ext' (fun j hj=>h j hj)
 ·rintro rfl _ _;rfl
theorem Uc {p:Prop} [Decidable p] (a b:Dg):(if p then dg a else dg b)=dg (if p then a else b):=by split <;> rfl
theorem eqB (a b:BitVec 8):decide ((a.toNat:Int)=(b.toNat:Int))=decide (a=b):=by
 rw [decide_eq_decide]
 constructor
 ·intro h;exact BitVec.eq_of_toNat_eq Aa
 ·rintro rfl;rfl
theorem Gk (c:Bool) (a b:Dg):AD c (.ar 32 1 false .int) (dg a) (dg b):=by
 simp only [AD,dg,true_and]
 intro i _
 refine ⟨rfl,rfl,?_⟩
 simp only [B]
theorem Ik (a b:Dg):AK (.ar 32 1 false .int) (dg a) (dg b)=decide (a=b):=by
 have h1:AK (.ar 32 1 false .int) (dg a) (dg b)=(List.range 32).all (fun i=>decide (a.at i=b.at i)):=by
  simp only [AK,dg,B,eqB]
 rw [h1,Bool.eq_iff_iff,List.all_eq_true]
 simp only [decide_eq_true_eq,List.mem_range]
 constructor
 ·exact fun h=>Dg.ext' h
 ·rintro rfl _ _;rfl
def pwx (x:BitVec 64) (p:Nat→BitVec 8) (j:Nat):Nat→BitVec 64
 | 0=>x
 | k + 1=>pwx x p j k ^^^ ((p (8 * j + k)).setWidth 64 <<< (8 * k))
def Qg (s:List (BitVec 64)) (p:Nat→BitVec 8) (i k j:Nat):BitVec 64 :=
 if j < i then pwx (s.getD j 0) p j 8 else if j=i then pwx (s.getD j 0) p j k else s.getD j 0
def mix (s:List (BitVec 64)) (p:Nat→BitVec 8):List (BitVec 64):=(List.range 25).map (Qg s p 17 0)
theorem ZI (s:List (BitVec 64)) (p:Nat→BitVec 8) (j:Nat) (hj:j < 25):(mix s p).getD j 0=Qg s p 17 0 j:=by
 simp [mix,List.getD,List.getElem?_map,List.getElem?_range hj]
theorem Aej (s:List (BitVec 64)) (p:Nat→BitVec 8) (j:Nat):Qg s p 0 0 j=s.getD j 0:=by
 simp only [Qg,pwx]
 split
 ·omega
 ·split <;> rfl
theorem Aim (s:List (BitVec 64)) (p:Nat→BitVec 8) (i k j:Nat):(if j=i then Qg s p i k i ^^^ ((p (8 * i + k)).setWidth 64 <<< (8 * k)) else Qg s p i k j)=Qg s p i (k + 1) j:=by
 by_cases h:j=i
 ·subst h
  simp [Qg,pwx]
 ·simp only [Qg,if_neg h]
theorem Aez (s:List (BitVec 64)) (p:Nat→BitVec 8) (i j:Nat):Qg s p i 8 j=Qg s p (i + 1) 0 j:=by
 simp only [Qg,pwx]
 by_cases h:j < i
 ·rw [if_pos h,if_pos Aa]
 ·rw [if_neg h]
  by_cases h2:j=i
  ·rw [if_pos h2,if_pos Aa]
  ·rw [if_neg h2,if_neg Aa]
   split <;> rfl
def Xg (s:List (BitVec 64)):Dg:=Dg.mk' fun i=>(s.getD (i / 8) 0 >>> (8 * (i % 8))).setWidth 8
def pad (a b:Dg) (j:Nat):BitVec 8:=if j < 32 then a.at j else if j < 64 then b.at (j - 32) else if j=64 then 1 else if j=135 then 128 else 0
theorem Ws:V.ar 1 32 (fun _=>V.int .u8 0)=dg Dg.zero:=by
 have h:(fun _=>V.int .u8 0)=fun j=>B (Dg.zero.at j):=by
  funext j;rw [Dg.at_zero];rfl
 simp only [dg,h]
theorem exZ (M:Seat) (x:Ctx) (Q:List V→Hp→Nat→Prop) (k:List It) (N:Nat) (A:List V) (H:Hp):ex M x Q 0 k N A H=Bm M x Q k N A H:=by cases k <;> rfl
theorem exN (M:Seat) (x:Ctx) (Q:List V→Hp→Nat→Prop) (n:Nat) (N:Nat) (A:List V) (H:Hp):ex M x Q (n + 1) [] N A H=Q A H N:=rfl
theorem ZO (M:Seat) (x:Ctx) (Q:List V→Hp→Nat→Prop) (n:Nat) (k:List It) (N:Nat) (A:List V) (H:Hp):ex M x Q (n + 1) (.code .skip :: k) N A H=ex M x Q n k N A H:=rfl
theorem Ahb (M:Seat) (x:Ctx) (Q:List V→Hp→Nat→Prop) (n:Nat) (ops:List LOp) (k:List It) (N:Nat) (A:List V) (H:Hp):ex M x Q (n + 1) (.code (.reg ops) :: k) N A H=Ro M (ex M x Q n k (N + 16 * ops.length)) ops N A H:=rfl
theorem Aby (M:Seat) (x:Ctx) (Q:List V→Hp→Nat→Prop) (n:Nat) (L:List DOp) (k:List It) (N:Nat) (A:List V) (H:Hp):ex M x Q (n + 1) (.code (.regd L) :: k) N A H=AJ M (ex M x Q n k (N + 32 * L.length)) L.length N (F5 L 0) L 0 A H [(0,H)] []:=rfl
theorem Ahm (M:Seat) (x:Ctx) (Q:List V→Hp→Nat→Prop) (n:Nat) (c d:LC) (k:List It) (N:Nat) (A:List V) (H:Hp):ex M x Q (n + 1) (.code (.seq c d) :: k) N A H=ex M x Q n (.code c :: .code d :: k) N A H:=rfl
theorem XJ (M:Seat) (x:Ctx) (Q:List V→Hp→Nat→Prop) (n:Nat) (id:Nat) (c:LC) (k:List It) (N:Nat) (A:List V) (H:Hp):ex M x Q (n + 1) (.code (.block id c) :: k) N A H=ex M x Q n (.code c :: .blk id :: k) N A H:=rfl
theorem Abg (M:Seat) (x:Ctx) (Q:List V→Hp→Nat→Prop) (n:Nat) (c:LC) (k:List It) (N:Nat) (A:List V) (H:Hp):ex M x Q (n + 1) (.code (.loop c) :: k) N A H=HH M x Q c k A H N:=rfl
theorem Aae (M:Seat) (x:Ctx) (Q:List V→Hp→Nat→Prop) (n:Nat) (id:Nat) (k:List It) (N:Nat) (A:List V) (H:Hp):ex M x Q (n + 1) (.code (.exit id) :: k) N A H=(match BQ id k with | some k'=>ex M x Q n k' N A H | none=>False):=rfl
theorem Afu (M:Seat) (x:Ctx) (Q:List V→Hp→Nat→Prop) (n:Nat) (k:List It) (N:Nat) (A:List V) (H:Hp):ex M x Q (n + 1) (.code .ret :: k) N A H=Q A H N:=rfl
theorem Ahc (M:Seat) (x:Ctx) (Q:List V→Hp→Nat→Prop) (n:Nat) (i:Nat) (k:List It) (N:Nat) (A:List V) (H:Hp):ex M x Q (n + 1) (.blk i :: k) N A H=ex M x Q n k N A H:=rfl
theorem Aib (M:Seat) (x:Ctx) (Q:List V→Hp→Nat→Prop) (n:Nat) (J:List V→Hp→Nat→Prop) (k:List It) (N:Nat) (A:List V) (H:Hp):ex M x Q (n + 1) (.inv J :: k) N A H=J A H N:=rfl
open Classical in
theorem Aq1 (M:Seat) (x:Ctx) (Q:List V→Hp→Nat→Prop) (n:Nat) (y:X) (c d:LC) (k:List It) (N:Nat) (A:List V) (H:Hp):ex M x Q (n + 1) (.code (.cond y c d) :: k) N A H=(if y.ev A = .bool true then ex M x Q n (.code c :: k) N A H else if y.ev A = .bool false then ex M x Q n (.code d :: k) N A H else False):=by
 have h:ex M x Q (n + 1) (.code (.cond y c d) :: k) N A H=(match y.ev A with
  | .bool t=>(t=true→ex M x Q n (.code c :: k) N A H)∧(t=false→ex M x Q n (.code d :: k) N A H)
  | _=>False):=rfl
 rw [h]
 cases hy:y.ev A <;> simp
 rename_i t
 cases t <;> simp
def Amr (v:V) (b:Bool):Prop:=match v with
 | .bool b'=>b' = !b
 | .tup _=>True
 | _=>False
theorem Ant (b b':Bool):Amr (.bool b') b=(b' = !b):=rfl
theorem Aoi (v:V) (b:Bool):Amr (.tup v) b=True:=rfl
theorem RoN (M:Seat) (K:List V→Hp→Prop) (n:Nat) (A:List V) (H:Hp):Ro M K [] n A H=K A H:=rfl
theorem RoO (M:Seat) (K:List V→Hp→Prop) (d:Option Nat) (o:LO) (r:List LOp) (n:Nat) (A:List V) (H:Hp):Ro M K (⟨d,.lo o,none⟩ :: r) n A H=((Ae A H n o).pre∧Ro M K r (n + 16) (put A d (Ae A H n o).v) (Ae A H n o).H):=rfl
theorem RoC (M:Seat) (K:List V→Hp→Prop) (d:Option Nat) (f:Nat) (xs:List X) (r:List LOp) (n:Nat) (A:List V) (H:Hp):Ro M K (⟨d,.call f xs,none⟩ :: r) n A H=AR M f (xs.map (X.ev A)) H n (fun v H'=>Ro M K r (n + 16) (put A d v) H'):=rfl
theorem RoY (M:Seat) (K:List V→Hp→Prop) (d:Option Nat) (u:X) (xs:List X) (r:List LOp) (n:Nat) (A:List V) (H:Hp):Ro M K (⟨d,.dyn u xs,none⟩ :: r) n A H=Eo M (u.ev A) (xs.map (X.ev A)) H n (fun v H'=>Ro M K r (n + 16) (put A d v) H'):=rfl
open Classical in
theorem RoG (M:Seat) (K:List V→Hp→Prop) (d:Option Nat) (k:LK) (t:Nat) (b:Bool) (r:List LOp) (n:Nat) (A:List V) (H:Hp):Ro M K (⟨d,k,some (t,b)⟩ :: r) n A H =
 (if A.getD t .junk = .bool b then Ro M K (⟨d,k,none⟩ :: r) n A H else if Amr (A.getD t .junk) b then Ro M K r (n + 16) (put A d (.tup .fnil)) H else False):=by
 have h:Ro M K (⟨d,k,some (t,b)⟩ :: r) n A H=(match A.getD t .junk with
  | .bool b'=>(b'=b→Ro M K (⟨d,k,none⟩ :: r) n A H)∧(b' = !b→Ro M K r (n + 16) (put A d (.tup .fnil)) H)
  | .tup _=>Ro M K r (n + 16) (put A d (.tup .fnil)) H
  | _=>False):=rfl
 rw [h]
 cases hy:A.getD t .junk <;> simp [Amr]
 rename_i b'
 cases b' <;> cases b <;> simp
theorem Ai9 (M:Seat) (K:List V→Hp→Prop) (m N wm p:Nat) (A:List V) (H:Hp) (bd:List (Nat × Hp)) (al:List (Nat × Nat × V)):AJ M K m N wm [] p A H bd al=K A H:=rfl
theorem As3 (M:Seat) (K:List V→Hp→Prop) (m N wm ix bf:Nat) (d:Option Nat) (k:LK) (r:List DOp) (p:Nat) (A:List V) (H:Hp) (bd:List (Nat × Hp)) (al:List (Nat × Nat × V)):AJ M K m N wm (⟨ix,bf,⟨d,k,none⟩⟩ :: r) p A H bd al =
 AX M A H (bs N m p k) k (fun v H'=>(SV A (bs N m p k) k v wm bf al bd∧(bif k.isW then CX (N + 16 * p) (N + 16 * m) H' else True)) ∧
  AJ M K m N wm r (p + 1) (put A d v) H' (bif k.isW then (p + 1,H') :: bd else bd) (bif k.isA then (p,bs N m p k,hget H' (bs N m p k)) :: al else al)):=rfl
open Classical in
theorem Ata (M:Seat) (K:List V→Hp→Prop) (m N wm ix bf:Nat) (d:Option Nat) (k:LK) (t:Nat) (b:Bool) (r:List DOp) (p:Nat) (A:List V) (H:Hp) (bd:List (Nat × Hp)) (al:List (Nat × Nat × V)):AJ M K m N wm (⟨ix,bf,⟨d,k,some (t,b)⟩⟩ :: r) p A H bd al =
 (if A.getD t .junk = .bool b then AJ M K m N wm (⟨ix,bf,⟨d,k,none⟩⟩ :: r) p A H bd al else if Amr (A.getD t .junk) b then AJ M K m N wm r (p + 1) (put A d (.tup .fnil)) H (bif k.isW then (p + 1,H) :: bd else bd) al else False):=by
 have h:AJ M K m N wm (⟨ix,bf,⟨d,k,some (t,b)⟩⟩ :: r) p A H bd al=(match A.getD t .junk with
  | .bool b'=>(b'=b→AJ M K m N wm (⟨ix,bf,⟨d,k,none⟩⟩ :: r) p A H bd al)∧(b' = !b→AJ M K m N wm r (p + 1) (put A d (.tup .fnil)) H (bif k.isW then (p + 1,H) :: bd else bd) al)
  | .tup _=>AJ M K m N wm r (p + 1) (put A d (.tup .fnil)) H (bif k.isW then (p + 1,H) :: bd else bd) al
  | _=>False):=rfl
 rw [h]
 cases hy:A.getD t .junk <;> simp [Amr]
 rename_i b'
 cases b' <;> cases b <;> simp
end Mv
