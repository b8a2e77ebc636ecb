/- A part. -/
import Derived.Test.YtfljfijnobocoaaDoorCV
set_option linter.all false
namespace Mv
open Go
theorem BN (n:Nat) (a:Nat):BitVec.ofInt n (a:Int)=BitVec.ofNat n a:=by
 apply BitVec.eq_of_toNat_eq
 simp
theorem U2 {a b:Nat} (ha:a < 18446744073709551616) (hb:b < 18446744073709551616):IntKind.u64.wrap (((BitVec.ofInt IntKind.u64.bits (a:Int) ||| BitVec.ofInt IntKind.u64.bits (b:Int)).toNat:Nat):Int)=((a ||| b:Nat):Int):=by
 have h:a ||| b < 2 ^ 64:=Nat.or_lt_two_pow Aa Aa
 rw [BN,BN,BitVec.toNat_or,BitVec.toNat_ofNat,BitVec.toNat_ofNat,Nat.mod_eq_of_lt (by simpa [IntKind.bits] using ha),Nat.mod_eq_of_lt (by simpa [IntKind.bits] using hb)]
 exact EX Aa
theorem QV {a b:Nat} (ha:a < 18446744073709551616) (hb:b < 18446744073709551616):IntKind.u64.wrap (((BitVec.ofInt IntKind.u64.bits (a:Int) &&& BitVec.ofInt IntKind.u64.bits (b:Int)).toNat:Nat):Int)=((a &&& b:Nat):Int):=by
 have h:a &&& b < 2 ^ 64:=Nat.lt_of_le_of_lt Nat.and_le_left Aa
 rw [BN,BN,BitVec.toNat_and,BitVec.toNat_ofNat,BitVec.toNat_ofNat,Nat.mod_eq_of_lt (by simpa [IntKind.bits] using ha),Nat.mod_eq_of_lt (by simpa [IntKind.bits] using hb)]
 exact EX Aa
theorem QO {a b:Nat} (ha:a < 18446744073709551616) (hb:b < 18446744073709551616):IntKind.u64.wrap (((BitVec.ofInt IntKind.u64.bits (a:Int) ^^^ BitVec.ofInt IntKind.u64.bits (b:Int)).toNat:Nat):Int)=((a ^^^ b:Nat):Int):=by
 have h:a ^^^ b < 2 ^ 64:=Nat.xor_lt_two_pow Aa Aa
 rw [BN,BN,BitVec.toNat_xor,BitVec.toNat_ofNat,BitVec.toNat_ofNat,Nat.mod_eq_of_lt (by simpa [IntKind.bits] using ha),Nat.mod_eq_of_lt (by simpa [IntKind.bits] using hb)]
 exact EX Aa
theorem Yo {a:Nat} (ha:a < 18446744073709551616):IntKind.u64.wrap (((BitVec.ofInt IntKind.u64.bits (if IntKind.u64.signed=true then -1 else IntKind.u64.max) ^^^ BitVec.ofInt IntKind.u64.bits (a:Int)).toNat:Nat):Int)=((18446744073709551615 ^^^ a:Nat):Int):=by
 have e1:(if IntKind.u64.signed=true then (-1:Int) else IntKind.u64.max)=((18446744073709551615:Nat):Int):=B4
 rw [e1,QO Aa ha]
theorem WL {a k:Nat} (hk:k < 64):IntKind.u64.wrap ((a:Int) * 2 ^ min (k:Int).toNat IntKind.u64.bits)=((a <<< k % 18446744073709551616:Nat):Int):=by
 have e1:min (k:Int).toNat IntKind.u64.bits=k:=by simp only [IntKind.bits];omega
 rw [e1,Dx,Nat.shiftLeft_eq,Int.natCast_emod,Int.natCast_mul,Int.natCast_pow]
 rfl
theorem Y9 {a k:Nat} (hk:k≤64):(a:Int).fdiv (2 ^ min (k:Int).toNat IntKind.u64.bits)=((a >>> k:Nat):Int):=by
 have e1:min (k:Int).toNat IntKind.u64.bits=k:=by simp only [IntKind.bits];omega
 rw [e1,Int.fdiv_eq_ediv_of_nonneg _ (Int.pow_nonneg Aa),Nat.shiftRight_eq_div_pow,Int.natCast_ediv,Int.natCast_pow]
 rfl
def Rz (x k:Nat):Nat:=(x <<< k % 18446744073709551616) ||| (x >>> (64 - k))
theorem Xt {x k:Nat} (hx:x < 18446744073709551616):Rz x k < 18446744073709551616:=by
 have h1:x <<< k % 18446744073709551616 < 2 ^ 64:=Nat.mod_lt _ Aa
 have h2:x >>> (64 - k) < 2 ^ 64:=by
  rw [Nat.shiftRight_eq_div_pow]
  exact Nat.lt_of_le_of_lt (Nat.div_le_self _ _) Aa
 exact Nat.or_lt_two_pow h1 h2
theorem JA (A:List V) (v:V):put A none v=A:=rfl
theorem PN (A:List V) (d:Option Nat) (v:V):(put A d v).length=A.length:=by cases d <;> simp [put]
theorem U6 {A:List V} {i:Nat} {v:V} (h:i < A.length):(put A (some i) v).getD i .junk=v:=by simp [put,List.getD,h]
theorem Aa0 {A:List V} {i t:Nat} {v:V} (h:i ≠ t):(put A (some i) v).getD t .junk=A.getD t .junk:=by simp [put,List.getD,List.getElem?_set_ne h]
def fr (n:Nat):List (Nat × V)→List V
 | []=>List.replicate n .junk
 | (t,v) :: r=>put (fr n r) (some t) v
theorem BL (n:Nat):∀ l,(fr n l).length=n
 | []=>by simp [fr]
 | (t,v) :: r=>by simp [fr,PN,BL n r]
theorem Hr (n t:Nat):(fr n []).getD t .junk = .junk:=by
 simp only [fr,List.getD,List.getElem?_replicate]
 split <;> rfl
theorem Ed {n t:Nat} {v:V} {r:List (Nat × V)} (h:t < n):(fr n ((t,v) :: r)).getD t .junk=v:=U6 (by rw [BL];exact h)
theorem JE {n t i:Nat} {v:V} {r:List (Nat × V)} (h:i ≠ t):(fr n ((i,v) :: r)).getD t .junk=(fr n r).getD t .junk:=Aa0 h
theorem PT (n t:Nat) (v:V) (r:List (Nat × V)):put (fr n r) (some t) v=fr n ((t,v) :: r):=rfl
def Wu:Nat→List V→List (Nat × V)→List (Nat × V)
 | _,[],acc=>acc
 | i,u :: r,acc=>Wu (i + 1) r ((i,u) :: acc)
def La0:=(SN (CA @BEq.rfl.{0} @Int.cast_ofNat_Int @LK.isA.eq_1 @LK.isA.eq_2 @LK.isA.eq_3 @LK.isA.eq_4 @LK.isA.eq_5 @LK.isA.eq_6 @LK.isA.eq_7 @LK.isP.eq_1 @LK.isP.eq_2 @LK.isP.eq_3 @LK.isP.eq_4 @LK.isP.eq_5 @LK.isP.eq_6) (Hq @LK.isP.eq_7 @LK.isP.eq_8 @LK.isP.eq_9 @LK.isP.eq_10 @LK.isP.eq_11 @LK.isP.eq_12 @LK.isP.eq_13 @LK.isP.eq_14 @LK.isW.eq_1 @LK.isW.eq_2 @LK.isW.eq_3 @LK.isW.eq_4 @LK.isW.eq_5 @LK.isW.eq_6 @LK.isW.eq_7 @LK.isW.eq_8) (CA @List.cons_append.{0} @List.filter_cons.{0} @List.filter_nil.{0} @List.length_cons.{0} @List.length_nil.{0} (@List.map_cons.{0,0}) (@List.map_nil.{0,0}) @List.nil_append.{0} @hx.eq_1 @V.fget.eq_1 @V.fget.eq_2 @V.fhas.eq_1 @V.fhas.eq_2 @V.fset.eq_1 @V.fset.eq_2) (Hq @V.get.eq_1 @V.get.eq_2 @V.get.eq_3 @V.get.eq_4 @V.get.eq_5 @V.ok.eq_1 @V.ok.eq_2 @V.ok.eq_3 @V.ok.eq_4 @V.ok.eq_5 @V.set.eq_1 @V.set.eq_2 @V.set.eq_3 @V.set.eq_4 @X.ev.eq_1 @X.ev.eq_2) (CA @X.ev.eq_3 @X.ev.eq_4 @Z.sz.eq_1 @Z.sz.eq_2 @Z.sz.eq_3 @Z.sz.eq_4 @Z.sz.eq_5 @Z.v.eq_1 @Z.v.eq_2 @Z.v.eq_3 @Z.v.eq_4 @Z.v.eq_5 @Z.v.eq_6 @Z.v.eq_7 @Z.v.eq_8) (Hq @Z.v.eq_9 @Z.v.eq_10 @Z.v.eq_11 @Z.v.eq_12 @bs.eq_1 @cond_false.{1} @cond_true.{1} @BQ.eq_1 @BQ.eq_2 @BQ.eq_3 @Cv.eq_1 @Cv.eq_2 @Cv.eq_3 @Cv.eq_4 @B8.eq_1 @B8.eq_2) (CA @SV.eq_1 @SV.eq_2 @ET.eq_1 @ET.eq_2 @forall_const.{0} @forall_const.{1} @BS.eq_1 @BS.eq_2 @hget.eq_1 @hget.eq_2 @Af.eq_1 @Af.eq_2 @BU.eq_1 @BU.eq_2 @CX.eq_1) (Hq @CX.eq_2 @if_false.{1} @if_true.{1} @Nj.eq_1 @Nj.eq_2 @ite_false.{1} @ite_true.{1} @ne_eq.{1} @Gx.eq_1 @Gx.eq_2 @Gx.eq_3 @Wu.eq_1 @Wu.eq_2 @B1.eq_1 @B1.eq_2 @C0.eq_1) (Hq @C0.eq_2 @C0.eq_3 @BP.eq_1 @BP.eq_2 @Bv.eq_1 @Bv.eq_2 @Dl.eq_1 @Dl.eq_2 @Cp.eq_1 @Cp.eq_2 @A8.eq_1 @A8.eq_2 @EV.eq_1 @EV.eq_2 @F5.eq_1 @F5.eq_2))
theorem Tj (n:Nat):∀ (us:List V) (i:Nat) (acc:List (Nat × V)) (pre:List V),pre.length=i→fr n acc=pre ++ List.replicate (n - i) .junk→i + us.length≤n→fr n (Wu i us acc)=pre ++ us ++ List.replicate (n - i - us.length) .junk
 | [],i,acc,pre,_,h,_=>by simpa [Wu] using h
 | u :: r, i, acc, pre, hp, h, hl => by
   simp only [List.length_cons] at hl
   have h2:fr n ((i,u) :: acc)=(pre ++ [u]) ++ List.replicate (n - (i + 1)) .junk:=by
    simp only [fr,put,h]
    have e1:n - i=(n - (i + 1)) + 1:=Aa
    rw [e1,List.replicate_succ]
    apply List.ext_getElem?
    intro k
    by_cases hk:k=i
    ·subst hk
     rw [List.getElem?_set_self (by simp [hp])]
     rw [List.getElem?_append_left (by simp [hp])]
     rw [List.getElem?_append_right Aa]
     simp [hp]
    ·rw [List.getElem?_set_ne (Ne.symm hk)]
     by_cases hk2:k < i
     ·rw [List.getElem?_append_left Aa,List.getElem?_append_left DI,List.getElem?_append_left Aa]
     ·rw [List.getElem?_append_right Aa,List.getElem?_append_right DI]
      have e2:k - pre.length=(k - (pre ++ [u]).length) + 1:=DI
      rw [e2,List.getElem?_cons_succ]
   have:=Tj n r (i + 1) ((i,u) :: acc) (pre ++ [u]) (by simp [hp]) h2 Aa
   simp only [Wu]
   rw [this]
   have e3:n - (i + 1) - r.length=n - i - (u :: r).length:=DI
   rw [e3]
   simp
theorem Sy {us:List V} {n:Nat} (h:us.length≤n):FG us n=fr n (Wu 0 us []):=by
 rw [Tj n us 0 [] [] rfl (by simp [fr]) Aa]
 simp [FG]
theorem Ab {M:Seat} {f:Nat} {lf:LF} {us:List V} {H:Hp} {k:Nat} {Q:V→Hp→Nat→Prop} (hf:Au M f lf=true) (hn:decide (us.length≤lf.nt)=true)
 (h:∀ x:Ctx,x.k=k→Bm M x (Ar M x lf.rs Q) [.code lf.c] k (fr lf.nt (Wu 0 us [])) H):Ag M f us H k Q:=by
 refine R2 hf fun x hx=>?_
 rw [Sy (of_decide_eq_true hn)]
 exact h x hx
def Kj (H:Hp) (m z:List Nat) (A:List V):List (Nat × V)→Prop
 | []=>True
 | (t,v) :: r=>Bi H m z v (A.getD t .junk)∧Kj H m z A r
def La4:=(Ka (Lj @List.getElem?_cons_succ.{0} @List.getElem?_cons_zero.{0} @List.getElem?_nil.{0} @Option.some.injEq.{0} @Az.eq_1 @Az.eq_2 @Az.eq_3 @Az.eq_4 @Az.eq_5 @Az.eq_6 @Az.eq_7 @Az.eq_8 @Az.eq_9) (Lj @Az.eq_10 @Az.eq_11 @Az.eq_12 @Az.eq_13 @Az.eq_14 @Az.eq_15 @Az.eq_16 @Az.eq_17 @Az.eq_18 @Az.eq_19 @Az.eq_20 @Az.eq_21 @Az.eq_22) (Lj @Az.eq_23 @Az.eq_24 @Az.eq_25 @Az.eq_26 @Az.eq_27 @Az.eq_28 @Az.eq_29 @Az.eq_30 @Az.eq_31 @Az.eq_32 @Az.eq_33 @Az.eq_34 @Az.eq_35) (Lj @Az.eq_36 @Az.eq_37 @Az.eq_38 @Az.eq_39 @Az.eq_40 @Bd.eq_1 @Bd.eq_2 @Bd.eq_3 @Br.eq_1 @Br.eq_2 @Kj.eq_1 @Kj.eq_2 @Sj.eq_1))
theorem Mg {H:Hp} {m z:List Nat}:∀ {A B:List V},A.length=B.length→(∀ t,Bi H m z (A.getD t .junk) (B.getD t .junk))→Bd H m z A B
 | [],[],_,_=>trivial
 | _ :: _,_ :: _,hl,h=>⟨by simpa using h 0,Mg N8 (fun t=>by simpa using h (t + 1))⟩
 | [],_ :: _,hl,_=>by simp at hl
 | _ :: _,[],hl,_=>by simp at hl
theorem Js {H:Hp} {m z:List Nat} {A:List V} {n:Nat}:∀ {l:List (Nat × V)},Kj H m z A l→∀ t,t < n→Bi H m z ((fr n l).getD t .junk) (A.getD t .junk)
 | [],_,t,_=>by rw [Hr];trivial
 | (i, v) :: r, h, t, ht => by
   by_cases hit:i=t
   ·subst hit;rw [Ed ht];exact h.1
   ·rw [JE hit];exact Js h.2 t ht
theorem Ao.fr {M:Seat} {c:Ctx} {A:List V} {H:Hp} {N n:Nat} (m z:List Nat) {k:Nat} (hck:c.k=k) {l:List (Nat × V)} {H':Hp} {N':Nat} (hlen:A.length=n)
 (hm:(decide m.Nodup && z.all (fun i=>!m.contains i) && decide (m.length≤N') && decide (k≤N') && (List.range k).all (fun j=>m[j]? == some j))=true)
 (hA:Kj H m z A l) (hH:Br H m z H'):Ao M c A H N (Mv.fr n l) H' N':=by
 refine Ao.at m z hck hm (Mg (by rw [BL,hlen]) (fun t=>?_)) hH
 by_cases ht:t < n
 ·exact Js hA t ht
 ·have:(Mv.fr n l).getD t .junk = .junk:=by rw [List.getD_eq_getElem?_getD,List.getElem?_eq_none (by rw [BL];omega)];rfl
  rw [this];trivial
def W (w:BitVec 64):V:=.int .u64 (w.toNat:Int)
def Lcd:=(Bb @Int.toNat_natCast @W.eq_1)
def B (b:BitVec 8):V:=.int .u8 (b.toNat:Int)
theorem NO (w:BitVec 64):w.toNat < 18446744073709551616:=w.isLt
theorem Ix (a b:BitVec 64) (H:Hp):AP .xor (W a) (W b) H=⟨True,W (a ^^^ b),H⟩:=by
 have h:=QO (NO a) (NO b)
 simp only [AP,W]
 rw [h,BitVec.toNat_xor]
theorem II (a b:BitVec 64) (H:Hp):AP .and (W a) (W b) H=⟨True,W (a &&& b),H⟩:=by
 have h:=QV (NO a) (NO b)
 simp only [AP,W]
 rw [h,BitVec.toNat_and]
theorem Ll (a b:BitVec 64) (H:Hp):AP .or (W a) (W b) H=⟨True,W (a ||| b),H⟩:=by
 have h:=U2 (NO a) (NO b)
 simp only [AP,W]
 rw [h,BitVec.toNat_or]
theorem Mn (a:BitVec 64) (H:Hp):ST .xor (W a) H=⟨True,W (~~~a),H⟩:=by
 have h:(18446744073709551615 ^^^ a.toNat:Nat)=(~~~a).toNat:=by
  have h2:BitVec.allOnes 64 ^^^ a = ~~~a:=BitVec.allOnes_xor
  rw [← h2,BitVec.toNat_xor];rfl
 have h3:=Yo (NO a)
 simp only [ST,W]
 rw [h3,h]
def rot (x:BitVec 64) (k:Nat):BitVec 64:=x <<< k ||| x >>> (64 - k)
theorem TX (x:BitVec 64) (k:Nat):Rz x.toNat k=(rot x k).toNat:=by
 simp only [Rz,rot,BitVec.toNat_or,BitVec.toNat_shiftLeft,BitVec.toNat_ushiftRight]
def ws (s:List (BitVec 64)):Nat→V:=fun j=>W (s.getD j 0)
def bys (s:List (BitVec 8)):Nat→V:=fun j=>B (s.getD j 0)
theorem Nq (s:List (BitVec 64)) (j:Nat):ws s j=W (s.getD j 0):=rfl
theorem JS (s:List (BitVec 8)) (j:Nat):bys s j=B (s.getD j 0):=rfl
theorem Ic (w:BitVec 64):(W w).solid=true:=rfl
theorem O9 (w:BitVec 64):(W w).size=1:=rfl
theorem TO (w:BitVec 64):(W w).isAgg=false:=rfl
theorem Ii (w:BitVec 8):(B w).solid=true:=rfl
theorem OD (w:BitVec 8):(B w).size=1:=rfl
theorem Ut (w:BitVec 8):(B w).isAgg=false:=rfl
theorem Rc (H:Hp) (m z:List Nat) (a b:BitVec 64):Az H m z (W a) (W b) ↔ b=a:=by
 simp only [Az,W,V.int.injEq,true_and]
 constructor
 ·intro h;exact BitVec.eq_of_toNat_eq Aa
 ·rintro rfl;rfl
theorem QA (H:Hp) (m z:List Nat) (a b:BitVec 8):Az H m z (B a) (B b) ↔ b=a:=by
 simp only [Az,B,V.int.injEq,true_and]
 constructor
 ·intro h;exact BitVec.eq_of_toNat_eq Aa
 ·rintro rfl;rfl
theorem NM {p:Prop} [Decidable p] (a b:BitVec 64):(if p then W a else W b)=W (if p then a else b):=by split <;> rfl
theorem KU {p:Prop} [Decidable p] (a b:BitVec 8):(if p then B a else B b)=B (if p then a else b):=by split <;> rfl
theorem K6 (H:Hp) (m z:List Nat) (u:V):Bi H m z .junk u=True:=rfl
theorem Ns (H:Hp) (m z:List Nat) (k:IntKind) (n:Int) (u:V):Bi H m z (V.int k n) u=Az H m z (V.int k n) u:=rfl
theorem KA (H:Hp) (m z:List Nat) (b:Bool) (u:V):Bi H m z (V.bool b) u=Az H m z (V.bool b) u:=rfl
theorem MO (H:Hp) (m z:List Nat) (s:ByteArray) (u:V):Bi H m z (V.str s) u=Az H m z (V.str s) u:=rfl
theorem KO (H:Hp) (m z:List Nat) (u:V):Bi H m z V.nilp u=Az H m z V.nilp u:=rfl
theorem NZ (H:Hp) (m z:List Nat) (i:Nat) (p:List Stp) (u:V):Bi H m z (V.ptr i p) u=Az H m z (V.ptr i p) u:=rfl
theorem Nf (H:Hp) (m z:List Nat) (v:V) (u:V):Bi H m z (V.imm v) u=Az H m z (V.imm v) u:=rfl
theorem KK (H:Hp) (m z:List Nat) (u:V):Bi H m z V.nils u=Az H m z V.nils u:=rfl
theorem QR (H:Hp) (m z:List Nat) (i:Nat) (p:List Stp) (o n sz:Nat) (u:V):Bi H m z (V.sl i p o n sz) u=Az H m z (V.sl i p o n sz) u:=rfl
theorem NI (H:Hp) (m z:List Nat) (sz n:Nat) (f:Nat→V) (u:V):Bi H m z (V.lst sz n f) u=Az H m z (V.lst sz n f) u:=rfl
theorem KT (H:Hp) (m z:List Nat) (u:V):Bi H m z V.nilm u=Az H m z V.nilm u:=rfl
theorem NP (H:Hp) (m z:List Nat) (i:Nat) (u:V):Bi H m z (V.map i) u=Az H m z (V.map i) u:=rfl
theorem Lc (H:Hp) (m z:List Nat) (u:V):Bi H m z V.nilf u=Az H m z V.nilf u:=rfl
theorem Qq (H:Hp) (m z:List Nat) (f:Nat) (c:V) (u:V):Bi H m z (V.fn f c) u=Az H m z (V.fn f c) u:=rfl
theorem La (H:Hp) (m z:List Nat) (u:V):Bi H m z V.nili u=Az H m z V.nili u:=rfl
theorem M7 (H:Hp) (m z:List Nat) (t:Nat) (v:V) (u:V):Bi H m z (V.ifc t v) u=Az H m z (V.ifc t v) u:=rfl
theorem Ri (H:Hp) (m z:List Nat) (n:Nat) (fs:V) (u:V):Bi H m z (V.st n fs) u=Az H m z (V.st n fs) u:=rfl
theorem QS (H:Hp) (m z:List Nat) (sz n:Nat) (f:Nat→V) (u:V):Bi H m z (V.ar sz n f) u=Az H m z (V.ar sz n f) u:=rfl
theorem Ob (H:Hp) (m z:List Nat) (fs:V) (u:V):Bi H m z (V.tup fs) u=Az H m z (V.tup fs) u:=rfl
theorem Vq (H:Hp) (m z:List Nat) (a:BitVec 64) (u:V):Bi H m z (W a) u=Az H m z (W a) u:=rfl
theorem US (H:Hp) (m z:List Nat) (a:BitVec 8) (u:V):Bi H m z (B a) u=Az H m z (B a) u:=rfl
theorem Afo (m:List Nat) (a:BitVec 64):(W a).ren m=W a:=rfl
theorem Ag7 (m:List Nat) (a:BitVec 8):(B a).ren m=B a:=rfl
theorem Acs (m:List Nat) (s:List (BitVec 64)) (j:Nat):(ws s j).ren m=ws s j:=rfl
theorem AE {M:Seat} {f:Nat} {us us0:List V} {H:Hp} {n:Nat} {K:V→Hp→Prop} {v:V} (hr:Ag M f us0 [] 0 (Q3 v [] 0)) (hus:Bd H [] [] us0 us) (hv:v.ren (Bh [] n 0)=v) (hK:K v H):AR M f us H n K:=by
 refine BE hr False [] [] List.nodup_nil B5 rfl B5 hus trivial ?_
 rintro v' H' k' ⟨rfl,rfl,rfl⟩
 refine ⟨⟨by omega,fun h=>h.elim⟩,?_⟩
 rw [hv]
 simpa [AV,A6] using hK
theorem WW (m:List Nat) (s:List (BitVec 8)) (j:Nat):(bys s j).ren m=bys s j:=rfl
theorem Wp (k:IntKind) (a b:Int) (H:Hp):AP .add (.int k a) (.int k b) H=⟨True,.int k (k.wrap (a + b)),H⟩:=G7
theorem V8 (k:IntKind) (a b:Int) (H:Hp):AP .sub (.int k a) (.int k b) H=⟨True,.int k (k.wrap (a - b)),H⟩:=G7
theorem V6 (k:IntKind) (a b:Int) (H:Hp):AP .mul (.int k a) (.int k b) H=⟨True,.int k (k.wrap (a * b)),H⟩:=G7
theorem VW (k:IntKind) (a b:Int) (H:Hp):AP .quo (.int k a) (.int k b) H=⟨b ≠ 0,.int k (k.wrap (a.tdiv b)),H⟩:=G7
theorem TT (k:IntKind) (a b:Int) (H:Hp):AP .rem (.int k a) (.int k b) H=⟨b ≠ 0,.int k (a.tmod b),H⟩:=G7
theorem Wd (k k':IntKind) (a b:Int) (H:Hp):AP .shl (.int k a) (.int k' b) H=⟨0≤b,.int k (k.wrap (a * 2 ^ min b.toNat k.bits)),H⟩:=rfl
theorem Wi (k k':IntKind) (a b:Int) (H:Hp):AP .shr (.int k a) (.int k' b) H=⟨0≤b,.int k (a.fdiv (2 ^ min b.toNat k.bits)),H⟩:=rfl
theorem TF (k:IntKind) (a b:Int) (H:Hp):AP .lss (.int k a) (.int k b) H=⟨True,.bool (decide (a < b)),H⟩:=G7
theorem Tr (k:IntKind) (a b:Int) (H:Hp):AP .leq (.int k a) (.int k b) H=⟨True,.bool (decide (a≤b)),H⟩:=G7
theorem UP (k:IntKind) (a b:Int) (H:Hp):AP .gtr (.int k a) (.int k b) H=⟨True,.bool (decide (b < a)),H⟩:=G7
theorem UI (k:IntKind) (a b:Int) (H:Hp):AP .geq (.int k a) (.int k b) H=⟨True,.bool (decide (b≤a)),H⟩:=G7
theorem UH (k:IntKind) (a b:Int) (H:Hp):AP .eql (.int k a) (.int k b) H=⟨True,.bool (decide (a=b)),H⟩:=G7
theorem TN (k:IntKind) (a b:Int) (H:Hp):AP .neq (.int k a) (.int k b) H=⟨True,.bool (!decide (a=b)),H⟩:=G7
theorem Z4 (k:IntKind) (a b:Int) (H:Hp):AP .and (.int k a) (.int k b) H=⟨True,.int k (k.wrap ((BitVec.ofInt k.bits a &&& BitVec.ofInt k.bits b).toNat)),H⟩:=G7
theorem Aia (k:IntKind) (a b:Int) (H:Hp):AP .or (.int k a) (.int k b) H=⟨True,.int k (k.wrap ((BitVec.ofInt k.bits a ||| BitVec.ofInt k.bits b).toNat)),H⟩:=G7
theorem Z5 (k:IntKind) (a b:Int) (H:Hp):AP .xor (.int k a) (.int k b) H=⟨True,.int k (k.wrap ((BitVec.ofInt k.bits a ^^^ BitVec.ofInt k.bits b).toNat)),H⟩:=G7
theorem Un (b:Bool) (H:Hp):ST .not (.bool b) H=⟨True,.bool (!b),H⟩:=rfl
end Mv
