/- A part. -/
import Derived.Test.YtncipgmjhaiagaaGreatDoorGL
set_option linter.all false
set_option maxRecDepth 10000
namespace Mv
open Go
theorem BB (n:Nat) (a:Nat):BitVec.ofInt n (a:Int)=BitVec.ofNat n a:=by
 apply BitVec.eq_of_toNat_eq
 simp
theorem VO {a b:Nat} (ha:a < 18446744073709551616) (hb:b < 18446744073709551616):IntKind.u64.wrap (((BitVec.ofInt IntKind.u64.bits (a:Int) ||| BitVec.ofInt IntKind.u64.bits (b:Int)).toNat:Nat):Int)=((a ||| b:Nat):Int):=by
 have h:a ||| b < 2 ^ 64:=Nat.or_lt_two_pow Aa Aa
 rw [BB,BB,BitVec.toNat_or,BitVec.toNat_ofNat,BitVec.toNat_ofNat,Nat.mod_eq_of_lt (by simpa [IntKind.bits] using ha),Nat.mod_eq_of_lt (by simpa [IntKind.bits] using hb)]
 exact Cy Aa
theorem S1 {a b:Nat} (ha:a < 18446744073709551616) (hb:b < 18446744073709551616):IntKind.u64.wrap (((BitVec.ofInt IntKind.u64.bits (a:Int) &&& BitVec.ofInt IntKind.u64.bits (b:Int)).toNat:Nat):Int)=((a &&& b:Nat):Int):=by
 have h:a &&& b < 2 ^ 64:=Nat.lt_of_le_of_lt Nat.and_le_left Aa
 rw [BB,BB,BitVec.toNat_and,BitVec.toNat_ofNat,BitVec.toNat_ofNat,Nat.mod_eq_of_lt (by simpa [IntKind.bits] using ha),Nat.mod_eq_of_lt (by simpa [IntKind.bits] using hb)]
 exact Cy Aa
theorem Ss {a b:Nat} (ha:a < 18446744073709551616) (hb:b < 18446744073709551616):IntKind.u64.wrap (((BitVec.ofInt IntKind.u64.bits (a:Int) ^^^ BitVec.ofInt IntKind.u64.bits (b:Int)).toNat:Nat):Int)=((a ^^^ b:Nat):Int):=by
 have h:a ^^^ b < 2 ^ 64:=Nat.xor_lt_two_pow Aa Aa
 rw [BB,BB,BitVec.toNat_xor,BitVec.toNat_ofNat,BitVec.toNat_ofNat,Nat.mod_eq_of_lt (by simpa [IntKind.bits] using ha),Nat.mod_eq_of_lt (by simpa [IntKind.bits] using hb)]
 exact Cy Aa
theorem Ab3 {a:Nat} (ha:a < 18446744073709551616):IntKind.u64.wrap (((BitVec.ofInt IntKind.u64.bits (if IntKind.u64.signed=true then -1 else IntKind.u64.max) ^^^ BitVec.ofInt IntKind.u64.bits (a:Int)).toNat:Nat):Int)=((18446744073709551615 ^^^ a:Nat):Int):=by
 have e1:(if IntKind.u64.signed=true then (-1:Int) else IntKind.u64.max)=((18446744073709551615:Nat):Int):=Bx
 rw [e1,Ss Aa ha]
theorem Acr {a k:Nat} (hk:k < 64):IntKind.u64.wrap ((a:Int) * 2 ^ min (k:Int).toNat IntKind.u64.bits)=((a <<< k % 18446744073709551616:Nat):Int):=by
 have e1:min (k:Int).toNat IntKind.u64.bits=k:=by simp only [IntKind.bits];omega
 rw [e1,Dw,Nat.shiftLeft_eq,Int.natCast_emod,Int.natCast_mul,Int.natCast_pow]
 rfl
theorem Aam {a k:Nat} (hk:k≤64):(a:Int).fdiv (2 ^ min (k:Int).toNat IntKind.u64.bits)=((a >>> k:Nat):Int):=by
 have e1:min (k:Int).toNat IntKind.u64.bits=k:=by simp only [IntKind.bits];omega
 rw [e1,Int.fdiv_eq_ediv_of_nonneg _ (Int.pow_nonneg Aa),Nat.shiftRight_eq_div_pow,Int.natCast_ediv,Int.natCast_pow]
 rfl
def TI (x k:Nat):Nat:=(x <<< k % 18446744073709551616) ||| (x >>> (64 - k))
theorem Acd {x k:Nat} (hx:x < 18446744073709551616):TI x k < 18446744073709551616:=by
 have h1:x <<< k % 18446744073709551616 < 2 ^ 64:=Nat.mod_lt _ Aa
 have h2:x >>> (64 - k) < 2 ^ 64:=by
  rw [Nat.shiftRight_eq_div_pow]
  exact Nat.lt_of_le_of_lt (Nat.div_le_self _ _) Aa
 exact Nat.or_lt_two_pow h1 h2
theorem Hh (A:List V) (v:V):put A none v=A:=rfl
theorem QR (A:List V) (d:Option Nat) (v:V):(put A d v).length=A.length:=by cases d <;> simp [put]
theorem VS {A:List V} {i:Nat} {v:V} (h:i < A.length):(put A (some i) v).getD i .junk=v:=by simp [put,List.getD,h]
theorem Agj {A:List V} {i t:Nat} {v:V} (h:i ≠ t):(put A (some i) v).getD t .junk=A.getD t .junk:=by simp [put,List.getD,List.getElem?_set_ne h]
def fr (n:Nat):List (Nat × V)→List V
 | []=>List.replicate n .junk
 | (t,v) :: r=>put (fr n r) (some t) v
theorem BH (n:Nat):∀ l,(fr n l).length=n
 | []=>by simp [fr]
 | (t,v) :: r=>by simp [fr,QR,BH n r]
theorem GO (n t:Nat):(fr n []).getD t .junk = .junk:=by
 simp only [fr,List.getD,List.getElem?_replicate]
 split <;> rfl
theorem Ea {n t:Nat} {v:V} {r:List (Nat × V)} (h:t < n):(fr n ((t,v) :: r)).getD t .junk=v:=VS (by rw [BH];exact h)
theorem Je {n t i:Nat} {v:V} {r:List (Nat × V)} (h:i ≠ t):(fr n ((i,v) :: r)).getD t .junk=(fr n r).getD t .junk:=Agj h
theorem Od (n t:Nat) (v:V) (r:List (Nat × V)):put (fr n r) (some t) v=fr n ((t,v) :: r):=rfl
def YQ:Nat→List V→List (Nat × V)→List (Nat × V)
 | _,[],acc=>acc
 | i,u :: r,acc=>YQ (i + 1) r ((i,u) :: acc)
def La0:=(aq9 (Apk @BEq.rfl.{0} @Int.cast_ofNat_Int @LK.isA.eq_1 @LK.isA.eq_2 @LK.isA.eq_3 @LK.isA.eq_4 @LK.isA.eq_5 @LK.isA.eq_6 @LK.isA.eq_7 @LK.isP.eq_1 @LK.isP.eq_2 @LK.isP.eq_3 @LK.isP.eq_4 @LK.isP.eq_5 @LK.isP.eq_6) (Apk @LK.isP.eq_7 @LK.isP.eq_8 @LK.isP.eq_9 @LK.isP.eq_10 @LK.isP.eq_11 @LK.isW.eq_1 @LK.isW.eq_2 @LK.isW.eq_3 @LK.isW.eq_4 @LK.isW.eq_5 @LK.isW.eq_6 @LK.isW.eq_7 @List.cons_append.{0} @List.filter_cons.{0} @List.filter_nil.{0}) (Apk @List.length_cons.{0} @List.length_nil.{0} (@List.map_cons.{0,0}) (@List.map_nil.{0,0}) @List.nil_append.{0} @hx.eq_1 @V.fget.eq_1 @V.fget.eq_2 @V.fhas.eq_1 @V.fhas.eq_2 @V.fset.eq_1 @V.fset.eq_2 @V.get.eq_1 @V.get.eq_2 @V.get.eq_3) (Apk @V.get.eq_4 @V.get.eq_5 @V.ok.eq_1 @V.ok.eq_2 @V.ok.eq_3 @V.ok.eq_4 @V.ok.eq_5 @V.set.eq_1 @V.set.eq_2 @V.set.eq_3 @V.set.eq_4 @X.ev.eq_1 @X.ev.eq_2 @X.ev.eq_3 @X.ev.eq_4) (Apk @Z.sz.eq_1 @Z.sz.eq_2 @Z.sz.eq_3 @Z.sz.eq_4 @Z.sz.eq_5 @Z.v.eq_1 @Z.v.eq_2 @Z.v.eq_3 @Z.v.eq_4 @Z.v.eq_5 @Z.v.eq_6 @Z.v.eq_7 @Z.v.eq_8 @Z.v.eq_9 @Z.v.eq_10) (Apk @Z.v.eq_11 @Z.v.eq_12 @bs.eq_1 @cond_false.{1} @cond_true.{1} @BX.eq_1 @BX.eq_2 @BX.eq_3 @CN.eq_1 @CN.eq_2 @CN.eq_3 @CN.eq_4 @BF.eq_1 @BF.eq_2 @TZ.eq_1) (Apk @TZ.eq_2 @F2.eq_1 @F2.eq_2 @forall_const.{0} @forall_const.{1} @BO.eq_1 @BO.eq_2 @hget.eq_1 @hget.eq_2 @Ae.eq_1 @Ae.eq_2 @Ch.eq_1 @Ch.eq_2 @Dq.eq_1 @Dq.eq_2) (Apk @if_false.{1} @if_true.{1} @Ox.eq_1 @Ox.eq_2 @ite_false.{1} @ite_true.{1} @ne_eq.{1} @H4.eq_1 @H4.eq_2 @H4.eq_3 @YQ.eq_1 @YQ.eq_2 @B4.eq_1 @B4.eq_2 @CJ.eq_1) (Apm @CJ.eq_2 @CJ.eq_3 @BY.eq_1 @BY.eq_2 @By.eq_1 @By.eq_2 @DQ.eq_1 @DQ.eq_2 @C8.eq_1 @C8.eq_2 @AA.eq_1 @AA.eq_2 @F4.eq_1 @F4.eq_2 @G3.eq_1 @G3.eq_2))
theorem X6 (n:Nat):∀ (us:List V) (i:Nat) (acc:List (Nat × V)) (pre:List V),pre.length=i→fr n acc=pre ++ List.replicate (n - i) .junk→i + us.length≤n→fr n (YQ i us acc)=pre ++ us ++ List.replicate (n - i - us.length) .junk
 | [],i,acc,pre,_,h,_=>by simpa [YQ] using h
 | u :: r, i, acc, pre, hp, h, hl => by
   simp only [List.length_cons] at hl
   have h2:fr n ((i,u) :: acc)=(pre ++ [u]) ++ List.replicate (n - (i + 1)) .junk:=by
    simp only [fr,put,h]
    have e1:n - i=(n - (i + 1)) + 1:=Aa
    rw [e1,List.replicate_succ]
    apply List.ext_getElem?
    intro k
    by_cases hk:k=i
    ·subst hk
     rw [List.getElem?_set_self (by simp [hp])]
     rw [List.getElem?_append_left (by simp [hp])]
     rw [List.getElem?_append_right Aa]
     simp [hp]
    ·rw [List.getElem?_set_ne (Ne.symm hk)]
     by_cases hk2:k < i
     ·rw [List.getElem?_append_left Aa,List.getElem?_append_left Cd,List.getElem?_append_left Aa]
     ·rw [List.getElem?_append_right Aa,List.getElem?_append_right Cd]
      have e2:k - pre.length=(k - (pre ++ [u]).length) + 1:=Cd
      rw [e2,List.getElem?_cons_succ]
   have:=X6 n r (i + 1) ((i,u) :: acc) (pre ++ [u]) (by simp [hp]) h2 Aa
   simp only [YQ]
   rw [this]
   have e3:n - (i + 1) - r.length=n - i - (u :: r).length:=Cd
   rw [e3]
   simp
theorem UC {us:List V} {n:Nat} (h:us.length≤n):GI us n=fr n (YQ 0 us []):=by
 rw [X6 n us 0 [] [] rfl (by simp [fr]) Aa]
 simp [GI]
theorem Ac {M:Seat} {f:Nat} {lf:LF} {us:List V} {H:Hp} {k:Nat} {Q:V→Hp→Nat→Prop} (hf:Al M f lf=true) (hn:decide (us.length≤lf.nt)=true)
 (h:∀ x:Ctx,x.k=k→Bl M x (Aq M x lf.rs Q) [.code lf.c] k (fr lf.nt (YQ 0 us [])) H):Af M f us H k Q:=by
 refine Up hf fun x hx=>?_
 rw [UC (of_decide_eq_true hn)]
 exact h x hx
def Lj (H:Hp) (m z:List Nat) (A:List V):List (Nat × V)→Prop
 | []=>True
 | (t,v) :: r=>Bd H m z v (A.getD t .junk)∧Lj H m z A r
def La4:=(aq4 (Apo @List.getElem?_cons_succ.{0} @List.getElem?_cons_zero.{0} @List.getElem?_nil.{0} @Option.some.injEq.{0} @Aw.eq_1 @Aw.eq_2 @Aw.eq_3 @Aw.eq_4 @Aw.eq_5 @Aw.eq_6 @Aw.eq_7 @Aw.eq_8) (Apo @Aw.eq_9 @Aw.eq_10 @Aw.eq_11 @Aw.eq_12 @Aw.eq_13 @Aw.eq_14 @Aw.eq_15 @Aw.eq_16 @Aw.eq_17 @Aw.eq_18 @Aw.eq_19 @Aw.eq_20) (Apo @Aw.eq_21 @Aw.eq_22 @Aw.eq_23 @Aw.eq_24 @Aw.eq_25 @Aw.eq_26 @Aw.eq_27 @Aw.eq_28 @Aw.eq_29 @Aw.eq_30 @Aw.eq_31 @Aw.eq_32) (App @Aw.eq_33 @Aw.eq_34 @Aw.eq_35 @Aw.eq_36 @Aw.eq_37 @AV.eq_1 @AV.eq_2 @AV.eq_3 @Bk.eq_1 @Bk.eq_2 @Lj.eq_1 @Lj.eq_2 @Ux.eq_1))
theorem NE {H:Hp} {m z:List Nat}:∀ {A B:List V},A.length=B.length→(∀ t,Bd H m z (A.getD t .junk) (B.getD t .junk))→AV H m z A B
 | [],[],_,_=>trivial
 | _ :: _,_ :: _,hl,h=>⟨by simpa using h 0,NE Py (fun t=>by simpa using h (t + 1))⟩
 | [],_ :: _,hl,_=>by simp at hl
 | _ :: _,[],hl,_=>by simp at hl
theorem La {H:Hp} {m z:List Nat} {A:List V} {n:Nat}:∀ {l:List (Nat × V)},Lj H m z A l→∀ t,t < n→Bd H m z ((fr n l).getD t .junk) (A.getD t .junk)
 | [],_,t,_=>by rw [GO];trivial
 | (i, v) :: r, h, t, ht => by
   by_cases hit:i=t
   ·subst hit;rw [Ea ht];exact h.1
   ·rw [Je hit];exact La h.2 t ht
theorem Aj.fr {M:Seat} {c:Ctx} {A:List V} {H:Hp} {N n:Nat} (m z:List Nat) {k:Nat} (hck:c.k=k) {l:List (Nat × V)} {H':Hp} {N':Nat} (hlen:A.length=n)
 (hm:(decide m.Nodup && z.all (fun i=>!m.contains i) && decide (m.length≤N') && decide (k≤N') && (List.range k).all (fun j=>m[j]? == some j))=true)
 (hA:Lj H m z A l) (hH:Bk H m z H'):Aj M c A H N (Mv.fr n l) H' N':=by
 refine Aj.at m z hck hm (NE (by rw [BH,hlen]) (fun t=>?_)) hH
 by_cases ht:t < n
 ·exact La hA t ht
 ·have:(Mv.fr n l).getD t .junk = .junk:=by rw [List.getD_eq_getElem?_getD,List.getElem?_eq_none (by rw [BH];omega)];rfl
  rw [this];trivial
def W (w:BitVec 64):V:=.int .u64 (w.toNat:Int)
def Lcd:=(aq2 @Int.toNat_natCast @W.eq_1)
def B (b:BitVec 8):V:=.int .u8 (b.toNat:Int)
theorem OR (w:BitVec 64):w.toNat < 18446744073709551616:=w.isLt
theorem GY (a b:BitVec 64) (H:Hp):AK .xor (W a) (W b) H=⟨True,W (a ^^^ b),H⟩:=by
 have h:=Ss (OR a) (OR b)
 simp only [AK,W]
 rw [h,BitVec.toNat_xor]
theorem Hb (a b:BitVec 64) (H:Hp):AK .and (W a) (W b) H=⟨True,W (a &&& b),H⟩:=by
 have h:=S1 (OR a) (OR b)
 simp only [AK,W]
 rw [h,BitVec.toNat_and]
theorem GW (a b:BitVec 64) (H:Hp):AK .or (W a) (W b) H=⟨True,W (a ||| b),H⟩:=by
 have h:=VO (OR a) (OR b)
 simp only [AK,W]
 rw [h,BitVec.toNat_or]
theorem J0 (a:BitVec 64) (H:Hp):Vk .xor (W a) H=⟨True,W (~~~a),H⟩:=by
 have h:(18446744073709551615 ^^^ a.toNat:Nat)=(~~~a).toNat:=by
  have h2:BitVec.allOnes 64 ^^^ a = ~~~a:=BitVec.allOnes_xor
  rw [← h2,BitVec.toNat_xor];rfl
 have h3:=Ab3 (OR a)
 simp only [Vk,W]
 rw [h3,h]
def Qk (x:BitVec 64) (k:Nat):BitVec 64:=x <<< k ||| x >>> (64 - k)
theorem Oq (x:BitVec 64) (k:Nat):TI x.toNat k=(Qk x k).toNat:=by
 simp only [TI,Qk,BitVec.toNat_or,BitVec.toNat_shiftLeft,BitVec.toNat_ushiftRight]
def ws (s:List (BitVec 64)):Nat→V:=fun j=>W (s.getD j 0)
def bys (s:List (BitVec 8)):Nat→V:=fun j=>B (s.getD j 0)
theorem Jf (s:List (BitVec 64)) (j:Nat):ws s j=W (s.getD j 0):=rfl
theorem Iq (s:List (BitVec 8)) (j:Nat):bys s j=B (s.getD j 0):=rfl
theorem Ib (w:BitVec 64):(W w).solid=true:=rfl
theorem NY (w:BitVec 64):(W w).size=1:=rfl
theorem SX (w:BitVec 64):(W w).isAgg=false:=rfl
theorem Hm (w:BitVec 8):(B w).solid=true:=rfl
theorem N3 (w:BitVec 8):(B w).size=1:=rfl
theorem Tf (w:BitVec 8):(B w).isAgg=false:=rfl
theorem Ds (H:Hp) (m z:List Nat) (a b:BitVec 64):Aw H m z (W a) (W b) ↔ b=a:=by
 simp only [Aw,W,V.int.injEq,true_and]
 constructor
 ·intro h;exact BitVec.eq_of_toNat_eq Aa
 ·rintro rfl;rfl
theorem Gv (H:Hp) (m z:List Nat) (a b:BitVec 8):Aw H m z (B a) (B b) ↔ b=a:=by
 simp only [Aw,B,V.int.injEq,true_and]
 constructor
 ·intro h;exact BitVec.eq_of_toNat_eq Aa
 ·rintro rfl;rfl
theorem JZ {p:Prop} [Decidable p] (a b:BitVec 64):(if p then W a else W b)=W (if p then a else b):=by split <;> rfl
theorem Ki {p:Prop} [Decidable p] (a b:BitVec 8):(if p then B a else B b)=B (if p then a else b):=by split <;> rfl
theorem M1 (H:Hp) (m z:List Nat) (u:V):Bd H m z .junk u=True:=rfl
theorem PF (H:Hp) (m z:List Nat) (k:IntKind) (n:Int) (u:V):Bd H m z (V.int k n) u=Aw H m z (V.int k n) u:=rfl
theorem Mp (H:Hp) (m z:List Nat) (b:Bool) (u:V):Bd H m z (V.bool b) u=Aw H m z (V.bool b) u:=rfl
theorem Oy (H:Hp) (m z:List Nat) (s:ByteArray) (u:V):Bd H m z (V.str s) u=Aw H m z (V.str s) u:=rfl
theorem MC (H:Hp) (m z:List Nat) (u:V):Bd H m z V.nilp u=Aw H m z V.nilp u:=rfl
theorem PN (H:Hp) (m z:List Nat) (i:Nat) (p:List Stp) (u:V):Bd H m z (V.ptr i p) u=Aw H m z (V.ptr i p) u:=rfl
theorem Pc (H:Hp) (m z:List Nat) (v:V) (u:V):Bd H m z (V.imm v) u=Aw H m z (V.imm v) u:=rfl
theorem Ma (H:Hp) (m z:List Nat) (u:V):Bd H m z V.nils u=Aw H m z V.nils u:=rfl
theorem Sr (H:Hp) (m z:List Nat) (i:Nat) (p:List Stp) (o n sz:Nat) (u:V):Bd H m z (V.sl i p o n sz) u=Aw H m z (V.sl i p o n sz) u:=rfl
theorem Ok (H:Hp) (m z:List Nat) (sz n:Nat) (f:Nat→V) (u:V):Bd H m z (V.lst sz n f) u=Aw H m z (V.lst sz n f) u:=rfl
theorem Ms (H:Hp) (m z:List Nat) (u:V):Bd H m z V.nilm u=Aw H m z V.nilm u:=rfl
theorem PA (H:Hp) (m z:List Nat) (i:Nat) (u:V):Bd H m z (V.map i) u=Aw H m z (V.map i) u:=rfl
theorem Mi (H:Hp) (m z:List Nat) (u:V):Bd H m z V.nilf u=Aw H m z V.nilf u:=rfl
theorem Tl (H:Hp) (m z:List Nat) (f:Nat) (c:V) (u:V):Bd H m z (V.fn f c) u=Aw H m z (V.fn f c) u:=rfl
theorem Mh (H:Hp) (m z:List Nat) (u:V):Bd H m z V.nili u=Aw H m z V.nili u:=rfl
theorem O8 (H:Hp) (m z:List Nat) (t:Nat) (v:V) (u:V):Bd H m z (V.ifc t v) u=Aw H m z (V.ifc t v) u:=rfl
theorem Su (H:Hp) (m z:List Nat) (n:Nat) (fs:V) (u:V):Bd H m z (V.st n fs) u=Aw H m z (V.st n fs) u:=rfl
theorem SC (H:Hp) (m z:List Nat) (sz n:Nat) (f:Nat→V) (u:V):Bd H m z (V.ar sz n f) u=Aw H m z (V.ar sz n f) u:=rfl
theorem OL (H:Hp) (m z:List Nat) (fs:V) (u:V):Bd H m z (V.tup fs) u=Aw H m z (V.tup fs) u:=rfl
theorem Wp (H:Hp) (m z:List Nat) (a:BitVec 64) (u:V):Bd H m z (W a) u=Aw H m z (W a) u:=rfl
theorem Wd (H:Hp) (m z:List Nat) (a:BitVec 8) (u:V):Bd H m z (B a) u=Aw H m z (B a) u:=rfl
theorem Amm (m:List Nat) (a:BitVec 64):(W a).ren m=W a:=rfl
theorem Al7 (m:List Nat) (a:BitVec 8):(B a).ren m=B a:=rfl
theorem Aip (m:List Nat) (s:List (BitVec 64)) (j:Nat):(ws s j).ren m=ws s j:=rfl
theorem AB {M:Seat} {f:Nat} {us us0:List V} {H:Hp} {n:Nat} {K:V→Hp→Prop} {v:V} (hr:Af M f us0 [] 0 (Q3 v [] 0)) (hus:AV H [] [] us0 us) (hv:v.ren (Bc [] n 0)=v) (hK:K v H):AS M f us H n K:=by
 refine B3 hr False [] [] List.nodup_nil Bu rfl Bu hus trivial ?_
 rintro v' H' k' ⟨rfl,rfl,rfl⟩
 refine ⟨⟨by omega,fun h=>h.elim⟩,?_⟩
 rw [hv]
 simpa [AQ,A4] using hK
theorem Abq (m:List Nat) (s:List (BitVec 8)) (j:Nat):(bys s j).ren m=bys s j:=rfl
theorem Te (k:IntKind) (a b:Int) (H:Hp):AK .add (.int k a) (.int k b) H=⟨True,.int k (k.wrap (a + b)),H⟩:=HO
theorem RU (k:IntKind) (a b:Int) (H:Hp):AK .sub (.int k a) (.int k b) H=⟨True,.int k (k.wrap (a - b)),H⟩:=HO
theorem Sl (k:IntKind) (a b:Int) (H:Hp):AK .mul (.int k a) (.int k b) H=⟨True,.int k (k.wrap (a * b)),H⟩:=HO
theorem Tj (k:IntKind) (a b:Int) (H:Hp):AK .quo (.int k a) (.int k b) H=⟨b ≠ 0,.int k (k.wrap (a.tdiv b)),H⟩:=HO
theorem SP (k:IntKind) (a b:Int) (H:Hp):AK .rem (.int k a) (.int k b) H=⟨b ≠ 0,.int k (a.tmod b),H⟩:=HO
theorem Sd (k k':IntKind) (a b:Int) (H:Hp):AK .shl (.int k a) (.int k' b) H=⟨0≤b,.int k (k.wrap (a * 2 ^ min b.toNat k.bits)),H⟩:=rfl
theorem Sy (k k':IntKind) (a b:Int) (H:Hp):AK .shr (.int k a) (.int k' b) H=⟨0≤b,.int k (a.fdiv (2 ^ min b.toNat k.bits)),H⟩:=rfl
theorem Tu (k:IntKind) (a b:Int) (H:Hp):AK .lss (.int k a) (.int k b) H=⟨True,.bool (decide (a < b)),H⟩:=HO
theorem S3 (k:IntKind) (a b:Int) (H:Hp):AK .leq (.int k a) (.int k b) H=⟨True,.bool (decide (a≤b)),H⟩:=HO
theorem SF (k:IntKind) (a b:Int) (H:Hp):AK .gtr (.int k a) (.int k b) H=⟨True,.bool (decide (b < a)),H⟩:=HO
theorem Sx (k:IntKind) (a b:Int) (H:Hp):AK .geq (.int k a) (.int k b) H=⟨True,.bool (decide (b≤a)),H⟩:=HO
theorem SI (k:IntKind) (a b:Int) (H:Hp):AK .eql (.int k a) (.int k b) H=⟨True,.bool (decide (a=b)),H⟩:=HO
theorem RZ (k:IntKind) (a b:Int) (H:Hp):AK .neq (.int k a) (.int k b) H=⟨True,.bool (!decide (a=b)),H⟩:=HO
theorem Y6 (k:IntKind) (a b:Int) (H:Hp):AK .and (.int k a) (.int k b) H=⟨True,.int k (k.wrap ((BitVec.ofInt k.bits a &&& BitVec.ofInt k.bits b).toNat)),H⟩:=HO
theorem Ahb (k:IntKind) (a b:Int) (H:Hp):AK .or (.int k a) (.int k b) H=⟨True,.int k (k.wrap ((BitVec.ofInt k.bits a ||| BitVec.ofInt k.bits b).toNat)),H⟩:=HO
theorem WW (k:IntKind) (a b:Int) (H:Hp):AK .xor (.int k a) (.int k b) H=⟨True,.int k (k.wrap ((BitVec.ofInt k.bits a ^^^ BitVec.ofInt k.bits b).toNat)),H⟩:=HO
theorem S5 (b:Bool) (H:Hp):Vk .not (.bool b) H=⟨True,.bool (!b),H⟩:=rfl
def Cg (k:IntKind) (v:V) (H:Hp):Out:=match v with
 | .int _ a=>⟨True,.int k (k.wrap a),H⟩
 | _=>BR H
theorem Ab (A:List V) (H:Hp) (n:Nat) (k:IntKind) (x:X):Ad A H n (.conv k x)=Cg k (x.ev A) H:=rfl
theorem Iu (k k':IntKind) (a:Int) (H:Hp):Cg k (.int k' a) H=⟨True,.int k (k.wrap a),H⟩:=rfl
theorem JJ (b:BitVec 8) (H:Hp):Cg .u64 (B b) H=⟨True,W (b.setWidth 64),H⟩:=by
 have h:=b.isLt
 simp only [Cg,B,W,Dw,BitVec.toNat_setWidth]
 congr 2
theorem J6 (w:BitVec 64) (H:Hp):Cg .u8 (W w) H=⟨True,B (w.setWidth 8),H⟩:=by
 simp only [Cg,B,W,KB,BitVec.toNat_setWidth]
 congr 2
theorem Ii (w:BitVec 64) (H:Hp):Cg .i64 (W w) H=⟨True,.int .i64 (IntKind.i64.wrap (w.toNat:Int)),H⟩:=rfl
theorem Ie (w:BitVec 8) (H:Hp):Cg .i64 (B w) H=⟨True,.int .i64 (w.toNat:Int),H⟩:=by
 have h:=w.isLt
 simp only [Cg,B]
 rw [AI Aa]
theorem E5 (a:BitVec 64) (k:IntKind) (b:Int) (H:Hp):AK .shl (W a) (.int k b) H=⟨0≤b,W (a <<< b.toNat),H⟩:=by
 simp only [AK,W,Dw,BitVec.toNat_shiftLeft,Nat.shiftLeft_eq,IntKind.bits]
 congr 2
 by_cases hb:b.toNat≤64
 ·rw [Nat.min_eq_left hb]
  rw [Int.natCast_emod,Int.natCast_mul,Int.natCast_pow]
  rfl
 ·rw [Nat.min_eq_right Aa]
  have e1:a.toNat * 2 ^ b.toNat % 2 ^ 64=0:=by
   have:b.toNat=64 + (b.toNat - 64):=Aa
   rw [this,Nat.pow_add,← Nat.mul_assoc,Nat.mul_right_comm]
   exact Nat.mul_mod_left _ _
  rw [e1]
  have e2:(2:Int) ^ 64=18446744073709551616:=Ak
  rw [e2];omega
theorem Fv (a:BitVec 64) (k:IntKind) (b:Int) (H:Hp):AK .shr (W a) (.int k b) H=⟨0≤b,W (a >>> b.toNat),H⟩:=by
 have ha:=a.isLt
 simp only [AK,W,Lb4,IntKind.bits]
 congr 2
 rw [Int.fdiv_eq_ediv_of_nonneg _ (Int.pow_nonneg Aa),Int.natCast_ediv,Int.natCast_pow]
 by_cases hb:b.toNat≤64
 ·rw [Nat.min_eq_left hb];rfl
 ·rw [Nat.min_eq_right Aa]
  have h1:(a.toNat:Int) / 2 ^ 64=0:=Int.ediv_eq_zero_of_lt Aa Aa
  have h2:a.toNat / 2 ^ b.toNat=0:=Nat.div_eq_of_lt (Nat.lt_of_lt_of_le ha (Nat.pow_le_pow_right Aa Aa))
  have h3:(a.toNat:Int) / ((2:Nat):Int) ^ b.toNat=0:=by
   rw [← Int.natCast_pow,← Int.natCast_ediv,h2];rfl
  rw [h1];exact h3.symm
theorem eqW (a b:BitVec 64):decide ((a.toNat:Int)=(b.toNat:Int))=decide (a=b):=by
 rw [decide_eq_decide]
 constructor
 ·intro h;exact BitVec.eq_of_toNat_eq Aa
 ·rintro rfl;rfl
theorem EU (a b:BitVec 64) (H:Hp):AK .eql (W a) (W b) H=⟨True,.bool (decide (a=b)),H⟩:=by
 simp only [AK,W,eqW]
theorem EZ (a b:BitVec 64) (H:Hp):AK .neq (W a) (W b) H=⟨True,.bool (!decide (a=b)),H⟩:=by
 simp only [AK,W,eqW]
theorem FJ (a:BitVec 64) (c:Int) (H:Hp):AK .eql (W a) (.int .u64 c) H=⟨True,.bool (decide ((a.toNat:Int)=c)),H⟩:=by
 simp only [AK,W]
theorem FO (a:BitVec 64) (c:Int) (H:Hp):AK .geq (W a) (.int .u64 c) H=⟨True,.bool (decide (c≤(a.toNat:Int))),H⟩:=by
 simp only [AK,W]
theorem FG (a:BitVec 64) (c:Int) (H:Hp):AK .rem (W a) (.int .u64 c) H=⟨c ≠ 0,.int .u64 ((a.toNat:Int).tmod c),H⟩:=by
 simp only [AK,W,true_and]
theorem Tt (a b:BitVec 8) (H:Hp):AK .xor (B a) (B b) H=⟨True,B (a ^^^ b),H⟩:=by
 simp only [AK,B,KB]
 congr 2
 rw [BB,BB]
 have e1:BitVec.ofNat IntKind.u8.bits a.toNat=a:=by apply BitVec.eq_of_toNat_eq;simp [IntKind.bits]
 have e2:BitVec.ofNat IntKind.u8.bits b.toNat=b:=by apply BitVec.eq_of_toNat_eq;simp [IntKind.bits]
 have h3:(BitVec.ofNat IntKind.u8.bits a.toNat ^^^ BitVec.ofNat IntKind.u8.bits b.toNat).toNat=(a ^^^ b).toNat:=by
  rw [BitVec.toNat_xor,BitVec.toNat_xor,e1,e2];rfl
 rw [h3]
 have:=(a ^^^ b).isLt
 omega
theorem Akz (n:Nat) (h:n < 18446744073709551616):V.int .u64 (n:Int)=W (BitVec.ofNat 64 n):=by
 simp only [W,BitVec.toNat_ofNat];rw [Nat.mod_eq_of_lt Aa]
theorem Ajz (n:Nat) (h:n < 256):V.int .u8 (n:Int)=B (BitVec.ofNat 8 n):=by
 simp only [B,BitVec.toNat_ofNat];rw [Nat.mod_eq_of_lt Aa]
theorem W_0:V.int .u64 0=W 0:=rfl
theorem B_0:V.int .u8 0=B 0:=rfl
theorem GQ {M:Seat} {f:Nat} {us us0:List V} {H:Hp} {n:Nat} {K:V→Hp→Prop} {v:V} (z:List Nat) (hr:Af M f us0 [] 0 (Q3 v [] 0)) (hus:AV H [] z us0 us) (hv:v.ren (Bc [] n 0)=v) (hK:K v (A4 H z)):AS M f us H n K:=by
 refine B3 hr False [] z List.nodup_nil Bu rfl Bu hus trivial ?_
 rintro v' H' k' ⟨rfl,rfl,rfl⟩
 refine ⟨⟨by omega,fun h=>h.elim⟩,?_⟩
 rw [hv]
 simpa [AQ] using hK
def rc:List (BitVec 64):=rounds.map (BitVec.ofInt 64)
theorem Ac7:∀ j,j < 24→((rc.getD j 0).toNat:Int)=rounds.getD j 0:=Ak
theorem ZG:US 1 = .ar 1 24 (ws rc):=by
 have:(fun i=>V.int .u64 (rounds.getD i 0))=ws rc:=by
  funext j
  by_cases hj:j < 24
  ·simp only [ws,W,Ac7 j hj]
  ·have h1:rounds.getD j 0=0:=by rw [List.getD_eq_getElem?_getD,List.getElem?_eq_none (by simp [rounds];omega)];rfl
   have h2:rc.getD j 0=0:=by rw [List.getD_eq_getElem?_getD,List.getElem?_eq_none (by simp [rc,rounds];omega)];rfl
   simp only [ws,W,h1,h2]
   rfl
 simp only [US,this]
theorem Z6:US 2 = .ar 1 24 (fun i=>.int .i64 (lanes.getD i 0)):=rfl
theorem Zz:US 3 = .ar 1 24 (fun i=>.int .i64 (turns.getD i 0)):=rfl
theorem W6:∀ p,p < 24→0≤turns.getD p 0∧turns.getD p 0 < 64:=Ak
theorem XU:∀ p,p < 24→0≤lanes.getD p 0∧lanes.getD p 0 < 25:=Ak
structure Dg where
 l:List (BitVec 8)
 h:l.length=32
deriving DecidableEq
def Dg.at (d:Dg) (j:Nat):BitVec 8:=d.l.getD j 0
def Dg.mk' (f:Nat→BitVec 8):Dg:=⟨(List.range 32).map f,by simp⟩
theorem Dg.at_mk' (f:Nat→BitVec 8) (j:Nat) (hj:j < 32):(Dg.mk' f).at j=f j:=by
 simp [Dg.at,Dg.mk',List.getD,List.getElem?_map,List.getElem?_range hj]
theorem Dg.ext' {a b:Dg} (h:∀ j,j < 32→a.at j=b.at j):a=b:=by
 obtain ⟨l,hl⟩:=a
 obtain ⟨m,hm⟩:=b
 have:l=m:=by
  apply List.ext_getElem Aa
  intro i h1 h2
  have:=h i Aa
  simpa [Dg.at,List.getD,h1,h2] using this
 subst this;rfl
def Dg.zero:Dg:=Dg.mk' fun _=>0
theorem Dg.at_zero (j:Nat):Dg.zero.at j=0:=by
 by_cases hj:j < 32
 ·rw [Dg.zero,Dg.at_mk' _ _ hj]
 ·simp only [Dg.at,Dg.zero,Dg.mk',List.getD]
  rw [List.getElem?_eq_none Cd];rfl
instance:Inhabited Dg:=⟨Dg.zero⟩
def dg (d:Dg):V:=.ar 1 32 (fun j=>B (d.at j))
def Gc (s:List Dg):Nat→V:=fun j=>dg (s.getD j Dg.zero)
theorem DG (d:Dg):(dg d).solid=true:=rfl
theorem Jz (d:Dg):(dg d).size=32:=rfl
theorem NK (d:Dg):(dg d).isAgg=true:=rfl
theorem Xy (m:List Nat) (d:Dg):(dg d).ren m=dg d:=rfl
theorem Iv (s:List Dg) (j:Nat):Gc s j=dg (s.getD j Dg.zero):=rfl
theorem Abh (m:List Nat) (s:List Dg) (j:Nat):(Gc s j).ren m=Gc s j:=rfl
theorem S4 (H:Hp) (m z:List Nat) (a:Dg) (u:V):Bd H m z (dg a) u=Aw H m z (dg a) u:=rfl
theorem AJ (H:Hp) (m z:List Nat) (a b:Dg):Aw H m z (dg a) (dg b) ↔ b=a:=by
 simp only [Aw,dg,Gv,true_and]
 constructor
 ·intro h;exact Dg.ext' (fun j hj=>h j hj)
 ·rintro rfl _ _;rfl
theorem Rc {p:Prop} [Decidable p] (a b:Dg):(if p then dg a else dg b)=dg (if p then a else b):=by split <;> rfl
theorem eqB (a b:BitVec 8):decide ((a.toNat:Int)=(b.toNat:Int))=decide (a=b):=by
 rw [decide_eq_decide]
 constructor
 ·intro h;exact BitVec.eq_of_toNat_eq Aa
 ·rintro rfl;rfl
theorem Gb (c:Bool) (a b:Dg):AH c (.ar 32 1 false .int) (dg a) (dg b):=by
 simp only [AH,dg,true_and]
 intro i _
 refine ⟨rfl,rfl,?_⟩
 simp only [B]
theorem Hu (a b:Dg):AN (.ar 32 1 false .int) (dg a) (dg b)=decide (a=b):=by
 have h1:AN (.ar 32 1 false .int) (dg a) (dg b)=(List.range 32).all (fun i=>decide (a.at i=b.at i)):=by
  simp only [AN,dg,B,eqB]
 rw [h1,Bool.eq_iff_iff,List.all_eq_true]
 simp only [decide_eq_true_eq,List.mem_range]
 constructor
 ·exact fun h=>Dg.ext' h
 ·rintro rfl _ _;rfl
def YL (x:BitVec 64) (p:Nat→BitVec 8) (j:Nat):Nat→BitVec 64
 | 0=>x
 | k + 1=>YL x p j k ^^^ ((p (8 * j + k)).setWidth 64 <<< (8 * k))
def Oc (s:List (BitVec 64)) (p:Nat→BitVec 8) (i k j:Nat):BitVec 64 :=
 if j < i then YL (s.getD j 0) p j 8 else if j=i then YL (s.getD j 0) p j k else s.getD j 0
def mix (s:List (BitVec 64)) (p:Nat→BitVec 8):List (BitVec 64):=(List.range 25).map (Oc s p 17 0)
theorem Rl (s:List (BitVec 64)) (p:Nat→BitVec 8) (j:Nat) (hj:j < 25):(mix s p).getD j 0=Oc s p 17 0 j:=by
 simp [mix,List.getD,List.getElem?_map,List.getElem?_range hj]
theorem Adg (s:List (BitVec 64)) (p:Nat→BitVec 8) (j:Nat):Oc s p 0 0 j=s.getD j 0:=by
 simp only [Oc,YL]
 split
 ·omega
 ·split <;> rfl
theorem Adn (s:List (BitVec 64)) (p:Nat→BitVec 8) (i k j:Nat):(if j=i then Oc s p i k i ^^^ ((p (8 * i + k)).setWidth 64 <<< (8 * k)) else Oc s p i k j)=Oc s p i (k + 1) j:=by
 by_cases h:j=i
 ·subst h
  simp [Oc,YL]
 ·simp only [Oc,if_neg h]
theorem Adm (s:List (BitVec 64)) (p:Nat→BitVec 8) (i j:Nat):Oc s p i 8 j=Oc s p (i + 1) 0 j:=by
 simp only [Oc,YL]
 by_cases h:j < i
 ·rw [if_pos h,if_pos Aa]
 ·rw [if_neg h]
  by_cases h2:j=i
  ·rw [if_pos h2,if_pos Aa]
  ·rw [if_neg h2,if_neg Aa]
   split <;> rfl
def Qf (s:List (BitVec 64)):Dg:=Dg.mk' fun i=>(s.getD (i / 8) 0 >>> (8 * (i % 8))).setWidth 8
def UR (a b:Dg) (j:Nat):BitVec 8:=if j < 32 then a.at j else if j < 64 then b.at (j - 32) else if j=64 then 1 else if j=135 then 128 else 0
theorem Yf:V.ar 1 32 (fun _=>V.int .u8 0)=dg Dg.zero:=by
 have h:(fun _=>V.int .u8 0)=fun j=>B (Dg.zero.at j):=by
  funext j;rw [Dg.at_zero];rfl
 simp only [dg,h]
theorem exZ (M:Seat) (x:Ctx) (Q:List V→Hp→Nat→Prop) (k:List It) (N:Nat) (A:List V) (H:Hp):ex M x Q 0 k N A H=Bl M x Q k N A H:=by cases k <;> rfl
theorem exN (M:Seat) (x:Ctx) (Q:List V→Hp→Nat→Prop) (n:Nat) (N:Nat) (A:List V) (H:Hp):ex M x Q (n + 1) [] N A H=Q A H N:=rfl
theorem X0 (M:Seat) (x:Ctx) (Q:List V→Hp→Nat→Prop) (n:Nat) (k:List It) (N:Nat) (A:List V) (H:Hp):ex M x Q (n + 1) (.code .skip :: k) N A H=ex M x Q n k N A H:=rfl
theorem Adq (M:Seat) (x:Ctx) (Q:List V→Hp→Nat→Prop) (n:Nat) (ops:List LOp) (k:List It) (N:Nat) (A:List V) (H:Hp):ex M x Q (n + 1) (.code (.reg ops) :: k) N A H=Ro M (ex M x Q n k (N + 16 * ops.length)) ops N A H:=rfl
theorem V1 (M:Seat) (x:Ctx) (Q:List V→Hp→Nat→Prop) (n:Nat) (L:List DOp) (k:List It) (N:Nat) (A:List V) (H:Hp):ex M x Q (n + 1) (.code (.regd L) :: k) N A H=AC M (ex M x Q n k (N + 32 * L.length)) L.length N (G3 L 0) L 0 A H [(0,H)] []:=rfl
theorem Ac8 (M:Seat) (x:Ctx) (Q:List V→Hp→Nat→Prop) (n:Nat) (c d:LC) (k:List It) (N:Nat) (A:List V) (H:Hp):ex M x Q (n + 1) (.code (.seq c d) :: k) N A H=ex M x Q n (.code c :: .code d :: k) N A H:=rfl
theorem Tk (M:Seat) (x:Ctx) (Q:List V→Hp→Nat→Prop) (n:Nat) (id:Nat) (c:LC) (k:List It) (N:Nat) (A:List V) (H:Hp):ex M x Q (n + 1) (.code (.block id c) :: k) N A H=ex M x Q n (.code c :: .blk id :: k) N A H:=rfl
theorem Wr (M:Seat) (x:Ctx) (Q:List V→Hp→Nat→Prop) (n:Nat) (c:LC) (k:List It) (N:Nat) (A:List V) (H:Hp):ex M x Q (n + 1) (.code (.loop c) :: k) N A H=Gz M x Q c k A H N:=rfl
theorem Vv (M:Seat) (x:Ctx) (Q:List V→Hp→Nat→Prop) (n:Nat) (id:Nat) (k:List It) (N:Nat) (A:List V) (H:Hp):ex M x Q (n + 1) (.code (.exit id) :: k) N A H=(match BX id k with | some k'=>ex M x Q n k' N A H | none=>False):=rfl
theorem Adh (M:Seat) (x:Ctx) (Q:List V→Hp→Nat→Prop) (n:Nat) (k:List It) (N:Nat) (A:List V) (H:Hp):ex M x Q (n + 1) (.code .ret :: k) N A H=Q A H N:=rfl
theorem Adb (M:Seat) (x:Ctx) (Q:List V→Hp→Nat→Prop) (n:Nat) (i:Nat) (k:List It) (N:Nat) (A:List V) (H:Hp):ex M x Q (n + 1) (.blk i :: k) N A H=ex M x Q n k N A H:=rfl
theorem Ads (M:Seat) (x:Ctx) (Q:List V→Hp→Nat→Prop) (n:Nat) (J:List V→Hp→Nat→Prop) (k:List It) (N:Nat) (A:List V) (H:Hp):ex M x Q (n + 1) (.inv J :: k) N A H=J A H N:=rfl
open Classical in
theorem Adv (M:Seat) (x:Ctx) (Q:List V→Hp→Nat→Prop) (n:Nat) (y:X) (c d:LC) (k:List It) (N:Nat) (A:List V) (H:Hp):ex M x Q (n + 1) (.code (.cond y c d) :: k) N A H=(if y.ev A = .bool true then ex M x Q n (.code c :: k) N A H else if y.ev A = .bool false then ex M x Q n (.code d :: k) N A H else False):=by
 have h:ex M x Q (n + 1) (.code (.cond y c d) :: k) N A H=(match y.ev A with
  | .bool t=>(t=true→ex M x Q n (.code c :: k) N A H)∧(t=false→ex M x Q n (.code d :: k) N A H)
  | _=>False):=rfl
 rw [h]
 cases hy:y.ev A <;> simp
 rename_i t
 cases t <;> simp
def Mg (v:V) (b:Bool):Prop:=match v with
 | .bool b'=>b' = !b
 | .tup _=>True
 | _=>False
theorem Rm (b b':Bool):Mg (.bool b') b=(b' = !b):=rfl
theorem U5 (v:V) (b:Bool):Mg (.tup v) b=True:=rfl
theorem RoN (M:Seat) (K:List V→Hp→Prop) (n:Nat) (A:List V) (H:Hp):Ro M K [] n A H=K A H:=rfl
theorem RoO (M:Seat) (K:List V→Hp→Prop) (d:Option Nat) (o:LO) (r:List LOp) (n:Nat) (A:List V) (H:Hp):Ro M K (⟨d,.lo o,none⟩ :: r) n A H=((Ad A H n o).pre∧Ro M K r (n + 16) (put A d (Ad A H n o).v) (Ad A H n o).H):=rfl
theorem RoC (M:Seat) (K:List V→Hp→Prop) (d:Option Nat) (f:Nat) (xs:List X) (r:List LOp) (n:Nat) (A:List V) (H:Hp):Ro M K (⟨d,.call f xs,none⟩ :: r) n A H=AS M f (xs.map (X.ev A)) H n (fun v H'=>Ro M K r (n + 16) (put A d v) H'):=rfl
theorem RoY (M:Seat) (K:List V→Hp→Prop) (d:Option Nat) (u:X) (xs:List X) (r:List LOp) (n:Nat) (A:List V) (H:Hp):Ro M K (⟨d,.dyn u xs,none⟩ :: r) n A H=EX M (u.ev A) (xs.map (X.ev A)) H n (fun v H'=>Ro M K r (n + 16) (put A d v) H'):=rfl
open Classical in
theorem RoG (M:Seat) (K:List V→Hp→Prop) (d:Option Nat) (k:LK) (t:Nat) (b:Bool) (r:List LOp) (n:Nat) (A:List V) (H:Hp):Ro M K (⟨d,k,some (t,b)⟩ :: r) n A H =
 (if A.getD t .junk = .bool b then Ro M K (⟨d,k,none⟩ :: r) n A H else if Mg (A.getD t .junk) b then Ro M K r (n + 16) (put A d (.tup .fnil)) H else False):=by
 have h:Ro M K (⟨d,k,some (t,b)⟩ :: r) n A H=(match A.getD t .junk with
  | .bool b'=>(b'=b→Ro M K (⟨d,k,none⟩ :: r) n A H)∧(b' = !b→Ro M K r (n + 16) (put A d (.tup .fnil)) H)
  | .tup _=>Ro M K r (n + 16) (put A d (.tup .fnil)) H
  | _=>False):=rfl
 rw [h]
 cases hy:A.getD t .junk <;> simp [Mg]
 rename_i b'
 cases b' <;> cases b <;> simp
theorem Amj (M:Seat) (K:List V→Hp→Prop) (m N wm p:Nat) (A:List V) (H:Hp) (bd:List (Nat × Hp)) (al:List (Nat × Nat × V)):AC M K m N wm [] p A H bd al=K A H:=rfl
theorem Amy (M:Seat) (K:List V→Hp→Prop) (m N wm ix bf:Nat) (d:Option Nat) (k:LK) (r:List DOp) (p:Nat) (A:List V) (H:Hp) (bd:List (Nat × Hp)) (al:List (Nat × Nat × V)):AC M K m N wm (⟨ix,bf,⟨d,k,none⟩⟩ :: r) p A H bd al =
 A5 M A H (bs N m p k) k (fun v H'=>(TZ A (bs N m p k) k v wm bf al bd∧(bif k.isW then Dq (N + 16 * p) (N + 16 * m) H' else True)) ∧
  AC M K m N wm r (p + 1) (put A d v) H' (bif k.isW then (p + 1,H') :: bd else bd) (bif k.isA then (p,bs N m p k,hget H' (bs N m p k)) :: al else al)):=rfl
open Classical in
theorem Anj (M:Seat) (K:List V→Hp→Prop) (m N wm ix bf:Nat) (d:Option Nat) (k:LK) (t:Nat) (b:Bool) (r:List DOp) (p:Nat) (A:List V) (H:Hp) (bd:List (Nat × Hp)) (al:List (Nat × Nat × V)):AC M K m N wm (⟨ix,bf,⟨d,k,some (t,b)⟩⟩ :: r) p A H bd al =
 (if A.getD t .junk = .bool b then AC M K m N wm (⟨ix,bf,⟨d,k,none⟩⟩ :: r) p A H bd al else if Mg (A.getD t .junk) b then AC M K m N wm r (p + 1) (put A d (.tup .fnil)) H (bif k.isW then (p + 1,H) :: bd else bd) al else False):=by
 have h:AC M K m N wm (⟨ix,bf,⟨d,k,some (t,b)⟩⟩ :: r) p A H bd al=(match A.getD t .junk with
  | .bool b'=>(b'=b→AC M K m N wm (⟨ix,bf,⟨d,k,none⟩⟩ :: r) p A H bd al)∧(b' = !b→AC M K m N wm r (p + 1) (put A d (.tup .fnil)) H (bif k.isW then (p + 1,H) :: bd else bd) al)
  | .tup _=>AC M K m N wm r (p + 1) (put A d (.tup .fnil)) H (bif k.isW then (p + 1,H) :: bd else bd) al
  | _=>False):=rfl
 rw [h]
 cases hy:A.getD t .junk <;> simp [Mg]
 rename_i b'
 cases b' <;> cases b <;> simp
end Mv
