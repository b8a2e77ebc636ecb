/- A part. -/
import Derived.Test.YtlfkjfonpacelaaGreatDoorIM
set_option linter.all false
set_option maxRecDepth 10000
namespace Mv
open Go
theorem CF (n:Nat) (a:Nat):BitVec.ofInt n (a:Int)=BitVec.ofNat n a:=by
 apply BitVec.eq_of_toNat_eq;simp
theorem Abt {a b:Nat} (ha:a < 18446744073709551616) (hb:b < 18446744073709551616):IntKind.u64.wrap (((BitVec.ofInt IntKind.u64.bits (a:Int) ||| BitVec.ofInt IntKind.u64.bits (b:Int)).toNat:Nat):Int)=((a ||| b:Nat):Int):=by
 have h:a ||| b < 2 ^ 64:=Nat.or_lt_two_pow Aa Aa;rw [CF,CF,BitVec.toNat_or,BitVec.toNat_ofNat,BitVec.toNat_ofNat,Nat.mod_eq_of_lt (by simpa [IntKind.bits] using ha),Nat.mod_eq_of_lt (by simpa [IntKind.bits] using hb)];exact G3 Aa
theorem UT {a b:Nat} (ha:a < 18446744073709551616) (hb:b < 18446744073709551616):IntKind.u64.wrap (((BitVec.ofInt IntKind.u64.bits (a:Int) &&& BitVec.ofInt IntKind.u64.bits (b:Int)).toNat:Nat):Int)=((a &&& b:Nat):Int):=by
 have h:a &&& b < 2 ^ 64:=Nat.lt_of_le_of_lt Nat.and_le_left Aa;rw [CF,CF,BitVec.toNat_and,BitVec.toNat_ofNat,BitVec.toNat_ofNat,Nat.mod_eq_of_lt (by simpa [IntKind.bits] using ha),Nat.mod_eq_of_lt (by simpa [IntKind.bits] using hb)];exact G3 Aa
theorem Ut {a b:Nat} (ha:a < 18446744073709551616) (hb:b < 18446744073709551616):IntKind.u64.wrap (((BitVec.ofInt IntKind.u64.bits (a:Int) ^^^ BitVec.ofInt IntKind.u64.bits (b:Int)).toNat:Nat):Int)=((a ^^^ b:Nat):Int):=by
 have h:a ^^^ b < 2 ^ 64:=Nat.xor_lt_two_pow Aa Aa;rw [CF,CF,BitVec.toNat_xor,BitVec.toNat_ofNat,BitVec.toNat_ofNat,Nat.mod_eq_of_lt (by simpa [IntKind.bits] using ha),Nat.mod_eq_of_lt (by simpa [IntKind.bits] using hb)];exact G3 Aa
theorem Af5 {a:Nat} (ha:a < 18446744073709551616):IntKind.u64.wrap (((BitVec.ofInt IntKind.u64.bits (if IntKind.u64.signed=true then -1 else IntKind.u64.max) ^^^ BitVec.ofInt IntKind.u64.bits (a:Int)).toNat:Nat):Int)=((18446744073709551615 ^^^ a:Nat):Int):=by
 have e1:(if IntKind.u64.signed=true then (-1:Int) else IntKind.u64.max)=((18446744073709551615:Nat):Int):=Ca;rw [e1,Ut Aa ha]
theorem Ag0 {a k:Nat} (hk:k < 64):IntKind.u64.wrap ((a:Int) * 2 ^ min (k:Int).toNat IntKind.u64.bits)=((a <<< k % 18446744073709551616:Nat):Int):=by
 have e1:min (k:Int).toNat IntKind.u64.bits=k:=by simp only [IntKind.bits];omega
 rw [e1,EF,Nat.shiftLeft_eq,Int.natCast_emod,Int.natCast_mul,Int.natCast_pow];rfl
theorem Ahg {a k:Nat} (hk:k≤64):(a:Int).fdiv (2 ^ min (k:Int).toNat IntKind.u64.bits)=((a >>> k:Nat):Int):=by
 have e1:min (k:Int).toNat IntKind.u64.bits=k:=by simp only [IntKind.bits];omega
 rw [e1,Int.fdiv_eq_ediv_of_nonneg _ (Int.pow_nonneg Aa),Nat.shiftRight_eq_div_pow,Int.natCast_ediv,Int.natCast_pow];rfl
def Wi (x k:Nat):Nat:=(x <<< k % 18446744073709551616) ||| (x >>> (64 - k))
theorem Ahk {x k:Nat} (hx:x < 18446744073709551616):Wi x k < 18446744073709551616:=by
 have h1:x <<< k % 18446744073709551616 < 2 ^ 64:=Nat.mod_lt _ Aa;have h2:x >>> (64 - k) < 2 ^ 64:=by
  rw [Nat.shiftRight_eq_div_pow];exact Nat.lt_of_le_of_lt (Nat.div_le_self _ _) Aa
 exact Nat.or_lt_two_pow h1 h2
theorem M8 (A:List V) (v:V):put A none v=A:=rfl
theorem SV (A:List V) (d:Option Nat) (v:V):(put A d v).length=A.length:=by cases d <;> simp [put]
theorem Acx {A:List V} {i:Nat} {v:V} (h:i < A.length):(put A (some i) v).getD i .junk=v:=by simp [put,List.getD,h]
theorem Akm {A:List V} {i t:Nat} {v:V} (h:i ≠ t):(put A (some i) v).getD t .junk=A.getD t .junk:=by simp [put,List.getD,List.getElem?_set_ne h]
def fr (n:Nat):List (Nat × V)→List V
 | []=>List.replicate n .junk
 | (t,v) :: r=>put (fr n r) (some t) v
theorem CH (n:Nat):∀ l,(fr n l).length=n
 | []=>by simp [fr]
 | (t,v) :: r=>by simp [fr,SV,CH n r]
theorem Js (n t:Nat):(fr n []).getD t .junk = .junk:=by
 simp only [fr,List.getD,List.getElem?_replicate];split <;> rfl
theorem F3 {n t:Nat} {v:V} {r:List (Nat × V)} (h:t < n):(fr n ((t,v) :: r)).getD t .junk=v:=Acx (by rw [CH];exact h)
theorem LI {n t i:Nat} {v:V} {r:List (Nat × V)} (h:i ≠ t):(fr n ((i,v) :: r)).getD t .junk=(fr n r).getD t .junk:=Akm h
theorem TU (n t:Nat) (v:V) (r:List (Nat × V)):put (fr n r) (some t) v=fr n ((t,v) :: r):=rfl
def num:Nat→List V→List (Nat × V)→List (Nat × V)
 | _,[],acc=>acc
 | i,u :: r,acc=>num (i + 1) r ((i,u) :: acc)
def La0:=(aq9 (Ej @BEq.rfl.{0} @Int.cast_ofNat_Int @LK.isA.eq_1 @LK.isA.eq_2 @LK.isA.eq_3 @LK.isA.eq_4 @LK.isA.eq_5 @LK.isA.eq_6 @LK.isA.eq_7 @j6 @LK.isP.eq_2 @LK.isP.eq_3 @LK.isP.eq_4 @LK.isP.eq_5 @LK.isP.eq_6) (Fd @LK.isP.eq_7 @LK.isP.eq_8 @LK.isP.eq_9 @LK.isP.eq_10 @LK.isP.eq_11 @LK.isP.eq_12 @LK.isP.eq_13 @LK.isP.eq_14 @LK.isW.eq_1 @LK.isW.eq_2 @LK.isW.eq_3 @LK.isW.eq_4 @LK.isW.eq_5 @LK.isW.eq_6 @LK.isW.eq_7 @LK.isW.eq_8) (Ej @List.cons_append.{0} @List.filter_cons.{0} @List.filter_nil.{0} @List.length_cons.{0} @List.length_nil.{0} (@List.map_cons.{0,0}) (@List.map_nil.{0,0}) @List.nil_append.{0} @hx.eq_1 @y9 @z7 @a0a @a0b @V.fset.eq_1 @V.fset.eq_2) (Fd @a0e @a0f @a0g @a0h @a0i @V.ok.eq_1 @V.ok.eq_2 @V.ok.eq_3 @V.ok.eq_4 @V.ok.eq_5 @V.set.eq_1 @V.set.eq_2 @V.set.eq_3 @V.set.eq_4 @X.ev.eq_1 @X.ev.eq_2) (Ej @X.ev.eq_3 @X.ev.eq_4 @Z.sz.eq_1 @Z.sz.eq_2 @Z.sz.eq_3 @Z.sz.eq_4 @Z.sz.eq_5 @m8 @Z.v.eq_2 @Z.v.eq_3 @Z.v.eq_4 @Z.v.eq_5 @Z.v.eq_6 @Z.v.eq_7 @Z.v.eq_8) (Fd @Z.v.eq_9 @Z.v.eq_10 @Z.v.eq_11 @Z.v.eq_12 @bs.eq_1 @cond_false.{1} @cond_true.{1} @CM.eq_1 @CM.eq_2 @CM.eq_3 @Dy.eq_1 @Dy.eq_2 @Dy.eq_3 @Dy.eq_4 @Cu.eq_1 @Cu.eq_2) (Ej @X8.eq_1 @X8.eq_2 @G0.eq_1 @G0.eq_2 @forall_const.{0} @forall_const.{1} @BZ.eq_1 @BZ.eq_2 @x5 @x6 @x9 @y7 @CA.eq_1 @CA.eq_2 @Es.eq_1) (Fd @Es.eq_2 @if_false.{1} @if_true.{1} @PS.eq_1 @PS.eq_2 @ite_false.{1} @ite_true.{1} @ne_eq.{1} @HV.eq_1 @HV.eq_2 @HV.eq_3 @num.eq_1 @num.eq_2 @Cf.eq_1 @Cf.eq_2 @D9.eq_1) (Fd @D9.eq_2 @D9.eq_3 @CK.eq_1 @CK.eq_2 @BT.eq_1 @BT.eq_2 @EG.eq_1 @EG.eq_2 @Dq.eq_1 @Dq.eq_2 @AN.eq_1 @AN.eq_2 @G7.eq_1 @G7.eq_2 @Ht.eq_1 @Ht.eq_2))
theorem YS (n:Nat):∀ (us:List V) (i:Nat) (acc:List (Nat × V)) (pre:List V),pre.length=i→fr n acc=pre ++ List.replicate (n - i) .junk→i + us.length≤n→fr n (num i us acc)=pre ++ us ++ List.replicate (n - i - us.length) .junk
 | [],i,acc,pre,_,h,_=>by simpa [num] using h
 | u :: r, i, acc, pre, hp, h, hl => by
   simp only [List.length_cons] at hl;have h2:fr n ((i,u) :: acc)=(pre ++ [u]) ++ List.replicate (n - (i + 1)) .junk:=by
    simp only [fr,put,h];have e1:n - i=(n - (i + 1)) + 1:=Aa;rw [e1,List.replicate_succ];apply List.ext_getElem?;intro k;by_cases hk:k=i
    ·subst hk;rw [List.getElem?_set_self (by simp [hp])];rw [List.getElem?_append_left (by simp [hp])];rw [List.getElem?_append_right Aa];simp [hp]
    ·rw [List.getElem?_set_ne (Ne.symm hk)];by_cases hk2:k < i
     ·rw [List.getElem?_append_left Aa,List.getElem?_append_left FY,List.getElem?_append_left Aa]
     ·rw [List.getElem?_append_right Aa,List.getElem?_append_right FY];have e2:k - pre.length=(k - (pre ++ [u]).length) + 1:=FY;rw [e2,List.getElem?_cons_succ]
   have:=YS n r (i + 1) ((i,u) :: acc) (pre ++ [u]) (by simp [hp]) h2 Aa;simp only [num];rw [this];have e3:n - (i + 1) - r.length=n - i - (u :: r).length:=FY;rw [e3];simp
theorem Xn {us:List V} {n:Nat} (h:us.length≤n):HD us n=fr n (num 0 us []):=by
 rw [YS n us 0 [] [] rfl (by simp [fr]) Aa];simp [HD]
theorem Ab {M:Seat} {f:Nat} {lf:LF} {us:List V} {H:Hp} {k:Nat} {Q:V→Hp→Nat→Prop} (hf:Ar M f lf=true) (hn:decide (us.length≤lf.nt)=true)
 (h:∀ x:Ctx,x.k=k→AV M x (Ap M x lf.rs Q) [.code lf.c] k (fr lf.nt (num 0 us [])) H):Ae M f us H k Q:=by
 refine WD hf fun x hx=>?_;rw [Xn (of_decide_eq_true hn)];exact h x hx
def Nc (H:Hp) (m z:List Nat) (A:List V):List (Nat × V)→Prop
 | []=>True
 | (t,v) :: r=>Bz H m z v (A.getD t .junk)∧Nc H m z A r
def La4:=(D0 (Jh @List.getElem?_cons_succ.{0} @List.getElem?_cons_zero.{0} @List.getElem?_nil.{0} @Option.some.injEq.{0} @f9 @g7 @g9 @y8 @Ay.eq_5 @Ay.eq_6 @Ay.eq_7 @Ay.eq_8 @Ay.eq_9) (Jh @Ay.eq_10 @Ay.eq_11 @Ay.eq_12 @Ay.eq_13 @Ay.eq_14 @Ay.eq_15 @Ay.eq_16 @Ay.eq_17 @Ay.eq_18 @Ay.eq_19 @Ay.eq_20 @Ay.eq_21 @Ay.eq_22) (Jh @Ay.eq_23 @Ay.eq_24 @Ay.eq_25 @Ay.eq_26 @Ay.eq_27 @Ay.eq_28 @Ay.eq_29 @Ay.eq_30 @Ay.eq_31 @Ay.eq_32 @Ay.eq_33 @Ay.eq_34 @Ay.eq_35) (Jh @Ay.eq_36 @Ay.eq_37 @Ay.eq_38 @Ay.eq_39 @Ay.eq_40 @Bp.eq_1 @Bp.eq_2 @Bp.eq_3 @BC.eq_1 @BC.eq_2 @Nc.eq_1 @Nc.eq_2 @N5.eq_1))
theorem O4 {H:Hp} {m z:List Nat}:∀ {A B:List V},A.length=B.length→(∀ t,Bz H m z (A.getD t .junk) (B.getD t .junk))→Bp H m z A B
 | [],[],_,_=>trivial
 | _ :: _,_ :: _,hl,h=>⟨by simpa using h 0,O4 PI (fun t=>by simpa using h (t + 1))⟩
 | [],_ :: _,hl,_=>by simp at hl
 | _ :: _,[],hl,_=>by simp at hl
theorem Me {H:Hp} {m z:List Nat} {A:List V} {n:Nat}:∀ {l:List (Nat × V)},Nc H m z A l→∀ t,t < n→Bz H m z ((fr n l).getD t .junk) (A.getD t .junk)
 | [],_,t,_=>by rw [Js];trivial
 | (i, v) :: r, h, t, ht => by
   by_cases hit:i=t
   ·subst hit;rw [F3 ht];exact h.1
   ·rw [LI hit];exact Me h.2 t ht
theorem Ak.fr {M:Seat} {c:Ctx} {A:List V} {H:Hp} {N n:Nat} (m z:List Nat) {k:Nat} (hck:c.k=k) {l:List (Nat × V)} {H':Hp} {N':Nat} (hlen:A.length=n)
 (hm:(decide m.Nodup && z.all (fun i=>!m.contains i) && decide (m.length≤N') && decide (k≤N') && (List.range k).all (fun j=>m[j]? == some j))=true)
 (hA:Nc H m z A l) (hH:BC H m z H'):Ak M c A H N (Mv.fr n l) H' N':=by
 refine Ak.at m z hck hm (O4 (by rw [CH,hlen]) (fun t=>?_)) hH;by_cases ht:t < n
 ·exact Me hA t ht
 ·have:(Mv.fr n l).getD t .junk = .junk:=by rw [List.getD_eq_getElem?_getD,List.getElem?_eq_none (by rw [CH];omega)];rfl
  rw [this];trivial
def W (w:BitVec 64):V:=.int .u64 (w.toNat:Int)
def Lcd:=(AY @Int.toNat_natCast @W.eq_1)
def B (b:BitVec 8):V:=.int .u8 (b.toNat:Int)
theorem RW (w:BitVec 64):w.toNat < 18446744073709551616:=w.isLt
theorem My (a b:BitVec 64) (H:Hp):Bm .xor (W a) (W b) H=⟨True,W (a ^^^ b),H⟩:=by
 have h:=Ut (RW a) (RW b);simp only [Bm,W];rw [h,BitVec.toNat_xor]
theorem KI (a b:BitVec 64) (H:Hp):Bm .and (W a) (W b) H=⟨True,W (a &&& b),H⟩:=by
 have h:=UT (RW a) (RW b);simp only [Bm,W];rw [h,BitVec.toNat_and]
theorem Oe (a b:BitVec 64) (H:Hp):Bm .or (W a) (W b) H=⟨True,W (a ||| b),H⟩:=by
 have h:=Abt (RW a) (RW b);simp only [Bm,W];rw [h,BitVec.toNat_or]
theorem Oy (a:BitVec 64) (H:Hp):XB .xor (W a) H=⟨True,W (~~~a),H⟩:=by
 have h:(18446744073709551615 ^^^ a.toNat:Nat)=(~~~a).toNat:=by
  have h2:BitVec.allOnes 64 ^^^ a = ~~~a:=BitVec.allOnes_xor;rw [← h2,BitVec.toNat_xor];rfl
 have h3:=Af5 (RW a);simp only [XB,W];rw [h3,h]
def X9 (x:BitVec 64) (k:Nat):BitVec 64:=x <<< k ||| x >>> (64 - k)
theorem Rs (x:BitVec 64) (k:Nat):Wi x.toNat k=(X9 x k).toNat:=by
 simp only [Wi,X9,BitVec.toNat_or,BitVec.toNat_shiftLeft,BitVec.toNat_ushiftRight]
def ws (s:List (BitVec 64)):Nat→V:=fun j=>W (s.getD j 0)
def bys (s:List (BitVec 8)):Nat→V:=fun j=>B (s.getD j 0)
theorem R7 (s:List (BitVec 64)) (j:Nat):ws s j=W (s.getD j 0):=rfl
theorem Le (s:List (BitVec 8)) (j:Nat):bys s j=B (s.getD j 0):=rfl
theorem Ku (w:BitVec 64):(W w).solid=true:=rfl
theorem TN (w:BitVec 64):(W w).size=1:=rfl
theorem Zw (w:BitVec 64):(W w).isAgg=false:=rfl
theorem Kp (w:BitVec 8):(B w).solid=true:=rfl
theorem SA (w:BitVec 8):(B w).size=1:=rfl
theorem Aav (w:BitVec 8):(B w).isAgg=false:=rfl
theorem EM (H:Hp) (m z:List Nat) (a b:BitVec 64):Ay H m z (W a) (W b) ↔ b=a:=by
 simp only [Ay,W,V.int.injEq,true_and];constructor
 ·intro h;exact BitVec.eq_of_toNat_eq Aa
 ·rintro rfl;rfl
theorem K8 (H:Hp) (m z:List Nat) (a b:BitVec 8):Ay H m z (B a) (B b) ↔ b=a:=by
 simp only [Ay,B,V.int.injEq,true_and];constructor
 ·intro h;exact BitVec.eq_of_toNat_eq Aa
 ·rintro rfl;rfl
theorem QI {p:Prop} [Decidable p] (a b:BitVec 64):(if p then W a else W b)=W (if p then a else b):=by split <;> rfl
theorem Ns {p:Prop} [Decidable p] (a b:BitVec 8):(if p then B a else B b)=B (if p then a else b):=by split <;> rfl
theorem Oc (H:Hp) (m z:List Nat) (u:V):Bz H m z .junk u=True:=rfl
theorem Rt (H:Hp) (m z:List Nat) (k:IntKind) (n:Int) (u:V):Bz H m z (V.int k n) u=Ay H m z (V.int k n) u:=rfl
theorem N9 (H:Hp) (m z:List Nat) (b:Bool) (u:V):Bz H m z (V.bool b) u=Ay H m z (V.bool b) u:=rfl
theorem QC (H:Hp) (m z:List Nat) (s:ByteArray) (u:V):Bz H m z (V.str s) u=Ay H m z (V.str s) u:=rfl
theorem NR (H:Hp) (m z:List Nat) (u:V):Bz H m z V.nilp u=Ay H m z V.nilp u:=rfl
theorem PD (H:Hp) (m z:List Nat) (i:Nat) (p:List Stp) (u:V):Bz H m z (V.ptr i p) u=Ay H m z (V.ptr i p) u:=rfl
theorem Ql (H:Hp) (m z:List Nat) (v:V) (u:V):Bz H m z (V.imm v) u=Ay H m z (V.imm v) u:=rfl
theorem NH (H:Hp) (m z:List Nat) (u:V):Bz H m z V.nils u=Ay H m z V.nils u:=rfl
theorem Vg (H:Hp) (m z:List Nat) (i:Nat) (p:List Stp) (o n sz:Nat) (u:V):Bz H m z (V.sl i p o n sz) u=Ay H m z (V.sl i p o n sz) u:=rfl
theorem Rf (H:Hp) (m z:List Nat) (sz n:Nat) (f:Nat→V) (u:V):Bz H m z (V.lst sz n f) u=Ay H m z (V.lst sz n f) u:=rfl
theorem Od (H:Hp) (m z:List Nat) (u:V):Bz H m z V.nilm u=Ay H m z V.nilm u:=rfl
theorem PR (H:Hp) (m z:List Nat) (i:Nat) (u:V):Bz H m z (V.map i) u=Ay H m z (V.map i) u:=rfl
theorem NZ (H:Hp) (m z:List Nat) (u:V):Bz H m z V.nilf u=Ay H m z V.nilf u:=rfl
theorem Vi (H:Hp) (m z:List Nat) (f:Nat) (c:V) (u:V):Bz H m z (V.fn f c) u=Ay H m z (V.fn f c) u:=rfl
theorem NA (H:Hp) (m z:List Nat) (u:V):Bz H m z V.nili u=Ay H m z V.nili u:=rfl
theorem QD (H:Hp) (m z:List Nat) (t:Nat) (v:V) (u:V):Bz H m z (V.ifc t v) u=Ay H m z (V.ifc t v) u:=rfl
theorem Va (H:Hp) (m z:List Nat) (n:Nat) (fs:V) (u:V):Bz H m z (V.st n fs) u=Ay H m z (V.st n fs) u:=rfl
theorem Uw (H:Hp) (m z:List Nat) (sz n:Nat) (f:Nat→V) (u:V):Bz H m z (V.ar sz n f) u=Ay H m z (V.ar sz n f) u:=rfl
theorem RB (H:Hp) (m z:List Nat) (fs:V) (u:V):Bz H m z (V.tup fs) u=Ay H m z (V.tup fs) u:=rfl
theorem YK (H:Hp) (m z:List Nat) (a:BitVec 64) (u:V):Bz H m z (W a) u=Ay H m z (W a) u:=rfl
theorem Abo (H:Hp) (m z:List Nat) (a:BitVec 8) (u:V):Bz H m z (B a) u=Ay H m z (B a) u:=rfl
theorem Atb (m:List Nat) (a:BitVec 64):(W a).ren m=W a:=rfl
theorem Arh (m:List Nat) (a:BitVec 8):(B a).ren m=B a:=rfl
theorem Akg (m:List Nat) (s:List (BitVec 64)) (j:Nat):(ws s j).ren m=ws s j:=rfl
theorem AZ {M:Seat} {f:Nat} {us us0:List V} {H:Hp} {n:Nat} {K:V→Hp→Prop} {v:V} (hr:Ae M f us0 [] 0 (Q3 v [] 0)) (hus:Bp H [] [] us0 us) (hv:v.ren (B8 [] n 0)=v) (hK:K v H):Bg M f us H n K:=by
 refine Cq hr False [] [] List.nodup_nil B9 rfl B9 hus trivial ?_;rintro v' H' k' ⟨rfl,rfl,rfl⟩;refine ⟨⟨by omega,fun h=>h.elim⟩,?_⟩;rw [hv];simpa [AU,AB] using hK
theorem Afx (m:List Nat) (s:List (BitVec 8)) (j:Nat):(bys s j).ren m=bys s j:=rfl
theorem Y8 (k:IntKind) (a b:Int) (H:Hp):Bm .add (.int k a) (.int k b) H=⟨True,.int k (k.wrap (a + b)),H⟩:=Iw
theorem Z7 (k:IntKind) (a b:Int) (H:Hp):Bm .sub (.int k a) (.int k b) H=⟨True,.int k (k.wrap (a - b)),H⟩:=Iw
theorem Zo (k:IntKind) (a b:Int) (H:Hp):Bm .mul (.int k a) (.int k b) H=⟨True,.int k (k.wrap (a * b)),H⟩:=Iw
theorem Abp (k:IntKind) (a b:Int) (H:Hp):Bm .quo (.int k a) (.int k b) H=⟨b ≠ 0,.int k (k.wrap (a.tdiv b)),H⟩:=Iw
theorem Aao (k:IntKind) (a b:Int) (H:Hp):Bm .rem (.int k a) (.int k b) H=⟨b ≠ 0,.int k (a.tmod b),H⟩:=Iw
theorem YD (k k':IntKind) (a b:Int) (H:Hp):Bm .shl (.int k a) (.int k' b) H=⟨0≤b,.int k (k.wrap (a * 2 ^ min b.toNat k.bits)),H⟩:=rfl
theorem Abw (k k':IntKind) (a b:Int) (H:Hp):Bm .shr (.int k a) (.int k' b) H=⟨0≤b,.int k (a.fdiv (2 ^ min b.toNat k.bits)),H⟩:=rfl
theorem Aae (k:IntKind) (a b:Int) (H:Hp):Bm .lss (.int k a) (.int k b) H=⟨True,.bool (decide (a < b)),H⟩:=Iw
theorem Aay (k:IntKind) (a b:Int) (H:Hp):Bm .leq (.int k a) (.int k b) H=⟨True,.bool (decide (a≤b)),H⟩:=Iw
theorem YZ (k:IntKind) (a b:Int) (H:Hp):Bm .gtr (.int k a) (.int k b) H=⟨True,.bool (decide (b < a)),H⟩:=Iw
theorem XL (k:IntKind) (a b:Int) (H:Hp):Bm .geq (.int k a) (.int k b) H=⟨True,.bool (decide (b≤a)),H⟩:=Iw
theorem Ace (k:IntKind) (a b:Int) (H:Hp):Bm .eql (.int k a) (.int k b) H=⟨True,.bool (decide (a=b)),H⟩:=Iw
theorem Abu (k:IntKind) (a b:Int) (H:Hp):Bm .neq (.int k a) (.int k b) H=⟨True,.bool (!decide (a=b)),H⟩:=Iw
theorem Aiz (k:IntKind) (a b:Int) (H:Hp):Bm .and (.int k a) (.int k b) H=⟨True,.int k (k.wrap ((BitVec.ofInt k.bits a &&& BitVec.ofInt k.bits b).toNat)),H⟩:=Iw
theorem As0 (k:IntKind) (a b:Int) (H:Hp):Bm .or (.int k a) (.int k b) H=⟨True,.int k (k.wrap ((BitVec.ofInt k.bits a ||| BitVec.ofInt k.bits b).toNat)),H⟩:=Iw
theorem Aij (k:IntKind) (a b:Int) (H:Hp):Bm .xor (.int k a) (.int k b) H=⟨True,.int k (k.wrap ((BitVec.ofInt k.bits a ^^^ BitVec.ofInt k.bits b).toNat)),H⟩:=Iw
theorem XZ (b:Bool) (H:Hp):XB .not (.bool b) H=⟨True,.bool (!b),H⟩:=rfl
def m9:=@W.eq_1
def CR (k:IntKind) (v:V) (H:Hp):Out:=match v with
 | .int _ a=>⟨True,.int k (k.wrap a),H⟩
 | _=>Ci H
theorem Ac (A:List V) (H:Hp) (n:Nat) (k:IntKind) (x:X):Af A H n (.conv k x)=CR k (x.ev A) H:=rfl
theorem Oa (k k':IntKind) (a:Int) (H:Hp):CR k (.int k' a) H=⟨True,.int k (k.wrap a),H⟩:=rfl
theorem On (b:BitVec 8) (H:Hp):CR .u64 (B b) H=⟨True,W (b.setWidth 64),H⟩:=by
 have h:=b.isLt;simp only [CR,B,W,EF,BitVec.toNat_setWidth]
 congr 2
theorem O5 (w:BitVec 64) (H:Hp):CR .u8 (W w) H=⟨True,B (w.setWidth 8),H⟩:=by
 simp only [CR,B,W,KD,BitVec.toNat_setWidth]
 congr 2
theorem M6 (w:BitVec 64) (H:Hp):CR .i64 (W w) H=⟨True,.int .i64 (IntKind.i64.wrap (w.toNat:Int)),H⟩:=rfl
theorem KV (w:BitVec 8) (H:Hp):CR .i64 (B w) H=⟨True,.int .i64 (w.toNat:Int),H⟩:=by
 have h:=w.isLt;simp only [CR,B];rw [Bu Aa]
theorem Iz (a:BitVec 64) (k:IntKind) (b:Int) (H:Hp):Bm .shl (W a) (.int k b) H=⟨0≤b,W (a <<< b.toNat),H⟩:=by
 simp only [Bm,W,EF,BitVec.toNat_shiftLeft,Nat.shiftLeft_eq,IntKind.bits]
 congr 2
 by_cases hb:b.toNat≤64
 ·rw [Nat.min_eq_left hb];rw [Int.natCast_emod,Int.natCast_mul,Int.natCast_pow];rfl
 ·rw [Nat.min_eq_right Aa];have e1:a.toNat * 2 ^ b.toNat % 2 ^ 64=0:=by
   have:b.toNat=64 + (b.toNat - 64):=Aa;rw [this,Nat.pow_add,← Nat.mul_assoc,Nat.mul_right_comm];exact Nat.mul_mod_left _ _
  rw [e1];have e2:(2:Int) ^ 64=18446744073709551616:=Al;rw [e2];omega
theorem HT (a:BitVec 64) (k:IntKind) (b:Int) (H:Hp):Bm .shr (W a) (.int k b) H=⟨0≤b,W (a >>> b.toNat),H⟩:=by
 have ha:=a.isLt;simp only [Bm,W,Lb4,IntKind.bits]
 congr 2
 rw [Int.fdiv_eq_ediv_of_nonneg _ (Int.pow_nonneg Aa),Int.natCast_ediv,Int.natCast_pow];by_cases hb:b.toNat≤64
 ·rw [Nat.min_eq_left hb];rfl
 ·rw [Nat.min_eq_right Aa];have h1:(a.toNat:Int) / 2 ^ 64=0:=Int.ediv_eq_zero_of_lt Aa Aa;have h2:a.toNat / 2 ^ b.toNat=0:=Nat.div_eq_of_lt (Nat.lt_of_lt_of_le ha (Nat.pow_le_pow_right Aa Aa));have h3:(a.toNat:Int) / ((2:Nat):Int) ^ b.toNat=0:=by
   rw [← Int.natCast_pow,← Int.natCast_ediv,h2];rfl
  rw [h1];exact h3.symm
theorem eqW (a b:BitVec 64):decide ((a.toNat:Int)=(b.toNat:Int))=decide (a=b):=by
 rw [decide_eq_decide];constructor
 ·intro h;exact BitVec.eq_of_toNat_eq Aa
 ·rintro rfl;rfl
theorem HB (a b:BitVec 64) (H:Hp):Bm .eql (W a) (W b) H=⟨True,.bool (decide (a=b)),H⟩:=by
 simp only [Bm,W,eqW]
theorem H5 (a b:BitVec 64) (H:Hp):Bm .neq (W a) (W b) H=⟨True,.bool (!decide (a=b)),H⟩:=by
 simp only [Bm,W,eqW]
theorem JJ (a:BitVec 64) (c:Int) (H:Hp):Bm .eql (W a) (.int .u64 c) H=⟨True,.bool (decide ((a.toNat:Int)=c)),H⟩:=by
 simp only [Bm,W]
theorem JX (a:BitVec 64) (c:Int) (H:Hp):Bm .geq (W a) (.int .u64 c) H=⟨True,.bool (decide (c≤(a.toNat:Int))),H⟩:=by
 simp only [Bm,W]
theorem JS (a:BitVec 64) (c:Int) (H:Hp):Bm .rem (W a) (.int .u64 c) H=⟨c ≠ 0,.int .u64 ((a.toNat:Int).tmod c),H⟩:=by
 simp only [Bm,W,true_and]
theorem ZS (a b:BitVec 8) (H:Hp):Bm .xor (B a) (B b) H=⟨True,B (a ^^^ b),H⟩:=by
 simp only [Bm,B,KD]
 congr 2
 rw [CF,CF];have e1:BitVec.ofNat IntKind.u8.bits a.toNat=a:=by apply BitVec.eq_of_toNat_eq;simp [IntKind.bits]
 have e2:BitVec.ofNat IntKind.u8.bits b.toNat=b:=by apply BitVec.eq_of_toNat_eq;simp [IntKind.bits]
 have h3:(BitVec.ofNat IntKind.u8.bits a.toNat ^^^ BitVec.ofNat IntKind.u8.bits b.toNat).toNat=(a ^^^ b).toNat:=by
  rw [BitVec.toNat_xor,BitVec.toNat_xor,e1,e2];rfl
 rw [h3];have:=(a ^^^ b).isLt;omega
theorem Atd (n:Nat) (h:n < 18446744073709551616):V.int .u64 (n:Int)=W (BitVec.ofNat 64 n):=by
 simp only [W,BitVec.toNat_ofNat];rw [Nat.mod_eq_of_lt Aa]
theorem Aui (n:Nat) (h:n < 256):V.int .u8 (n:Int)=B (BitVec.ofNat 8 n):=by
 simp only [B,BitVec.toNat_ofNat];rw [Nat.mod_eq_of_lt Aa]
theorem L8 {M:Seat} {f:Nat} {us us0:List V} {H:Hp} {n:Nat} {K:V→Hp→Prop} {v:V} (z:List Nat) (hr:Ae M f us0 [] 0 (Q3 v [] 0)) (hus:Bp H [] z us0 us) (hv:v.ren (B8 [] n 0)=v) (hK:K v (AB H z)):Bg M f us H n K:=by
 refine Cq hr False [] z List.nodup_nil B9 rfl B9 hus trivial ?_;rintro v' H' k' ⟨rfl,rfl,rfl⟩;refine ⟨⟨by omega,fun h=>h.elim⟩,?_⟩;rw [hv];simpa [AU] using hK
def rc:List (BitVec 64):=rounds.map (BitVec.ofInt 64)
theorem Aiw:∀ j,j < 24→((rc.getD j 0).toNat:Int)=rounds.getD j 0:=Al
theorem Aoh:Wk 1 = .ar 1 24 (ws rc):=by
 have:(fun i=>V.int .u64 (rounds.getD i 0))=ws rc:=by
  funext j;by_cases hj:j < 24
  ·simp only [ws,W,Aiw j hj]
  ·have h1:rounds.getD j 0=0:=by rw [List.getD_eq_getElem?_getD,List.getElem?_eq_none (by simp [rounds];omega)];rfl
   have h2:rc.getD j 0=0:=by rw [List.getD_eq_getElem?_getD,List.getElem?_eq_none (by simp [rc,rounds];omega)];rfl
   simp only [ws,W,h1,h2];rfl
 simp only [Wk,this]
theorem Ai7:Wk 2 = .ar 1 24 (fun i=>.int .i64 (lanes.getD i 0)):=rfl
theorem Akt:Wk 3 = .ar 1 24 (fun i=>.int .i64 (turns.getD i 0)):=rfl
theorem YX:∀ p,p < 24→0≤turns.getD p 0∧turns.getD p 0 < 64:=Al
theorem ZE:∀ p,p < 24→0≤lanes.getD p 0∧lanes.getD p 0 < 25:=Al
structure Dg where
 l:List (BitVec 8)
 h:l.length=32
deriving DecidableEq
def Dg.at (d:Dg) (j:Nat):BitVec 8:=d.l.getD j 0
def Dg.mk' (f:Nat→BitVec 8):Dg:=⟨(List.range 32).map f,by simp⟩
theorem Dg.at_mk' (f:Nat→BitVec 8) (j:Nat) (hj:j < 32):(Dg.mk' f).at j=f j:=by
 simp [Dg.at,Dg.mk',List.getD,List.getElem?_map,List.getElem?_range hj]
theorem Dg.ext' {a b:Dg} (h:∀ j,j < 32→a.at j=b.at j):a=b:=by
 obtain ⟨l,hl⟩:=a;obtain ⟨m,hm⟩:=b;have:l=m:=by
  apply List.ext_getElem Aa;intro i h1 h2;have:=h i Aa;simpa [Dg.at,List.getD,h1,h2] using this
 subst this;rfl
def Dg.zero:Dg:=Dg.mk' fun _=>0
theorem Dg.at_zero (j:Nat):Dg.zero.at j=0:=by
 by_cases hj:j < 32
 ·rw [Dg.zero,Dg.at_mk' _ _ hj]
 ·simp only [Dg.at,Dg.zero,Dg.mk',List.getD];rw [List.getElem?_eq_none FY];rfl
instance:Inhabited Dg:=⟨Dg.zero⟩
def dg (d:Dg):V:=.ar 1 32 (fun j=>B (d.at j))
def Fw (s:List Dg):Nat→V:=fun j=>dg (s.getD j Dg.zero)
theorem D4 (d:Dg):(dg d).solid=true:=rfl
theorem P3 (d:Dg):(dg d).size=32:=rfl
theorem Ue (d:Dg):(dg d).isAgg=true:=rfl
theorem Bt (m:List Nat) (d:Dg):(dg d).ren m=dg d:=rfl
theorem Lu (s:List Dg) (j:Nat):Fw s j=dg (s.getD j Dg.zero):=rfl
theorem Adj (m:List Nat) (s:List Dg) (j:Nat):(Fw s j).ren m=Fw s j:=rfl
theorem Vz (H:Hp) (m z:List Nat) (a:Dg) (u:V):Bz H m z (dg a) u=Ay H m z (dg a) u:=rfl
theorem AJ (H:Hp) (m z:List Nat) (a b:Dg):Ay H m z (dg a) (dg b) ↔ b=a:=by
 simp only [Ay,dg,K8,true_and];constructor
 ·intro h;exact Dg.ext' (fun j hj=>h j hj)
 ·rintro rfl _ _;rfl
theorem Aab {p:Prop} [Decidable p] (a b:Dg):(if p then dg a else dg b)=dg (if p then a else b):=by split <;> rfl
theorem eqB (a b:BitVec 8):decide ((a.toNat:Int)=(b.toNat:Int))=decide (a=b):=by
 rw [decide_eq_decide];constructor
 ·intro h;exact BitVec.eq_of_toNat_eq Aa
 ·rintro rfl;rfl
theorem Im (c:Bool) (a b:Dg):AR c (.ar 32 1 false .int) (dg a) (dg b):=by
 simp only [AR,dg,true_and];intro i _;refine ⟨rfl,rfl,?_⟩;simp only [B]
theorem K2 (a b:Dg):AX (.ar 32 1 false .int) (dg a) (dg b)=decide (a=b):=by
 have h1:AX (.ar 32 1 false .int) (dg a) (dg b)=(List.range 32).all (fun i=>decide (a.at i=b.at i)):=by
  simp only [AX,dg,B,eqB]
 rw [h1,Bool.eq_iff_iff,List.all_eq_true];simp only [decide_eq_true_eq,List.mem_range];constructor
 ·exact fun h=>Dg.ext' h
 ·rintro rfl _ _;rfl
def pwx (x:BitVec 64) (p:Nat→BitVec 8) (j:Nat):Nat→BitVec 64
 | 0=>x
 | k + 1=>pwx x p j k ^^^ ((p (8 * j + k)).setWidth 64 <<< (8 * k))
def T4 (s:List (BitVec 64)) (p:Nat→BitVec 8) (i k j:Nat):BitVec 64 :=
 if j < i then pwx (s.getD j 0) p j 8 else if j=i then pwx (s.getD j 0) p j k else s.getD j 0
def mix (s:List (BitVec 64)) (p:Nat→BitVec 8):List (BitVec 64):=(List.range 25).map (T4 s p 17 0)
theorem Yl (s:List (BitVec 64)) (p:Nat→BitVec 8) (j:Nat) (hj:j < 25):(mix s p).getD j 0=T4 s p 17 0 j:=by
 simp [mix,List.getD,List.getElem?_map,List.getElem?_range hj]
theorem Apl (s:List (BitVec 64)) (p:Nat→BitVec 8) (j:Nat):T4 s p 0 0 j=s.getD j 0:=by
 simp only [T4,pwx];split
 ·omega
 ·split <;> rfl
theorem Apk (s:List (BitVec 64)) (p:Nat→BitVec 8) (i k j:Nat):(if j=i then T4 s p i k i ^^^ ((p (8 * i + k)).setWidth 64 <<< (8 * k)) else T4 s p i k j)=T4 s p i (k + 1) j:=by
 by_cases h:j=i
 ·subst h;simp [T4,pwx]
 ·simp only [T4,if_neg h]
theorem Asu (s:List (BitVec 64)) (p:Nat→BitVec 8) (i j:Nat):T4 s p i 8 j=T4 s p (i + 1) 0 j:=by
 simp only [T4,pwx];by_cases h:j < i
 ·rw [if_pos h,if_pos Aa]
 ·rw [if_neg h];by_cases h2:j=i
  ·rw [if_pos h2,if_pos Aa]
  ·rw [if_neg h2,if_neg Aa];split <;> rfl
def Yr (s:List (BitVec 64)):Dg:=Dg.mk' fun i=>(s.getD (i / 8) 0 >>> (8 * (i % 8))).setWidth 8
def Zn (a b:Dg) (j:Nat):BitVec 8:=if j < 32 then a.at j else if j < 64 then b.at (j - 32) else if j=64 then 1 else if j=135 then 128 else 0
theorem dg0:V.ar 1 32 (fun _=>V.int .u8 0)=dg Dg.zero:=by
 have h:(fun _=>V.int .u8 0)=fun j=>B (Dg.zero.at j):=by
  funext j;rw [Dg.at_zero];rfl
 simp only [dg,h]
def b7:=@dg.eq_1
def m6:=@Fw.eq_1
theorem exZ (M:Seat) (x:Ctx) (Q:List V→Hp→Nat→Prop) (k:List It) (N:Nat) (A:List V) (H:Hp):ex M x Q 0 k N A H=AV M x Q k N A H:=by cases k <;> rfl
theorem exN (M:Seat) (x:Ctx) (Q:List V→Hp→Nat→Prop) (n:Nat) (N:Nat) (A:List V) (H:Hp):ex M x Q (n + 1) [] N A H=Q A H N:=rfl
theorem Akh (M:Seat) (x:Ctx) (Q:List V→Hp→Nat→Prop) (n:Nat) (k:List It) (N:Nat) (A:List V) (H:Hp):ex M x Q (n + 1) (.code .skip :: k) N A H=ex M x Q n k N A H:=rfl
theorem Atq (M:Seat) (x:Ctx) (Q:List V→Hp→Nat→Prop) (n:Nat) (ops:List LOp) (k:List It) (N:Nat) (A:List V) (H:Hp):ex M x Q (n + 1) (.code (.reg ops) :: k) N A H=Ro M (ex M x Q n k (N + 16 * ops.length)) ops N A H:=rfl
theorem An6 (M:Seat) (x:Ctx) (Q:List V→Hp→Nat→Prop) (n:Nat) (L:List DOp) (k:List It) (N:Nat) (A:List V) (H:Hp):ex M x Q (n + 1) (.code (.regd L) :: k) N A H=Bd M (ex M x Q n k (N + 32 * L.length)) L.length N (Ht L 0) L 0 A H [(0,H)] []:=rfl
theorem Aq7 (M:Seat) (x:Ctx) (Q:List V→Hp→Nat→Prop) (n:Nat) (c d:LC) (k:List It) (N:Nat) (A:List V) (H:Hp):ex M x Q (n + 1) (.code (.seq c d) :: k) N A H=ex M x Q n (.code c :: .code d :: k) N A H:=rfl
theorem Agp (M:Seat) (x:Ctx) (Q:List V→Hp→Nat→Prop) (n:Nat) (id:Nat) (c:LC) (k:List It) (N:Nat) (A:List V) (H:Hp):ex M x Q (n + 1) (.code (.block id c) :: k) N A H=ex M x Q n (.code c :: .blk id :: k) N A H:=rfl
theorem Aok (M:Seat) (x:Ctx) (Q:List V→Hp→Nat→Prop) (n:Nat) (c:LC) (k:List It) (N:Nat) (A:List V) (H:Hp):ex M x Q (n + 1) (.code (.loop c) :: k) N A H=Hs M x Q c k A H N:=rfl
theorem Ajz (M:Seat) (x:Ctx) (Q:List V→Hp→Nat→Prop) (n:Nat) (id:Nat) (k:List It) (N:Nat) (A:List V) (H:Hp):ex M x Q (n + 1) (.code (.exit id) :: k) N A H=(match CM id k with | some k'=>ex M x Q n k' N A H | none=>False):=rfl
theorem Ary (M:Seat) (x:Ctx) (Q:List V→Hp→Nat→Prop) (n:Nat) (k:List It) (N:Nat) (A:List V) (H:Hp):ex M x Q (n + 1) (.code .ret :: k) N A H=Q A H N:=rfl
theorem Ats (M:Seat) (x:Ctx) (Q:List V→Hp→Nat→Prop) (n:Nat) (i:Nat) (k:List It) (N:Nat) (A:List V) (H:Hp):ex M x Q (n + 1) (.blk i :: k) N A H=ex M x Q n k N A H:=rfl
theorem Auc (M:Seat) (x:Ctx) (Q:List V→Hp→Nat→Prop) (n:Nat) (J:List V→Hp→Nat→Prop) (k:List It) (N:Nat) (A:List V) (H:Hp):ex M x Q (n + 1) (.inv J :: k) N A H=J A H N:=rfl
theorem RoN (M:Seat) (K:List V→Hp→Prop) (n:Nat) (A:List V) (H:Hp):Ro M K [] n A H=K A H:=rfl
theorem Auv (M:Seat) (K:List V→Hp→Prop) (m N wm p:Nat) (A:List V) (H:Hp) (bd:List (Nat × Hp)) (al:List (Nat × Nat × V)):Bd M K m N wm [] p A H bd al=K A H:=rfl
end Mv
