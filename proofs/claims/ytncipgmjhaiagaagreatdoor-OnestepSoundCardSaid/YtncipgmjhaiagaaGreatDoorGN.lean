/- A part. -/
import Derived.Test.YtncipgmjhaiagaaGreatDoorGM
set_option linter.all false
namespace Mv
open Go
def LS:=(aq3 (App @S4 @AJ @Iv @Wp @Wd @Ds @Gv @Jf @Iq @Ea @Je @GO @not_false_eq_true) (App @M1 @PF @Mp @Oy @MC @PN @Pc @Ma @Sr @Ok @Ms @PA @Mi) (Apn @Tl @Mh @O8 @Su @SC @OL @true_and @and_true @and_self @V.int.injEq @V.sl.injEq @V.ptr.injEq @V.bool.injEq @Bool.true_or))
def Lz:=(aq9 @BEq.rfl.{0} @LS @La4 @CD @hget.eq_1 @hget.eq_2 @Ae.eq_1 @Ae.eq_2 @ne_eq.{1})
def LT:=(aq5 (App @S4 @AJ @Iv @Wp @Wd @Ds @Gv @Jf @Iq @Ea @Je @GO @not_false_eq_true) (Apn @M1 @PF @Mp @Oy @MC @PN @Pc @Ma @Sr @Ok @Ms @PA @Mi @Tl) (Apn @Mh @O8 @Su @SC @OL @true_and @and_true @and_self @V.int.injEq @V.sl.injEq @V.ptr.injEq @V.bool.injEq @Bool.true_or @Ib) (Apn @Hm @DG @Ex @DK @En @DH @Ez @Es @DI @FD @Ep @DN @Er @DF) (Apn @FL @DA @Em @FI @FB @Bool.and_true @Bool.true_and @Bool.and_self @Nat.zero_add @Nat.le_refl @Bool.or_true @Bool.or_false @Bool.false_or @Int.natCast_zero))
def La6:=(Apl @LT @La0 @La4 @List.contains_cons.{0} @List.contains_nil.{0} @implies_true.{0} @implies_true.{1} @DS.eq_1 @DS.eq_2 @Ek.eq_1 @Ek.eq_2)
def A7:=(aq5 (Apk @BEq.rfl.{0} @Int.cast_ofNat_Int @LT @List.contains_cons.{0} @List.contains_nil.{0} @List.getElem?_cons_succ.{0} @List.getElem?_cons_zero.{0} @List.getElem?_nil.{0} @Option.some.injEq.{0} @Aw.eq_1 @Aw.eq_2 @Aw.eq_3 @Aw.eq_4 @Aw.eq_5 @Aw.eq_6) (Apk @Aw.eq_7 @Aw.eq_8 @Aw.eq_9 @Aw.eq_10 @Aw.eq_11 @Aw.eq_12 @Aw.eq_13 @Aw.eq_14 @Aw.eq_15 @Aw.eq_16 @Aw.eq_17 @Aw.eq_18 @Aw.eq_19 @Aw.eq_20 @Aw.eq_21) (Apm @Aw.eq_22 @Aw.eq_23 @Aw.eq_24 @Aw.eq_25 @Aw.eq_26 @Aw.eq_27 @Aw.eq_28 @Aw.eq_29 @Aw.eq_30 @Aw.eq_31 @Aw.eq_32 @Aw.eq_33 @Aw.eq_34 @Aw.eq_35 @Aw.eq_36 @Aw.eq_37) (Apk @AV.eq_1 @AV.eq_2 @AV.eq_3 @Bk.eq_1 @Bk.eq_2 @Lj.eq_1 @Lj.eq_2 @V.fget.eq_1 @V.fget.eq_2 @V.fhas.eq_1 @V.fhas.eq_2 @V.get.eq_1 @V.get.eq_2 @V.get.eq_3 @V.get.eq_4) (Apm @V.get.eq_5 @V.ok.eq_1 @V.ok.eq_2 @V.ok.eq_3 @V.ok.eq_4 @V.ok.eq_5 @Ux.eq_1 @hget.eq_1 @hget.eq_2 @Ae.eq_1 @Ae.eq_2 @if_false.{1} @if_true.{1} @implies_true.{0} @implies_true.{1} @ne_eq.{1}))
def LR:=(aq9 (Apk @Iu @JJ @J6 @Ii @Ie @E5 @Fv @EU @EZ @FJ @FO @FG @Tt @Od @Hh) (Apm @Ea @Je @GO @BH @not_false_eq_true @Te @RU @Sl @Tj @SP @Sd @Sy @Tu @S3 @SF @Sx) (Apm @SI @RZ @Y6 @Ahb @WW @S5 @GY @Hb @GW @J0 @Int.le_refl @JZ @Ki @Rc @DG @Jz) (Apm @NK @Iv @Gb @Hu @Int.toNat_natCast @true_or @or_true @Nat.add_zero @ZG @Z6 @Zz @Nat.zero_or @Nat.or_zero @Nat.and_zero @Nat.zero_and @Nat.zero_shiftRight) (Apm @Int.toNat_zero @Jf @Iq @Ib @NY @SX @Hm @N3 @Tf @Ex @DK @En @DH @Ez @Es @DI) (Apm @FD @Ep @DN @Er @DF @FL @DA @Em @FI @FB @HK @Gi @H5 @Xa0 @Hk @Hq) (Apm @FV @JN @HC @FX @Hy @Gk @J9 @FY @HQ @J2 @J4 @JA @HT @J5 @HV @JP) (Apm @JD @HI @ME @JK @H8 @J7 @HF @Nn @Ic @J8 @MS @MR @Bool.true_or @Bool.or_true @Bool.false_or @Bool.or_false) (Apm @Bool.and_true @Bool.true_and @Bool.false_and @Bool.and_false @true_and @and_true @Bool.false_eq_true @Bool.true_eq_false @false_implies @true_implies @decide_true @decide_false @Ns @Kw @Bool.not_true @Bool.not_false))
def Fe:=(aq2 @LR @La0)
def LU:=(Apq (Apk @Iu @JJ @J6 @Ii @Ie @E5 @Fv @EU @EZ @FJ @FO @FG @Tt @Od @Hh) (Apk @Ea @Je @GO @BH @not_false_eq_true @Te @RU @Sl @Tj @SP @Sd @Sy @Tu @S3 @SF) (Apk @Sx @SI @RZ @Y6 @Ahb @WW @S5 @GY @Hb @GW @J0 @Int.le_refl @JZ @Ki @Rc) (Apk @DG @Jz @NK @Iv @Gb @Hu @Int.toNat_natCast @true_or @or_true @Nat.add_zero @ZG @Z6 @Zz @Nat.zero_or @Nat.or_zero) (Apk @Nat.and_zero @Nat.zero_and @Nat.zero_shiftRight @Int.toNat_zero @Jf @Iq @Ib @NY @SX @Hm @N3 @Tf @Ex @DK @En) (Apk @DH @Ez @Es @DI @FD @Ep @DN @Er @DF @FL @DA @Em @FI @FB @HK) (Apk @Gi @H5 @Xa0 @Hk @Hq @FV @JN @HC @FX @Hy @Gk @J9 @FY @HQ @J2) (Apk @J4 @JA @HT @J5 @HV @JP @JD @HI @ME @JK @H8 @J7 @HF @Nn @Ic) (Apk @J8 @MS @MR @Bool.true_or @Bool.or_true @Bool.false_or @Bool.or_false @Bool.and_true @Bool.true_and @Bool.false_and @Bool.and_false @true_and @and_true @Bool.false_eq_true @Bool.true_eq_false) (Apm @false_implies @true_implies @decide_true @decide_false @Ns @Kw @Bool.not_true @Bool.not_false @Nat.zero_add @Nat.add_one_ne_zero @Int.natCast_zero @Nat.mul_zero @Bool.false_xor @Bool.xor_false @Bool.true_xor @Bool.xor_true))
def CH:=(aq2 @LU @La0)
def Lc:=(aq4 @Tp @CH @HD.eq_1 @HD.eq_2)
def LQ:=(Apl (Apk @Iu @JJ @J6 @Ii @Ie @E5 @Fv @EU @EZ @FJ @FO @FG @Tt @Od @Hh) (Apm @Ea @Je @GO @BH @not_false_eq_true @Te @RU @Sl @Tj @SP @Sd @Sy @Tu @S3 @SF @Sx) (Apm @SI @RZ @Y6 @Ahb @WW @S5 @GY @Hb @GW @J0 @Int.le_refl @JZ @Ki @Rc @DG @Jz) (Apm @NK @Iv @Gb @Hu @Int.toNat_natCast @true_or @or_true @Nat.add_zero @ZG @Z6 @Zz @Nat.zero_or @Nat.or_zero @Nat.and_zero @Nat.zero_and @Nat.zero_shiftRight) (Apm @Int.toNat_zero @Jf @Iq @Ib @NY @SX @Hm @N3 @Tf @Ex @DK @En @DH @Ez @Es @DI) (Apm @FD @Ep @DN @Er @DF @FL @DA @Em @FI @FB @HK @Gi @H5 @Xa0 @Hk @Hq) (Apm @FV @JN @HC @FX @Hy @Gk @J9 @FY @HQ @J2 @J4 @JA @HT @J5 @HV @JP) (Apm @JD @HI @ME @JK @H8 @J7 @HF @Nn @Ic @J8 @MS @MR @Bool.true_or @Bool.or_true @Bool.false_or @Bool.or_false) (Apm @Bool.and_true @Bool.true_and @Bool.false_and @Bool.and_false @true_and @and_true @Bool.false_eq_true @Bool.true_eq_false @false_implies @true_implies @decide_true @decide_false @Ns @Kw @Bool.not_true @Bool.not_false) (Apm @V.bool.injEq @exZ @exN @X0 @Adq @V1 @Ac8 @Tk @Wr @Vv @Adh @Adb @Ads @Adv @Rm @U5) (Apm @RoN @RoO @RoC @RoY @RoG @Amj @Amy @Anj @Nat.zero_add @Nat.add_one_ne_zero @Int.natCast_zero @Nat.mul_zero @Bool.false_xor @Bool.xor_false @Bool.true_xor @Bool.xor_true))
def LN:=(aq7 @Amm @Al7 @Xy @Aip @Abq @Abh @not_false_eq_true)
theorem poP (a b:Prop):(bif true then a else b)=a:=rfl
theorem Ang (a b:Prop):(bif false then a else b)=b:=rfl
theorem poH (a b:List (Nat × Hp)):(bif true then a else b)=a:=rfl
theorem Am3 (a b:List (Nat × Hp)):(bif false then a else b)=b:=rfl
theorem poA (a b:List (Nat × Nat × V)):(bif true then a else b)=a:=rfl
theorem An3 (a b:List (Nat × Nat × V)):(bif false then a else b)=b:=rfl
theorem poB (a b:Bool):(bif true then a else b)=a:=rfl
theorem Am2 (a b:Bool):(bif false then a else b)=b:=rfl
theorem poV (a b:V):(bif true then a else b)=a:=rfl
theorem Ann (a b:V):(bif false then a else b)=b:=rfl
theorem poN (a b:Nat):(a ≠ b) = ¬ (a=b):=rfl
theorem poI (a b:Int):(a ≠ b) = ¬ (a=b):=rfl
theorem Aoc (a:Nat):(a == a)=true:=beq_self_eq_true a
theorem Al2 (a:Bool):(a == a)=true:=beq_self_eq_true a
theorem An6 (a:Bool):(a != a)=false:=by cases a <;> rfl
theorem Any (a b:Nat):(some a=some b)=(a=b):=Bu
theorem Amu (a:Nat) (l:List Nat):(a :: l)[0]?=some a:=rfl
theorem Anw (a:Nat) (l:List Nat) (i:Nat):(a :: l)[i + 1]?=l[i]?:=rfl
theorem Am7 (i:Nat):([]:List Nat)[i]?=none:=rfl
theorem Am5 (a b:Nat) (l:List Nat):(b :: l).contains a=(a == b || l.contains a):=List.contains_cons
theorem An4 (a:Nat):([]:List Nat).contains a=false:=rfl
theorem Aod (f:X→V) (a:X) (l:List X):(a :: l).map f=f a :: l.map f:=rfl
theorem Aob (f:X→V):([]:List X).map f=[]:=rfl
theorem Amx (f:Nat × Nat × V→Nat × V) (a:Nat × Nat × V) (l:List (Nat × Nat × V)):(a :: l).map f=f a :: l.map f:=rfl
theorem Ame (f:Nat × Nat × V→Nat × V):([]:List (Nat × Nat × V)).map f=[]:=rfl
theorem Anv (p:Nat × Nat × V→Bool) (a:Nat × Nat × V) (l:List (Nat × Nat × V)):(a :: l).filter p=if p a=true then a :: l.filter p else l.filter p:=List.filter_cons
theorem An0 (p:Nat × Nat × V→Bool):([]:List (Nat × Nat × V)).filter p=[]:=rfl
theorem Ans (a:LOp) (l:List LOp):(a :: l).length=l.length + 1:=rfl
theorem Alr:([]:List LOp).length=0:=rfl
theorem Anm (a:DOp) (l:List DOp):(a :: l).length=l.length + 1:=rfl
theorem Aj0:([]:List DOp).length=0:=rfl
theorem Anc (a:V) (l:List V):(a :: l).length=l.length + 1:=rfl
theorem Akv:([]:List V).length=0:=rfl
theorem An9 (a:X) (l:List X):(a :: l).length=l.length + 1:=rfl
theorem Ajb:([]:List X).length=0:=rfl
theorem Am4 (a:Nat × V) (l m:List (Nat × V)):a :: l ++ m=a :: (l ++ m):=rfl
theorem Akn (m:List (Nat × V)):[] ++ m=m:=rfl
theorem Aoa (a:V) (l m:List V):a :: l ++ m=a :: (l ++ m):=rfl
theorem Akq (m:List V):[] ++ m=m:=rfl
theorem Am9 (l:List (Nat × V)):l ++ []=l:=List.append_nil l
theorem poZ (n:Nat):((OfNat.ofNat n:Nat):Int)=OfNat.ofNat n:=rfl
def LP:=(aq3 (App @poP @Ang @poH @Am3 @poA @An3 @poB @Am2 @poV @Ann @poN @poI @Aoc) (Apn @Al2 @An6 @Any @Amu @Anw @Am7 @Am5 @An4 @Aod @Aob @Amx @Ame @Anv @An0) (Apn @Ans @Alr @Anm @Aj0 @Anc @Akv @An9 @Ajb @Am4 @Akn @Aoa @Akq @Am9 @poZ))
def vpk (c a b:V) (H:Hp):Out:=match c with | .bool t=>⟨True,F4 t a b,H⟩ | _=>BR H
theorem Ajm (t:Bool) (a b:V) (H:Hp):vpk (.bool t) a b H=⟨True,F4 t a b,H⟩:=rfl
theorem XV (A:List V) (H:Hp) (n:Nat) (c a b:X):Ad A H n (.pick c a b)=vpk (c.ev A) (a.ev A) (b.ev A) H:=rfl
theorem Zs (a b:Bool):F4 true (.bool a) (.bool b) = .bool a:=rfl
theorem Abs (a b:Bool):F4 false (.bool a) (.bool b) = .bool b:=rfl
theorem XZ (a:Bool) (v:V):F4 true (.bool a) (.tup v) = .bool a:=rfl
theorem WE (b:Bool) (v:V):F4 false (.tup v) (.bool b) = .bool b:=rfl
theorem Ws (t a b:Bool):F4 t (.bool a) (.bool b) = .bool (bif t then a else b):=rfl
theorem Af9 (A:List V) (H:Hp) (n:Nat) (x:X):Ad A H n (.mv x)=⟨True,x.ev A,H⟩:=rfl
theorem Aa7 (A:List V) (H:Hp) (n:Nat) (op:BinOp) (x y:X):Ad A H n (.ari op x y)=AK op (x.ev A) (y.ev A) H:=rfl
theorem Afh (A:List V) (H:Hp) (n:Nat) (op:UnOp) (x:X):Ad A H n (.un op x)=Vk op (x.ev A) H:=rfl
theorem Aec (A:List V) (H:Hp) (n:Nat) (neg c:Bool) (s:ES) (x y:X):Ad A H n (.eq neg c s x y)=⟨AH c s (x.ev A) (y.ev A),.bool (neg ^^ AN s (x.ev A) (y.ev A)),H⟩:=rfl
theorem TY (A:List V) (H:Hp) (n:Nat) (z:Z):Ad A H n (.alloc z)=⟨True,.ptr n [],(n,z.v 0) :: H⟩:=rfl
theorem Acs (A:List V) (H:Hp) (n:Nat) (x:X):Ad A H n (.box x)=⟨(x.ev A).solid=true,.ptr n [],(n,x.ev A) :: H⟩:=rfl
theorem UF (A:List V) (H:Hp) (n:Nat) (z:Z) (ps:List (Stp × Nat × X)):Ad A H n (.build z ps)=⟨By (z.v 0) A ps,BY (z.v 0) A ps,H⟩:=rfl
theorem Aa2 (A:List V) (H:Hp) (n sz m:Nat) (z:Z) (ps:List (Stp × Nat × X)):Ad A H n (.bsl sz m z ps)=⟨By (.ar sz m (fun _=>z.v 0)) A ps,.sl n [] 0 m sz,(n,BY (.ar sz m (fun _=>z.v 0)) A ps) :: H⟩:=rfl
def VK (agg:Bool) (sz:Nat) (x:V) (H:Hp):Out:=match x with
 | .ptr id p=>⟨(Ae H id=true∧(hget H id).solid=true∧(hget H id).ok p)∧((hget H id).get p).solid=true∧((hget H id).get p).size=sz∧((hget H id).get p).isAgg=agg,(hget H id).get p,H⟩
 | .imm v=>⟨v.solid=true∧v.size=sz∧v.isAgg=agg,v,H⟩
 | _=>BR H
theorem Acy (agg:Bool) (sz id:Nat) (p:List Stp) (H:Hp):VK agg sz (.ptr id p) H=⟨(Ae H id=true∧(hget H id).solid=true∧(hget H id).ok p)∧((hget H id).get p).solid=true∧((hget H id).get p).size=sz∧((hget H id).get p).isAgg=agg,(hget H id).get p,H⟩:=rfl
theorem Aby (agg:Bool) (sz:Nat) (v:V) (H:Hp):VK agg sz (.imm v) H=⟨v.solid=true∧v.size=sz∧v.isAgg=agg,v,H⟩:=rfl
theorem Xb (A:List V) (H:Hp) (n:Nat) (agg:Bool) (sz:Nat) (x:X):Ad A H n (.load agg sz x)=VK agg sz (x.ev A) H:=by
 simp only [Ad];generalize X.ev A x=u;cases u <;> rfl
def Wg (sz:Nat) (x y:V) (H:Hp):Out:=match x with
 | .ptr id p=>⟨(Ae H id=true∧(hget H id).solid=true∧(hget H id).ok p∧H4 p=true)∧y.solid=true∧y.size=sz∧((hget H id).get p).size=sz,.tup .fnil,Ch H id (V.set y p (hget H id))⟩
 | _=>BR H
theorem XI (sz id:Nat) (p:List Stp) (y:V) (H:Hp):Wg sz (.ptr id p) y H=⟨(Ae H id=true∧(hget H id).solid=true∧(hget H id).ok p∧H4 p=true)∧y.solid=true∧y.size=sz∧((hget H id).get p).size=sz,.tup .fnil,Ch H id (V.set y p (hget H id))⟩:=rfl
theorem Ui (A:List V) (H:Hp) (n:Nat) (sz:Nat) (x y:X):Ad A H n (.store sz x y)=Wg sz (x.ev A) (y.ev A) H:=by
 simp only [Ad];generalize X.ev A x=u;generalize X.ev A y=v;cases u <;> cases v <;> rfl
def Oo (x:V) (H:Hp):Out:=match x with
 | .ptr id p=>⟨True,.ptr id p,H⟩
 | .imm v=>⟨True,.imm v,H⟩
 | .fn f c=>⟨f < 1000000,.fn f c,H⟩
 | .ifc t v=>⟨True,.ifc t v,H⟩
 | _=>BR H
theorem Aab (id:Nat) (p:List Stp) (H:Hp):Oo (.ptr id p) H=⟨True,.ptr id p,H⟩:=rfl
theorem Zc (v:V) (H:Hp):Oo (.imm v) H=⟨True,.imm v,H⟩:=rfl
theorem Zu (f:Nat) (c:V) (H:Hp):Oo (.fn f c) H=⟨f < 1000000,.fn f c,H⟩:=rfl
theorem Aal (t:Nat) (v:V) (H:Hp):Oo (.ifc t v) H=⟨True,.ifc t v,H⟩:=rfl
theorem V6 (A:List V) (H:Hp) (n:Nat) (x:X):Ad A H n (.nilc x)=Oo (x.ev A) H:=by
 simp only [Ad];generalize X.ev A x=u;cases u <;> rfl
def WR (off:Nat) (x:V) (H:Hp):Out:=match x with
 | .ptr id p=>⟨True,.ptr id (CJ p (.f off)),H⟩
 | .imm v=>⟨v.solid=true∧v.ok [.f off],.imm (v.get [.f off]),H⟩
 | _=>BR H
theorem Abm (off id:Nat) (p:List Stp) (H:Hp):WR off (.ptr id p) H=⟨True,.ptr id (CJ p (.f off)),H⟩:=rfl
theorem YR (off:Nat) (v:V) (H:Hp):WR off (.imm v) H=⟨v.solid=true∧v.ok [.f off],.imm (v.get [.f off]),H⟩:=rfl
theorem WP (A:List V) (H:Hp) (n off:Nat) (x:X):Ad A H n (.fadr off x)=WR off (x.ev A) H:=by
 simp only [Ad];generalize X.ev A x=u;cases u <;> rfl
def KA (m sz:Nat) (x i:V) (H:Hp):Out:=match x,i with
 | .ptr id p,.int _ a=>⟨0≤a∧a < m,.ptr id (CJ p (.i sz a.toNat)),H⟩
 | .imm v,.int _ a=>⟨(0≤a∧a < m)∧v.solid=true∧v.ok [.i sz a.toNat],.imm (v.get [.i sz a.toNat]),H⟩
 | _,_=>BR H
theorem Abw (m sz id:Nat) (p:List Stp) (k:IntKind) (a:Int) (H:Hp):KA m sz (.ptr id p) (.int k a) H=⟨0≤a∧a < m,.ptr id (CJ p (.i sz a.toNat)),H⟩:=rfl
theorem Xz (m sz id:Nat) (p:List Stp) (w:BitVec 64) (H:Hp):KA m sz (.ptr id p) (W w) H=⟨w.toNat < m,.ptr id (CJ p (.i sz w.toNat)),H⟩:=by
 simp only [KA,Lcd];congr 1;rw [eq_iff_iff];omega
theorem Acf (m sz:Nat) (v:V) (k:IntKind) (a:Int) (H:Hp):KA m sz (.imm v) (.int k a) H=⟨(0≤a∧a < m)∧v.solid=true∧v.ok [.i sz a.toNat],.imm (v.get [.i sz a.toNat]),H⟩:=rfl
theorem VM (m sz:Nat) (v:V) (w:BitVec 64) (H:Hp):KA m sz (.imm v) (W w) H=⟨w.toNat < m∧v.solid=true∧v.ok [.i sz w.toNat],.imm (v.get [.i sz w.toNat]),H⟩:=by
 simp only [KA,Lcd];congr 2;rw [eq_iff_iff];omega
theorem Yi (A:List V) (H:Hp) (n m sz:Nat) (x i:X):Ad A H n (.iarr m sz x i)=KA m sz (x.ev A) (i.ev A) H:=by
 simp only [Ad];generalize X.ev A x=u;generalize X.ev A i=v;cases u <;> cases v <;> rfl
def Re (sz:Nat) (x i:V) (H:Hp):Out:=match x,i with
 | .sl id p o m sz',.int _ a=>⟨(0≤a∧a < m)∧sz'=sz,.ptr id (CJ p (.i sz (o + a.toNat))),H⟩
 | .lst sz' m f,.int _ a=>⟨(0≤a∧a < m)∧sz'=sz,.imm (f a.toNat),H⟩
 | _,_=>BR H
theorem Aez (sz id:Nat) (p:List Stp) (o m sz':Nat) (k:IntKind) (a:Int) (H:Hp):Re sz (.sl id p o m sz') (.int k a) H=⟨(0≤a∧a < m)∧sz'=sz,.ptr id (CJ p (.i sz (o + a.toNat))),H⟩:=rfl
theorem Zt (sz id:Nat) (p:List Stp) (o m sz':Nat) (w:BitVec 64) (H:Hp):Re sz (.sl id p o m sz') (W w) H=⟨w.toNat < m∧sz'=sz,.ptr id (CJ p (.i sz (o + w.toNat))),H⟩:=by
 simp only [Re,Lcd];congr 2;rw [eq_iff_iff];omega
theorem Ahh (sz sz' m:Nat) (f:Nat→V) (k:IntKind) (a:Int) (H:Hp):Re sz (.lst sz' m f) (.int k a) H=⟨(0≤a∧a < m)∧sz'=sz,.imm (f a.toNat),H⟩:=rfl
theorem Ab6 (sz sz' m:Nat) (f:Nat→V) (w:BitVec 64) (H:Hp):Re sz (.lst sz' m f) (W w) H=⟨w.toNat < m∧sz'=sz,.imm (f w.toNat),H⟩:=by
 simp only [Re,Lcd];congr 2;rw [eq_iff_iff];omega
theorem Zn (A:List V) (H:Hp) (n sz:Nat) (x i:X):Ad A H n (.isl sz x i)=Re sz (x.ev A) (i.ev A) H:=by
 simp only [Ad];generalize X.ev A x=u;generalize X.ev A i=v;cases u <;> cases v <;> rfl
def ZT (m sz:Nat) (agg:Bool) (x i:V) (H:Hp):Out:=match x,i with
 | .ar sz' m' f,.int _ a=>⟨(0≤a∧a < m)∧sz'=sz∧m'=m∧(f a.toNat).isAgg=agg,f a.toNat,H⟩
 | _,_=>BR H
theorem Aej (m sz:Nat) (agg:Bool) (sz' m':Nat) (f:Nat→V) (k:IntKind) (a:Int) (H:Hp):ZT m sz agg (.ar sz' m' f) (.int k a) H=⟨(0≤a∧a < m)∧sz'=sz∧m'=m∧(f a.toNat).isAgg=agg,f a.toNat,H⟩:=rfl
theorem Z4 (m sz:Nat) (agg:Bool) (sz' m':Nat) (f:Nat→V) (w:BitVec 64) (H:Hp):ZT m sz agg (.ar sz' m' f) (W w) H=⟨w.toNat < m∧sz'=sz∧m'=m∧(f w.toNat).isAgg=agg,f w.toNat,H⟩:=by
 simp only [ZT,Lcd];congr 2;rw [eq_iff_iff];omega
theorem Aa0 (A:List V) (H:Hp) (n m sz:Nat) (agg:Bool) (x i:X):Ad A H n (.idx m sz agg x i)=ZT m sz agg (x.ev A) (i.ev A) H:=by
 simp only [Ad];generalize X.ev A x=u;generalize X.ev A i=v;cases u <;> cases v <;> rfl
def Ala (off sz:Nat) (agg:Bool) (x:V) (H:Hp):Out:=match x with
 | .st _ fs=>⟨fs.fhas off=true∧(fs.fget off).solid=true∧(fs.fget off).size=sz∧(fs.fget off).isAgg=agg,fs.fget off,H⟩
 | _=>BR H
theorem Afe (off sz:Nat) (agg:Bool) (m:Nat) (fs:V) (H:Hp):Ala off sz agg (.st m fs) H=⟨fs.fhas off=true∧(fs.fget off).solid=true∧(fs.fget off).size=sz∧(fs.fget off).isAgg=agg,fs.fget off,H⟩:=rfl
theorem Acl (A:List V) (H:Hp) (n off sz:Nat) (agg:Bool) (x:X):Ad A H n (.fld off sz agg x)=Ala off sz agg (x.ev A) H:=by
 simp only [Ad];generalize X.ev A x=u;cases u <;> rfl
def C5 (d:Int):Option V→Int
 | none=>d
 | some (.int _ n)=>n
 | _=>-1
def Du:Option V→Prop
 | none=>True
 | some (.int _ _)=>True
 | _=>False
theorem Akt (d:Int):C5 d none=d:=rfl
theorem Ajj (d:Int) (k:IntKind) (n:Int):C5 d (some (.int k n))=n:=rfl
theorem Akp (d:Int) (w:BitVec 64):C5 d (some (W w))=(w.toNat:Int):=rfl
theorem Ail:Du none=True:=rfl
theorem Ahz (k:IntKind) (n:Int):Du (some (.int k n))=True:=rfl
theorem Adu (w:BitVec 64):Du (some (W w))=True:=rfl
theorem PW (A:List V) (d:Int) (x:Option X):AA A d x=C5 d (x.map (X.ev A)):=by
 cases x with
 | none=>rfl
 | some x=>simp only [AA,Option.map,C5];split <;> simp_all
theorem KD (A:List V) (x:Option X):B4 A x=Du (x.map (X.ev A)):=by
 cases x with
 | none=>rfl
 | some x=>simp only [B4,Ox,Option.map,Du];split <;> simp_all
def MI (m sz:Nat) (x:V) (lo hi:Option V) (H:Hp):Out:=match x with
 | .ptr id p=>⟨(Du lo∧Du hi∧0≤C5 0 lo∧C5 0 lo≤C5 m hi∧C5 m hi≤m)∧Ae H id=true∧(hget H id).solid=true∧(hget H id).ok p∧(match (hget H id).get p with | .ar sz' m' _=>sz'=sz∧m'=m | _=>False),
  .sl id p (C5 0 lo).toNat ((C5 m hi).toNat - (C5 0 lo).toNat) sz,H⟩
 | .imm v => match v with
   | .ar sz' m' f=>⟨(Du lo∧Du hi∧0≤C5 0 lo∧C5 0 lo≤C5 m hi∧C5 m hi≤m)∧sz'=sz∧m'=m,.lst sz ((C5 m hi).toNat - (C5 0 lo).toNat) (fun i=>f ((C5 0 lo).toNat + i)),H⟩
   | _=>BR H
 | _=>BR H
def TT (sz m:Nat):V→Prop
 | .ar sz' m' _=>sz'=sz∧m'=m
 | _=>False
theorem Afx (sz m sz' m':Nat) (f:Nat→V):TT sz m (.ar sz' m' f)=(sz'=sz∧m'=m):=rfl
theorem Ym (m sz id:Nat) (p:List Stp) (lo hi:Option V) (H:Hp):MI m sz (.ptr id p) lo hi H=⟨(Du lo∧Du hi∧0≤C5 0 lo∧C5 0 lo≤C5 m hi∧C5 m hi≤m)∧Ae H id=true∧(hget H id).solid=true∧(hget H id).ok p∧TT sz m ((hget H id).get p),
 .sl id p (C5 0 lo).toNat ((C5 m hi).toNat - (C5 0 lo).toNat) sz,H⟩:=by
 simp only [MI];congr 5
theorem XE (m sz sz' m':Nat) (f:Nat→V) (lo hi:Option V) (H:Hp):MI m sz (.imm (.ar sz' m' f)) lo hi H=⟨(Du lo∧Du hi∧0≤C5 0 lo∧C5 0 lo≤C5 m hi∧C5 m hi≤m)∧sz'=sz∧m'=m,.lst sz ((C5 m hi).toNat - (C5 0 lo).toNat) (fun i=>f ((C5 0 lo).toNat + i)),H⟩:=rfl
theorem U3 (A:List V) (H:Hp) (n m sz:Nat) (x:X) (lo hi:Option X):Ad A H n (.slarr m sz x lo hi)=MI m sz (x.ev A) (lo.map (X.ev A)) (hi.map (X.ev A)) H:=by
 simp only [Ad,PW,KD];generalize X.ev A x=u
 cases u <;> first | rfl | (rename_i v;cases v <;> rfl)
def SV (sz:Nat) (x:V) (lo hi:Option V) (H:Hp):Out:=match x with
 | .sl id p o m sz'=>⟨(Du lo∧Du hi∧0≤C5 0 lo∧C5 0 lo≤C5 m hi∧C5 m hi≤m)∧sz'=sz,.sl id p (o + (C5 0 lo).toNat) ((C5 m hi).toNat - (C5 0 lo).toNat) sz,H⟩
 | .lst sz' m f=>⟨(Du lo∧Du hi∧0≤C5 0 lo∧C5 0 lo≤C5 m hi∧C5 m hi≤m)∧sz'=sz,.lst sz ((C5 m hi).toNat - (C5 0 lo).toNat) (fun i=>f ((C5 0 lo).toNat + i)),H⟩
 | .nils=>⟨Du lo∧Du hi∧C5 0 lo=0∧C5 0 hi=0,.nils,H⟩
 | _=>BR H
theorem ZP (sz id:Nat) (p:List Stp) (o m sz':Nat) (lo hi:Option V) (H:Hp):SV sz (.sl id p o m sz') lo hi H=⟨(Du lo∧Du hi∧0≤C5 0 lo∧C5 0 lo≤C5 m hi∧C5 m hi≤m)∧sz'=sz,.sl id p (o + (C5 0 lo).toNat) ((C5 m hi).toNat - (C5 0 lo).toNat) sz,H⟩:=rfl
theorem Aa6 (sz sz' m:Nat) (f:Nat→V) (lo hi:Option V) (H:Hp):SV sz (.lst sz' m f) lo hi H=⟨(Du lo∧Du hi∧0≤C5 0 lo∧C5 0 lo≤C5 m hi∧C5 m hi≤m)∧sz'=sz,.lst sz ((C5 m hi).toNat - (C5 0 lo).toNat) (fun i=>f ((C5 0 lo).toNat + i)),H⟩:=rfl
theorem Aa4 (sz:Nat) (lo hi:Option V) (H:Hp):SV sz .nils lo hi H=⟨Du lo∧Du hi∧C5 0 lo=0∧C5 0 hi=0,.nils,H⟩:=rfl
theorem VA (A:List V) (H:Hp) (n sz:Nat) (x:X) (lo hi:Option X):Ad A H n (.slsl sz x lo hi)=SV sz (x.ev A) (lo.map (X.ev A)) (hi.map (X.ev A)) H:=by
 simp only [Ad,PW,KD];generalize X.ev A x=u;cases u <;> rfl
def Agg (m sz:Nat) (x:V) (H:Hp):Out:=match x with
 | .sl id p o l sz'=>⟨(sz'=sz∧m≤l∧0 < m),.ptr id (CJ p (.r sz o m)),H⟩
 | .lst sz' l f=>⟨sz'=sz∧m≤l∧0 < m,.imm (.ar sz m f),H⟩
 | _=>BR H
theorem Aiw (m sz id:Nat) (p:List Stp) (o l sz':Nat) (H:Hp):Agg m sz (.sl id p o l sz') H=⟨(sz'=sz∧m≤l∧0 < m),.ptr id (CJ p (.r sz o m)),H⟩:=rfl
theorem Aeg (m sz sz' l:Nat) (f:Nat→V) (H:Hp):Agg m sz (.lst sz' l f) H=⟨sz'=sz∧m≤l∧0 < m,.imm (.ar sz m f),H⟩:=rfl
theorem Zb (A:List V) (H:Hp) (n m sz:Nat) (x:X):Ad A H n (.s2a m sz x)=Agg m sz (x.ev A) H:=by
 simp only [Ad];generalize X.ev A x=u;cases u <;> rfl
theorem Xh (A:List V) (H:Hp) (n t:Nat) (x:X):Ad A H n (.mkif t x)=⟨(x.ev A).solid=true,.ifc t (x.ev A),H⟩:=rfl
def Aj3 (x:V) (i:Nat) (H:Hp):Out:=match x with
 | .tup fs=>⟨fs.fhas i=true,fs.fget i,H⟩
 | _=>BR H
theorem Ahu (fs:V) (i:Nat) (H:Hp):Aj3 (.tup fs) i H=⟨fs.fhas i=true,fs.fget i,H⟩:=rfl
theorem ZB (A:List V) (H:Hp) (n:Nat) (x:X) (i:Nat):Ad A H n (.ext x i)=Aj3 (x.ev A) i H:=by
 simp only [Ad];generalize X.ev A x=u;cases u <;> rfl
def TB (k:Nat) (x:V) (H:Hp):Out:=match k,x with
 | 0,.sl _ _ _ m _=>⟨True,.int .i64 m,H⟩
 | 0,.lst _ m _=>⟨True,.int .i64 m,H⟩
 | 0,.nils=>⟨True,.int .i64 0,H⟩
 | 1,.str s=>⟨True,.int .i64 s.size,H⟩
 | 2,.nilm=>⟨True,.int .i64 0,H⟩
 | 2, .map id => match hget H id with
   | .mp m _ _=>⟨Ae H id=true,.int .i64 m,H⟩
   | _=>BR H
 | _,_=>BR H
theorem Agp (id:Nat) (p:List Stp) (o m sz:Nat) (H:Hp):TB 0 (.sl id p o m sz) H=⟨True,.int .i64 m,H⟩:=rfl
theorem Ae9 (sz m:Nat) (f:Nat→V) (H:Hp):TB 0 (.lst sz m f) H=⟨True,.int .i64 m,H⟩:=rfl
theorem Aef (H:Hp):TB 0 .nils H=⟨True,.int .i64 0,H⟩:=rfl
theorem WH (s:ByteArray) (H:Hp):TB 1 (.str s) H=⟨True,.int .i64 s.size,H⟩:=rfl
theorem Acb (H:Hp):TB 2 .nilm H=⟨True,.int .i64 0,H⟩:=rfl
theorem Abb (A:List V) (H:Hp) (n k:Nat) (x:X):Ad A H n (.len k x)=TB k (x.ev A) H:=by
 simp only [Ad];generalize X.ev A x=u;rcases k with _ | _ | _ | k <;> cases u <;> rfl
theorem XJ (A:List V) (H:Hp) (n f:Nat) (caps:List X):Ad A H n (.mkfn f caps)=⟨C8 A caps,.fn f (.st caps.length (DQ A caps 0)),H⟩:=rfl
theorem Uf (A:List V) (H:Hp) (n k:Nat) (x:X):Ad A H n (.mkmth k x)=(match x.ev A with | .ifc t v=>⟨True,.fn (1000000 + k) (.st 1 (.fcons 0 (.ifc t v) .fnil)),H⟩ | _=>BR H):=rfl
theorem W5 (A:List V) (H:Hp) (n k:Nat) (ts:List Nat) (x:X):Ad A H n (.nilm k ts x)=(match x.ev A with | .fn f (.st m (.fcons j (.ifc t v) r))=>⟨f=1000000 + k∧t ∈ ts∧m=1∧j=0,.fn f (.st m (.fcons j (.ifc t v) r)),H⟩ | _=>BR H):=rfl
def Ams (v:V) (n:Nat) (H:Hp):Out:=match v with
 | .ifc t (.map id) => match hget H id with
   | .mp m ks vs=>⟨Ae H id=true,.ifc t (.map n),(n,.mp m ks vs) :: H⟩
   | _=>BR H
 | _=>BR H
def XW (b:V) (t id n:Nat) (H:Hp):Out:=match b with
 | .mp m ks vs=>⟨Ae H id=true,.ifc t (.map n),(n,.mp m ks vs) :: H⟩
 | _=>BR H
theorem Agy (t id n:Nat) (H:Hp):Ams (.ifc t (.map id)) n H=XW (hget H id) t id n H:=rfl
theorem Z8 (t id n m:Nat) (ks vs:Nat→V) (H:Hp):XW (.mp m ks vs) t id n H=⟨Ae H id=true,.ifc t (.map n),(n,.mp m ks vs) :: H⟩:=rfl
theorem Q7 (A:List V) (H:Hp) (n:Nat) (x:X):Ad A H n (.mclone x)=Ams (x.ev A) n H:=rfl
theorem Zm (A:List V) (H:Hp) (n t:Nat) (x:X):Ad A H n (.tas t x)=(match x.ev A with | .ifc t' v=>⟨t'=t,v,H⟩ | _=>BR H):=rfl
def XF (x i:V) (H:Hp):Out:=match x,i with
 | .str s,.int _ a=>⟨0≤a∧a < s.size,.int .u8 ((s[a.toNat]?).getD 0).toNat,H⟩
 | _,_=>BR H
theorem ZC (s:ByteArray) (k:IntKind) (a:Int) (H:Hp):XF (.str s) (.int k a) H=⟨0≤a∧a < s.size,.int .u8 ((s[a.toNat]?).getD 0).toNat,H⟩:=rfl
theorem WD (A:List V) (H:Hp) (n:Nat) (x y:X):Ad A H n (.sidx x y)=XF (x.ev A) (y.ev A) H:=by
 simp only [Ad];generalize X.ev A x=u;generalize X.ev A y=v;cases u <;> cases v <;> rfl
def Qw (x y z:V) (H:Hp):Out:=match x,y,z with
 | .int .u64 a,.int .u64 b,.int .u64 c=>⟨0≤a∧0≤b∧0≤c∧c≤1,.tup (.fcons 0 (.int .u64 ((a + b + c) % 18446744073709551616)) (.fcons 1 (.int .u64 ((a + b + c) / 18446744073709551616)) .fnil)),H⟩
 | _,_,_=>BR H
def VN (a b:BitVec 64):BitVec 64:=if a.toNat + b.toNat < 18446744073709551616 then 0#64 else 1#64
theorem Pg (a b:BitVec 64) (H:Hp):Qw (W a) (W b) (.int .u64 0) H=⟨True,.tup (.fcons 0 (W (a + b)) (.fcons 1 (W (VN a b)) .fnil)),H⟩:=by
 have ha:=a.isLt
 have hb:=b.isLt
 have e1:((a.toNat:Int) + b.toNat + 0) % 18446744073709551616=((a + b).toNat:Int):=by
  rw [BitVec.toNat_add];omega
 have e2:((a.toNat:Int) + b.toNat + 0) / 18446744073709551616=((VN a b).toNat:Int):=by
  unfold VN;split
  ·show _=((0:Nat):Int);omega
  ·show _=((1:Nat):Int);omega
 show (⟨_,_,_⟩:Out)=_
 simp only [W,e1,e2]
 congr 1
 exact eq_true ⟨by omega,by omega,by omega,by omega⟩
theorem Ub (A:List V) (H:Hp) (n:Nat) (x y z:X):Ad A H n (.add64 x y z)=Qw (x.ev A) (y.ev A) (z.ev A) H:=by
 simp only [Ad];generalize X.ev A x=u;generalize X.ev A y=v;generalize X.ev A z=w;cases u <;> cases v <;> cases w <;> rfl
def vmm (max:Bool) (x y:V) (H:Hp):Out:=match x,y with
 | .int k a,.int k' b=>⟨k=k',.int k (if max then (if a < b then b else a) else (if b < a then b else a)),H⟩
 | _,_=>BR H
theorem Acj (k:IntKind) (a b:Int) (H:Hp):vmm true (.int k a) (.int k b) H=⟨True,.int k (max a b),H⟩:=by
 have:max a b=if a < b then b else a:=Aa
 simp [vmm,this]
theorem Aa8 (k:IntKind) (a b:Int) (H:Hp):vmm false (.int k a) (.int k b) H=⟨True,.int k (min a b),H⟩:=by
 have:min a b=if b < a then b else a:=Aa
 simp [vmm,this]
theorem Ahv (A:List V) (H:Hp) (n:Nat) (max:Bool) (x y:X):Ad A H n (.mm max x y)=vmm max (x.ev A) (y.ev A) H:=by
 simp only [Ad];generalize X.ev A x=u;generalize X.ev A y=v;cases u <;> cases v <;> rfl
def XO (sz bytes:Nat) (z:Z) (n:Nat) (x y:V) (H:Hp):Out:=match x,y with
 | .int k a,.int k' b=>⟨k = .i64∧k' = .i64∧0≤a∧a≤b∧b * bytes≤2 ^ 47∧b < 2 ^ 47,.sl n [] 0 a.toNat sz,(n,.ar sz b.toNat (fun _=>z.v 0)) :: H⟩
 | _,_=>BR H
theorem Zf (sz bytes:Nat) (z:Z) (n:Nat) (a b:Int) (H:Hp):XO sz bytes z n (.int .i64 a) (.int .i64 b) H=⟨0≤a∧a≤b∧b * bytes≤140737488355328∧b < 140737488355328,.sl n [] 0 a.toNat sz,(n,.ar sz b.toNat (fun _=>z.v 0)) :: H⟩:=by
 simp [XO]
theorem Vo (A:List V) (H:Hp) (n sz bytes:Nat) (z:Z) (l c:X):Ad A H n (.mksl sz bytes z l c)=XO sz bytes z n (l.ev A) (c.ev A) H:=by
 simp only [Ad];generalize X.ev A l=u;generalize X.ev A c=v;cases u <;> cases v <;> rfl
def Wo (sz bytes n:Nat) (x y:V) (H:Hp):Out:=match x,CN H y with
 | .nils,some (sz',m,g)=>⟨sz'=sz∧BF H y∧0 < m∧m * bytes≤2 ^ 47,.sl n [] 0 m sz,(n,.ar sz m g) :: H⟩
 | .sl id p o l sz'', some (sz', m, g) =>
   match hget H id with
   | .ar _ l' f=>⟨(sz'=sz∧sz''=sz∧p=[]∧o=0)∧(Ae H id=true∧(hget H id).solid=true∧(match hget H id with | .ar s _ _=>s=sz | _=>False)∧l≤l')∧BF H y∧(l + m) * bytes≤2 ^ 46,
    .sl n [] 0 (l + m) sz,(n,.ar sz (l + m) (fun i=>if i < l then f i else g (i - l))) :: BO H id⟩
   | _=>BR H
 | _,_=>BR H
theorem Zr (A:List V) (H:Hp) (n sz bytes:Nat) (x y:X):Ad A H n (.app sz bytes x y)=Wo sz bytes n (x.ev A) (y.ev A) H:=rfl
def IR (sz bytes n:Nat) (x:V) (e:Option (Nat × Nat × (Nat→V))) (ok:Prop) (b:V) (H:Hp):Out:=match x,e with
 | .nils,some (sz',m,g)=>⟨sz'=sz∧ok∧0 < m∧m * bytes≤2 ^ 47,.sl n [] 0 m sz,(n,.ar sz m g) :: H⟩
 | .sl id p o l sz'', some (sz', m, g) =>
   match b with
   | .ar s l' f=>⟨(sz'=sz∧sz''=sz∧p=[]∧o=0)∧(Ae H id=true∧s=sz∧l≤l')∧ok∧(l + m) * bytes≤2 ^ 46,
    .sl n [] 0 (l + m) sz,(n,.ar sz (l + m) (fun i=>if i < l then f i else g (i - l))) :: BO H id⟩
   | _=>BR H
 | _,_=>BR H
theorem Ai0 (sz bytes n:Nat) (y:V) (H:Hp):Wo sz bytes n .nils y H=IR sz bytes n .nils (CN H y) (BF H y) .junk H:=by
 simp only [Wo,IR];cases CN H y <;> rfl
theorem Ag9 (sz bytes n id:Nat) (p:List Stp) (o l sz'':Nat) (y:V) (H:Hp):Wo sz bytes n (.sl id p o l sz'') y H=IR sz bytes n (.sl id p o l sz'') (CN H y) (BF H y) (hget H id) H:=by
 simp only [Wo,IR]
 cases CN H y with
 | none=>rfl
 | some q =>
   obtain ⟨a,b,c⟩:=q
   cases hu:hget H id <;> simp [hu,V.solid,BR]
theorem Zv (sz bytes n sz' m:Nat) (g:Nat→V) (ok:Prop) (b:V) (H:Hp):IR sz bytes n .nils (some (sz',m,g)) ok b H=⟨sz'=sz∧ok∧0 < m∧m * bytes≤140737488355328,.sl n [] 0 m sz,(n,.ar sz m g) :: H⟩:=by simp [IR]
theorem Abt (sz bytes n id:Nat) (p:List Stp) (o l sz'' sz' m s l':Nat) (g f:Nat→V) (ok:Prop) (H:Hp):IR sz bytes n (.sl id p o l sz'') (some (sz',m,g)) ok (.ar s l' f) H =
 ⟨(sz'=sz∧sz''=sz∧p=[]∧o=0)∧(Ae H id=true∧s=sz∧l≤l')∧ok∧(l + m) * bytes≤70368744177664,
  .sl n [] 0 (l + m) sz,(n,.ar sz (l + m) (fun i=>if i < l then f i else g (i - l))) :: BO H id⟩:=by simp [IR]
theorem Ze (H:Hp) (sz n:Nat) (f:Nat→V):CN H (.lst sz n f)=some (sz,n,f):=rfl
def IG (o n sz:Nat) (b:V):Option (Nat × Nat × (Nat→V)):=match b with
 | .ar _ _ f=>some (sz,n,fun i=>f (o + i))
 | _=>none
theorem V3 (o n sz s m:Nat) (f:Nat→V):IG o n sz (.ar s m f)=some (sz,n,fun i=>f (o + i)):=rfl
theorem Ts (H:Hp) (id:Nat) (p:List Stp) (o n sz:Nat):CN H (.sl id p o n sz)=IG o n sz ((hget H id).get p):=rfl
def GN (o n sz:Nat) (b:V):Prop:=match b with
 | .ar sz' m _=>sz'=sz∧o + n≤m
 | _=>False
theorem VW (o n sz s m:Nat) (f:Nat→V):GN o n sz (.ar s m f)=(s=sz∧o + n≤m):=rfl
theorem Ur (H:Hp) (sz n:Nat) (f:Nat→V):BF H (.lst sz n f)=True:=rfl
theorem Mb (H:Hp) (id:Nat) (p:List Stp) (o n sz:Nat):BF H (.sl id p o n sz)=(Ae H id=true∧(hget H id).solid=true∧(hget H id).ok p∧GN o n sz ((hget H id).get p)):=by
 simp only [BF];rfl
theorem Zp (H:Hp):CN H .nils=none:=rfl
def T4 (sz:Nat) (x y:V) (H:Hp):Out:=match x,CN H y with
 | .sl id p o l sz'', some (sz', m, g) =>
   match (hget H id).get p with
   | .ar s l' f=>⟨(sz'=sz∧sz''=sz∧s=sz)∧(Ae H id=true∧(hget H id).solid=true∧(hget H id).ok p∧H4 p=true∧o + l≤l')∧BF H y,.int .i64 (min m l:Nat),
    Ch H id (V.set (.ar sz l' (fun i=>if o≤i∧i < o + min m l then g (i - o) else f i)) p (hget H id))⟩
   | _=>BR H
 | .sl _ _ _ _ _,none=>⟨match y with | .nils=>True | _=>False,.int .i64 0,H⟩
 | _,_=>BR H
theorem Xp (A:List V) (H:Hp) (n sz:Nat) (x y:X):Ad A H n (.copy sz x y)=T4 sz (x.ev A) (y.ev A) H:=rfl
def PB (sz id:Nat) (p:List Stp) (o l:Nat) (e:Option (Nat × Nat × (Nat→V))) (ok:Prop) (b:V) (H:Hp):Out:=match e,b with
 | some (sz',m,g),.ar s l' f=>⟨(sz'=sz∧s=sz)∧(Ae H id=true∧(hget H id).solid=true∧(hget H id).ok p∧H4 p=true∧o + l≤l')∧ok,.int .i64 (min m l:Nat),
  Ch H id (V.set (.ar sz l' (fun i=>if o≤i∧i < o + min m l then g (i - o) else f i)) p (hget H id))⟩
 | none,_=>⟨False,.int .i64 0,H⟩
 | _,_=>BR H
theorem YX (sz id:Nat) (p:List Stp) (o l sz'':Nat) (H:Hp):T4 sz (.sl id p o l sz'') .nils H=⟨True,.int .i64 0,H⟩:=rfl
theorem YT (sz id:Nat) (p:List Stp) (o l n sz':Nat) (f:Nat→V) (H:Hp):T4 sz (.sl id p o l sz) (.lst sz' n f) H=PB sz id p o l (some (sz',n,f)) True ((hget H id).get p) H:=by
 simp only [T4,PB,CN,BF];cases hu:(hget H id).get p <;> simp [hu,BR]
theorem Zh (sz id:Nat) (p:List Stp) (o l id':Nat) (p':List Stp) (o' n sz':Nat) (H:Hp):T4 sz (.sl id p o l sz) (.sl id' p' o' n sz') H=PB sz id p o l (IG o' n sz' ((hget H id').get p')) (Ae H id'=true∧(hget H id').solid=true∧(hget H id').ok p'∧GN o' n sz' ((hget H id').get p')) ((hget H id).get p) H:=by
 simp only [T4,PB,Ts,Mb]
 cases IG o' n sz' ((hget H id').get p') with
 | none=>rfl
 | some q =>
   obtain ⟨a,b,c⟩:=q
   cases hu:(hget H id).get p <;> simp [hu,BR]
theorem Acu (sz id:Nat) (p:List Stp) (o l sz' m:Nat) (g:Nat→V) (ok:Prop) (s l':Nat) (f:Nat→V) (H:Hp):PB sz id p o l (some (sz',m,g)) ok (.ar s l' f) H =
 ⟨(sz'=sz∧s=sz)∧(Ae H id=true∧(hget H id).solid=true∧(hget H id).ok p∧H4 p=true∧o + l≤l')∧ok,.int .i64 (min m l:Nat),
  Ch H id (V.set (.ar sz l' (fun i=>if o≤i∧i < o + min m l then g (i - o) else f i)) p (hget H id))⟩:=rfl
end Mv
