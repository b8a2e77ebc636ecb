/- A part. -/
import Derived.Test.YtlfkjfonpacelaaGreatDoorIN
set_option linter.all false
namespace Mv
open Go
def LS:=(Cv (Jh @Vz @AJ @Lu @YK @Abo @EM @K8 @R7 @Le @F3 @LI @Js @not_false_eq_true) (Jh @Oc @Rt @N9 @QC @NR @PD @Ql @NH @Vg @Rf @Od @PR @NZ) (Jx @Vi @NA @QD @Va @Uw @RB @true_and @and_true @and_self @V.int.injEq @V.sl.injEq @V.ptr.injEq @V.bool.injEq @Bool.true_or))
def MF:=(aq9 @BEq.rfl.{0} @LS @La4 @B4 @x5 @x6 @x9 @y7 @ne_eq.{1})
def LT:=(Em (Jh @Vz @AJ @Lu @YK @Abo @EM @K8 @R7 @Le @F3 @LI @Js @not_false_eq_true) (Jx @Oc @Rt @N9 @QC @NR @PD @Ql @NH @Vg @Rf @Od @PR @NZ @Vi) (Jx @NA @QD @Va @Uw @RB @true_and @and_true @and_self @V.int.injEq @V.sl.injEq @V.ptr.injEq @V.bool.injEq @Bool.true_or @Ku) (Jx @Kp @D4 @GI @FM @GX @FA @GE @GK @FD @I6 @GT @F9 @GH @FB) (Jx @IA @FK @GP @ID @Iv @Bool.and_true @Bool.true_and @Bool.and_self @Nat.zero_add @Nat.le_refl @Bool.or_true @Bool.or_false @Bool.false_or @Int.natCast_zero))
def La6:=(FG @LT @La0 @La4 @List.contains_cons.{0} @List.contains_nil.{0} @implies_true.{0} @implies_true.{1} @EL.eq_1 @EL.eq_2 @Fe.eq_1 @Fe.eq_2)
def BE:=(Em (Fd @BEq.rfl.{0} @Int.cast_ofNat_Int @LT @List.contains_cons.{0} @List.contains_nil.{0} @List.getElem?_cons_succ.{0} @List.getElem?_cons_zero.{0} @List.getElem?_nil.{0} @Option.some.injEq.{0} @f9 @g7 @g9 @y8 @Ay.eq_5 @Ay.eq_6 @Ay.eq_7) (Fd @Ay.eq_8 @Ay.eq_9 @Ay.eq_10 @Ay.eq_11 @Ay.eq_12 @Ay.eq_13 @Ay.eq_14 @Ay.eq_15 @Ay.eq_16 @Ay.eq_17 @Ay.eq_18 @Ay.eq_19 @Ay.eq_20 @Ay.eq_21 @Ay.eq_22 @Ay.eq_23) (Fd @Ay.eq_24 @Ay.eq_25 @Ay.eq_26 @Ay.eq_27 @Ay.eq_28 @Ay.eq_29 @Ay.eq_30 @Ay.eq_31 @Ay.eq_32 @Ay.eq_33 @Ay.eq_34 @Ay.eq_35 @Ay.eq_36 @Ay.eq_37 @Ay.eq_38 @Ay.eq_39) (Fd @Ay.eq_40 @Bp.eq_1 @Bp.eq_2 @Bp.eq_3 @BC.eq_1 @BC.eq_2 @Nc.eq_1 @Nc.eq_2 @y9 @z7 @a0a @a0b @a0e @a0f @a0g @a0h) (Fd @a0i @V.ok.eq_1 @V.ok.eq_2 @V.ok.eq_3 @V.ok.eq_4 @V.ok.eq_5 @N5.eq_1 @x5 @x6 @x9 @y7 @if_false.{1} @if_true.{1} @implies_true.{0} @implies_true.{1} @ne_eq.{1}))
def LR:=(aq9 (Ej @Oa @On @O5 @M6 @KV @Iz @HT @HB @H5 @JJ @JX @JS @ZS @TU @M8) (Fd @F3 @LI @Js @CH @not_false_eq_true @Y8 @Z7 @Zo @Abp @Aao @YD @Abw @Aae @Aay @YZ @XL) (Fd @Ace @Abu @Aiz @As0 @Aij @XZ @My @KI @Oe @Oy @Int.le_refl @QI @Ns @Aab @D4 @P3) (Fd @Ue @Lu @Im @K2 @Int.toNat_natCast @true_or @or_true @Nat.add_zero @Aoh @Ai7 @Akt @Nat.zero_or @Nat.or_zero @Nat.and_zero @Nat.zero_and @Nat.zero_shiftRight) (Fd @Int.toNat_zero @R7 @Le @Ku @TN @Zw @Kp @SA @Aav @GI @FM @GX @FA @GE @GK @FD) (Fd @I6 @GT @F9 @GH @FB @IA @FK @GP @ID @Iv @Ll @IY @Mw @Jc @LE @KP) (Fd @Ju @OE @Mr @Jr @KN @Jm @OQ @Jf @Mb @P6 @Ov @Pj @LH @Ow @Ml @OR) (Fd @OI @KF @SF @Ot @Lm @Oz @Ls @SR @KB @Pv @Uo @SX @Bool.true_or @Bool.or_true @Bool.false_or @Bool.or_false) (Fd @Bool.and_true @Bool.true_and @Bool.false_and @Bool.and_false @true_and @and_true @Bool.false_eq_true @Bool.true_eq_false @false_implies @true_implies @decide_true @decide_false @Vh @PO @Bool.not_true @Bool.not_false))
def FU:=(AY @LR @La0)
def LU:=(T5 (Ej @Oa @On @O5 @M6 @KV @Iz @HT @HB @H5 @JJ @JX @JS @ZS @TU @M8) (Ej @F3 @LI @Js @CH @not_false_eq_true @Y8 @Z7 @Zo @Abp @Aao @YD @Abw @Aae @Aay @YZ) (Ej @XL @Ace @Abu @Aiz @As0 @Aij @XZ @My @KI @Oe @Oy @Int.le_refl @QI @Ns @Aab) (Ej @D4 @P3 @Ue @Lu @Im @K2 @Int.toNat_natCast @true_or @or_true @Nat.add_zero @Aoh @Ai7 @Akt @Nat.zero_or @Nat.or_zero) (Ej @Nat.and_zero @Nat.zero_and @Nat.zero_shiftRight @Int.toNat_zero @R7 @Le @Ku @TN @Zw @Kp @SA @Aav @GI @FM @GX) (Ej @FA @GE @GK @FD @I6 @GT @F9 @GH @FB @IA @FK @GP @ID @Iv @Ll) (Ej @IY @Mw @Jc @LE @KP @Ju @OE @Mr @Jr @KN @Jm @OQ @Jf @Mb @P6) (Ej @Ov @Pj @LH @Ow @Ml @OR @OI @KF @SF @Ot @Lm @Oz @Ls @SR @KB) (Ej @Pv @Uo @SX @Bool.true_or @Bool.or_true @Bool.false_or @Bool.or_false @Bool.and_true @Bool.true_and @Bool.false_and @Bool.and_false @true_and @and_true @Bool.false_eq_true @Bool.true_eq_false) (Fd @false_implies @true_implies @decide_true @decide_false @Vh @PO @Bool.not_true @Bool.not_false @Nat.zero_add @Nat.add_one_ne_zero @Int.natCast_zero @Nat.mul_zero @Bool.false_xor @Bool.xor_false @Bool.true_xor @Bool.xor_true))
def D3:=(AY @LU @La0)
def UY:=(D0 @Vk @D3 @IL.eq_1 @IL.eq_2)
def LN:=(UW @Atb @Arh @Bt @Akg @Afx @Adj @not_false_eq_true)
theorem poP (a b:Prop):(bif true then a else b)=a:=rfl
theorem Aup (a b:Prop):(bif false then a else b)=b:=rfl
theorem poH (a b:List (Nat × Hp)):(bif true then a else b)=a:=rfl
theorem Au9 (a b:List (Nat × Hp)):(bif false then a else b)=b:=rfl
theorem poA (a b:List (Nat × Nat × V)):(bif true then a else b)=a:=rfl
theorem Au6 (a b:List (Nat × Nat × V)):(bif false then a else b)=b:=rfl
theorem poB (a b:Bool):(bif true then a else b)=a:=rfl
theorem Aur (a b:Bool):(bif false then a else b)=b:=rfl
theorem poV (a b:V):(bif true then a else b)=a:=rfl
theorem Auw (a b:V):(bif false then a else b)=b:=rfl
theorem poN (a b:Nat):(a ≠ b) = ¬ (a=b):=rfl
theorem poI (a b:Int):(a ≠ b) = ¬ (a=b):=rfl
theorem Avo (a:Nat):(a == a)=true:=beq_self_eq_true a
theorem At8 (a:Bool):(a == a)=true:=beq_self_eq_true a
theorem Av1 (a:Bool):(a != a)=false:=by cases a <;> rfl
theorem Auu (a b:Nat):(some a=some b)=(a=b):=B9
theorem Avz (a:Nat) (l:List Nat):(a :: l)[0]?=some a:=rfl
theorem Av0 (a:Nat) (l:List Nat) (i:Nat):(a :: l)[i + 1]?=l[i]?:=rfl
theorem Avu (i:Nat):([]:List Nat)[i]?=none:=rfl
theorem Ave (a b:Nat) (l:List Nat):(b :: l).contains a=(a == b || l.contains a):=List.contains_cons
theorem Au8 (a:Nat):([]:List Nat).contains a=false:=rfl
theorem Avy (f:X→V) (a:X) (l:List X):(a :: l).map f=f a :: l.map f:=rfl
theorem Aut (f:X→V):([]:List X).map f=[]:=rfl
theorem Avk (f:Nat × Nat × V→Nat × V) (a:Nat × Nat × V) (l:List (Nat × Nat × V)):(a :: l).map f=f a :: l.map f:=rfl
theorem Apc (f:Nat × Nat × V→Nat × V):([]:List (Nat × Nat × V)).map f=[]:=rfl
theorem Auy (p:Nat × Nat × V→Bool) (a:Nat × Nat × V) (l:List (Nat × Nat × V)):(a :: l).filter p=if p a=true then a :: l.filter p else l.filter p:=List.filter_cons
theorem Avb (p:Nat × Nat × V→Bool):([]:List (Nat × Nat × V)).filter p=[]:=rfl
theorem Avd (a:LOp) (l:List LOp):(a :: l).length=l.length + 1:=rfl
theorem As7:([]:List LOp).length=0:=rfl
theorem Avr (a:DOp) (l:List DOp):(a :: l).length=l.length + 1:=rfl
theorem Ath:([]:List DOp).length=0:=rfl
theorem Aum (a:V) (l:List V):(a :: l).length=l.length + 1:=rfl
theorem Ar1:([]:List V).length=0:=rfl
theorem Avt (a:X) (l:List X):(a :: l).length=l.length + 1:=rfl
theorem Apw:([]:List X).length=0:=rfl
theorem Au4 (a:Nat × V) (l m:List (Nat × V)):a :: l ++ m=a :: (l ++ m):=rfl
theorem Ao6 (m:List (Nat × V)):[] ++ m=m:=rfl
theorem Aun (a:V) (l m:List V):a :: l ++ m=a :: (l ++ m):=rfl
theorem Ao8 (m:List V):[] ++ m=m:=rfl
theorem Avj (l:List (Nat × V)):l ++ []=l:=List.append_nil l
theorem poZ (n:Nat):((OfNat.ofNat n:Nat):Int)=OfNat.ofNat n:=rfl
def LP:=(Cv (Jh @poP @Aup @poH @Au9 @poA @Au6 @poB @Aur @poV @Auw @poN @poI @Avo) (Jx @At8 @Av1 @Auu @Avz @Av0 @Avu @Ave @Au8 @Avy @Aut @Avk @Apc @Auy @Avb) (Jx @Avd @As7 @Avr @Ath @Aum @Ar1 @Avt @Apw @Au4 @Ao6 @Aun @Ao8 @Avj @poZ))
def vpk (c a b:V) (H:Hp):Out:=match c with | .bool t=>⟨True,G7 t a b,H⟩ | _=>Ci H
theorem Aqm (t:Bool) (a b:V) (H:Hp):vpk (.bool t) a b H=⟨True,G7 t a b,H⟩:=rfl
theorem ZX (A:List V) (H:Hp) (n:Nat) (c a b:X):Af A H n (.pick c a b)=vpk (c.ev A) (a.ev A) (b.ev A) H:=rfl
theorem Ag2 (a b:Bool):G7 true (.bool a) (.bool b) = .bool a:=rfl
theorem Ahp (a b:Bool):G7 false (.bool a) (.bool b) = .bool b:=rfl
theorem XH (a:Bool) (v:V):G7 true (.bool a) (.tup v) = .bool a:=rfl
theorem Aas (b:Bool) (v:V):G7 false (.tup v) (.bool b) = .bool b:=rfl
theorem XN (t a b:Bool):G7 t (.bool a) (.bool b) = .bool (bif t then a else b):=rfl
theorem Aje (A:List V) (H:Hp) (n:Nat) (x:X):Af A H n (.mv x)=⟨True,x.ev A,H⟩:=rfl
theorem Ae0 (A:List V) (H:Hp) (n:Nat) (op:BinOp) (x y:X):Af A H n (.ari op x y)=Bm op (x.ev A) (y.ev A) H:=rfl
theorem Ai1 (A:List V) (H:Hp) (n:Nat) (op:UnOp) (x:X):Af A H n (.un op x)=XB op (x.ev A) H:=rfl
theorem Al9 (A:List V) (H:Hp) (n:Nat) (neg c:Bool) (s:ES) (x y:X):Af A H n (.eq neg c s x y)=⟨AR c s (x.ev A) (y.ev A),.bool (neg ^^ AX s (x.ev A) (y.ev A)),H⟩:=rfl
theorem W9 (A:List V) (H:Hp) (n:Nat) (z:Z):Af A H n (.alloc z)=⟨True,.ptr n [],(n,z.v 0) :: H⟩:=rfl
theorem Aeh (A:List V) (H:Hp) (n:Nat) (x:X):Af A H n (.box x)=⟨(x.ev A).solid=true,.ptr n [],(n,x.ev A) :: H⟩:=rfl
theorem V9 (A:List V) (H:Hp) (n:Nat) (z:Z) (ps:List (Stp × Nat × X)):Af A H n (.build z ps)=⟨BT (z.v 0) A ps,CK (z.v 0) A ps,H⟩:=rfl
theorem Agl (A:List V) (H:Hp) (n sz m:Nat) (z:Z) (ps:List (Stp × Nat × X)):Af A H n (.bsl sz m z ps)=⟨BT (.ar sz m (fun _=>z.v 0)) A ps,.sl n [] 0 m sz,(n,CK (.ar sz m (fun _=>z.v 0)) A ps) :: H⟩:=rfl
def Abc (agg:Bool) (sz:Nat) (x:V) (H:Hp):Out:=match x with
 | .ptr id p=>⟨(Ag H id=true∧(hget H id).solid=true∧(hget H id).ok p)∧((hget H id).get p).solid=true∧((hget H id).get p).size=sz∧((hget H id).get p).isAgg=agg,(hget H id).get p,H⟩
 | .imm v=>⟨v.solid=true∧v.size=sz∧v.isAgg=agg,v,H⟩
 | _=>Ci H
theorem Aeq (agg:Bool) (sz id:Nat) (p:List Stp) (H:Hp):Abc agg sz (.ptr id p) H=⟨(Ag H id=true∧(hget H id).solid=true∧(hget H id).ok p)∧((hget H id).get p).solid=true∧((hget H id).get p).size=sz∧((hget H id).get p).isAgg=agg,(hget H id).get p,H⟩:=rfl
theorem Adn (agg:Bool) (sz:Nat) (v:V) (H:Hp):Abc agg sz (.imm v) H=⟨v.solid=true∧v.size=sz∧v.isAgg=agg,v,H⟩:=rfl
theorem Zc (A:List V) (H:Hp) (n:Nat) (agg:Bool) (sz:Nat) (x:X):Af A H n (.load agg sz x)=Abc agg sz (x.ev A) H:=by
 simp only [Af];generalize X.ev A x=u;cases u <;> rfl
def Aan (sz:Nat) (x y:V) (H:Hp):Out:=match x with
 | .ptr id p=>⟨(Ag H id=true∧(hget H id).solid=true∧(hget H id).ok p∧HV p=true)∧y.solid=true∧y.size=sz∧((hget H id).get p).size=sz,.tup .fnil,CA H id (V.set y p (hget H id))⟩
 | _=>Ci H
theorem Yb (sz id:Nat) (p:List Stp) (y:V) (H:Hp):Aan sz (.ptr id p) y H=⟨(Ag H id=true∧(hget H id).solid=true∧(hget H id).ok p∧HV p=true)∧y.solid=true∧y.size=sz∧((hget H id).get p).size=sz,.tup .fnil,CA H id (V.set y p (hget H id))⟩:=rfl
theorem VD (A:List V) (H:Hp) (n:Nat) (sz:Nat) (x y:X):Af A H n (.store sz x y)=Aan sz (x.ev A) (y.ev A) H:=by
 simp only [Af];generalize X.ev A x=u;generalize X.ev A y=v;cases u <;> cases v <;> rfl
def RU (x:V) (H:Hp):Out:=match x with
 | .ptr id p=>⟨True,.ptr id p,H⟩
 | .imm v=>⟨True,.imm v,H⟩
 | .fn f c=>⟨f < 1000000,.fn f c,H⟩
 | .ifc t v=>⟨True,.ifc t v,H⟩
 | _=>Ci H
theorem Agv (id:Nat) (p:List Stp) (H:Hp):RU (.ptr id p) H=⟨True,.ptr id p,H⟩:=rfl
theorem Af6 (v:V) (H:Hp):RU (.imm v) H=⟨True,.imm v,H⟩:=rfl
theorem Aes (f:Nat) (c:V) (H:Hp):RU (.fn f c) H=⟨f < 1000000,.fn f c,H⟩:=rfl
theorem Aey (t:Nat) (v:V) (H:Hp):RU (.ifc t v) H=⟨True,.ifc t v,H⟩:=rfl
theorem Aau (A:List V) (H:Hp) (n:Nat) (x:X):Af A H n (.nilc x)=RU (x.ev A) H:=by
 simp only [Af];generalize X.ev A x=u;cases u <;> rfl
def XK (off:Nat) (x:V) (H:Hp):Out:=match x with
 | .ptr id p=>⟨True,.ptr id (D9 p (.f off)),H⟩
 | .imm v=>⟨v.solid=true∧v.ok [.f off],.imm (v.get [.f off]),H⟩
 | _=>Ci H
theorem Ahi (off id:Nat) (p:List Stp) (H:Hp):XK off (.ptr id p) H=⟨True,.ptr id (D9 p (.f off)),H⟩:=rfl
theorem Ahw (off:Nat) (v:V) (H:Hp):XK off (.imm v) H=⟨v.solid=true∧v.ok [.f off],.imm (v.get [.f off]),H⟩:=rfl
theorem Y2 (A:List V) (H:Hp) (n off:Nat) (x:X):Af A H n (.fadr off x)=XK off (x.ev A) H:=by
 simp only [Af];generalize X.ev A x=u;cases u <;> rfl
def Lk (m sz:Nat) (x i:V) (H:Hp):Out:=match x,i with
 | .ptr id p,.int _ a=>⟨0≤a∧a < m,.ptr id (D9 p (.i sz a.toNat)),H⟩
 | .imm v,.int _ a=>⟨(0≤a∧a < m)∧v.solid=true∧v.ok [.i sz a.toNat],.imm (v.get [.i sz a.toNat]),H⟩
 | _,_=>Ci H
theorem Ade (m sz id:Nat) (p:List Stp) (k:IntKind) (a:Int) (H:Hp):Lk m sz (.ptr id p) (.int k a) H=⟨0≤a∧a < m,.ptr id (D9 p (.i sz a.toNat)),H⟩:=rfl
theorem Acv (m sz id:Nat) (p:List Stp) (w:BitVec 64) (H:Hp):Lk m sz (.ptr id p) (W w) H=⟨w.toNat < m,.ptr id (D9 p (.i sz w.toNat)),H⟩:=by
 simp only [Lk,Lcd];congr 1;rw [eq_iff_iff];omega
theorem Afb (m sz:Nat) (v:V) (k:IntKind) (a:Int) (H:Hp):Lk m sz (.imm v) (.int k a) H=⟨(0≤a∧a < m)∧v.solid=true∧v.ok [.i sz a.toNat],.imm (v.get [.i sz a.toNat]),H⟩:=rfl
theorem Aa2 (m sz:Nat) (v:V) (w:BitVec 64) (H:Hp):Lk m sz (.imm v) (W w) H=⟨w.toNat < m∧v.solid=true∧v.ok [.i sz w.toNat],.imm (v.get [.i sz w.toNat]),H⟩:=by
 simp only [Lk,Lcd];congr 2;rw [eq_iff_iff];omega
theorem ZN (A:List V) (H:Hp) (n m sz:Nat) (x i:X):Af A H n (.iarr m sz x i)=Lk m sz (x.ev A) (i.ev A) H:=by
 simp only [Af];generalize X.ev A x=u;generalize X.ev A i=v;cases u <;> cases v <;> rfl
def T1 (sz:Nat) (x i:V) (H:Hp):Out:=match x,i with
 | .sl id p o m sz',.int _ a=>⟨(0≤a∧a < m)∧sz'=sz,.ptr id (D9 p (.i sz (o + a.toNat))),H⟩
 | .lst sz' m f,.int _ a=>⟨(0≤a∧a < m)∧sz'=sz,.imm (f a.toNat),H⟩
 | _,_=>Ci H
theorem Aml (sz id:Nat) (p:List Stp) (o m sz':Nat) (k:IntKind) (a:Int) (H:Hp):T1 sz (.sl id p o m sz') (.int k a) H=⟨(0≤a∧a < m)∧sz'=sz,.ptr id (D9 p (.i sz (o + a.toNat))),H⟩:=rfl
theorem Ahz (sz id:Nat) (p:List Stp) (o m sz':Nat) (w:BitVec 64) (H:Hp):T1 sz (.sl id p o m sz') (W w) H=⟨w.toNat < m∧sz'=sz,.ptr id (D9 p (.i sz (o + w.toNat))),H⟩:=by
 simp only [T1,Lcd];congr 2;rw [eq_iff_iff];omega
theorem Anb (sz sz' m:Nat) (f:Nat→V) (k:IntKind) (a:Int) (H:Hp):T1 sz (.lst sz' m f) (.int k a) H=⟨(0≤a∧a < m)∧sz'=sz,.imm (f a.toNat),H⟩:=rfl
theorem Adf (sz sz' m:Nat) (f:Nat→V) (w:BitVec 64) (H:Hp):T1 sz (.lst sz' m f) (W w) H=⟨w.toNat < m∧sz'=sz,.imm (f w.toNat),H⟩:=by
 simp only [T1,Lcd];congr 2;rw [eq_iff_iff];omega
theorem Ag7 (A:List V) (H:Hp) (n sz:Nat) (x i:X):Af A H n (.isl sz x i)=T1 sz (x.ev A) (i.ev A) H:=by
 simp only [Af];generalize X.ev A x=u;generalize X.ev A i=v;cases u <;> cases v <;> rfl
def Aew (m sz:Nat) (agg:Bool) (x i:V) (H:Hp):Out:=match x,i with
 | .ar sz' m' f,.int _ a=>⟨(0≤a∧a < m)∧sz'=sz∧m'=m∧(f a.toNat).isAgg=agg,f a.toNat,H⟩
 | _,_=>Ci H
theorem Ake (m sz:Nat) (agg:Bool) (sz' m':Nat) (f:Nat→V) (k:IntKind) (a:Int) (H:Hp):Aew m sz agg (.ar sz' m' f) (.int k a) H=⟨(0≤a∧a < m)∧sz'=sz∧m'=m∧(f a.toNat).isAgg=agg,f a.toNat,H⟩:=rfl
theorem Af0 (m sz:Nat) (agg:Bool) (sz' m':Nat) (f:Nat→V) (w:BitVec 64) (H:Hp):Aew m sz agg (.ar sz' m' f) (W w) H=⟨w.toNat < m∧sz'=sz∧m'=m∧(f w.toNat).isAgg=agg,f w.toNat,H⟩:=by
 simp only [Aew,Lcd];congr 2;rw [eq_iff_iff];omega
theorem Aeo (A:List V) (H:Hp) (n m sz:Nat) (agg:Bool) (x i:X):Af A H n (.idx m sz agg x i)=Aew m sz agg (x.ev A) (i.ev A) H:=by
 simp only [Af];generalize X.ev A x=u;generalize X.ev A i=v;cases u <;> cases v <;> rfl
def Atc (off sz:Nat) (agg:Bool) (x:V) (H:Hp):Out:=match x with
 | .st _ fs=>⟨fs.fhas off=true∧(fs.fget off).solid=true∧(fs.fget off).size=sz∧(fs.fget off).isAgg=agg,fs.fget off,H⟩
 | _=>Ci H
theorem Al3 (off sz:Nat) (agg:Bool) (m:Nat) (fs:V) (H:Hp):Atc off sz agg (.st m fs) H=⟨fs.fhas off=true∧(fs.fget off).solid=true∧(fs.fget off).size=sz∧(fs.fget off).isAgg=agg,fs.fget off,H⟩:=rfl
theorem Ada (A:List V) (H:Hp) (n off sz:Nat) (agg:Bool) (x:X):Af A H n (.fld off sz agg x)=Atc off sz agg (x.ev A) H:=by
 simp only [Af];generalize X.ev A x=u;cases u <;> rfl
def Dm (d:Int):Option V→Int
 | none=>d
 | some (.int _ n)=>n
 | _=>-1
def Er:Option V→Prop
 | none=>True
 | some (.int _ _)=>True
 | _=>False
theorem Arq (d:Int):Dm d none=d:=rfl
theorem Asc (d:Int) (k:IntKind) (n:Int):Dm d (some (.int k n))=n:=rfl
theorem Apf (d:Int) (w:BitVec 64):Dm d (some (W w))=(w.toNat:Int):=rfl
theorem Aj9:Er none=True:=rfl
theorem Anf (k:IntKind) (n:Int):Er (some (.int k n))=True:=rfl
theorem An7 (w:BitVec 64):Er (some (W w))=True:=rfl
theorem PB (A:List V) (d:Int) (x:Option X):AN A d x=Dm d (x.map (X.ev A)):=by
 cases x with
 | none=>rfl
 | some x=>simp only [AN,Option.map,Dm];split <;> simp_all
theorem Lh (A:List V) (x:Option X):Cf A x=Er (x.map (X.ev A)):=by
 cases x with
 | none=>rfl
 | some x=>simp only [Cf,PS,Option.map,Er];split <;> simp_all
def P2 (m sz:Nat) (x:V) (lo hi:Option V) (H:Hp):Out:=match x with
 | .ptr id p=>⟨(Er lo∧Er hi∧0≤Dm 0 lo∧Dm 0 lo≤Dm m hi∧Dm m hi≤m)∧Ag H id=true∧(hget H id).solid=true∧(hget H id).ok p∧(match (hget H id).get p with | .ar sz' m' _=>sz'=sz∧m'=m | _=>False),
  .sl id p (Dm 0 lo).toNat ((Dm m hi).toNat - (Dm 0 lo).toNat) sz,H⟩
 | .imm v => match v with
   | .ar sz' m' f=>⟨(Er lo∧Er hi∧0≤Dm 0 lo∧Dm 0 lo≤Dm m hi∧Dm m hi≤m)∧sz'=sz∧m'=m,.lst sz ((Dm m hi).toNat - (Dm 0 lo).toNat) (fun i=>f ((Dm 0 lo).toNat + i)),H⟩
   | _=>Ci H
 | _=>Ci H
def Xi (sz m:Nat):V→Prop
 | .ar sz' m' _=>sz'=sz∧m'=m
 | _=>False
theorem Alu (sz m sz' m':Nat) (f:Nat→V):Xi sz m (.ar sz' m' f)=(sz'=sz∧m'=m):=rfl
theorem Abn (m sz id:Nat) (p:List Stp) (lo hi:Option V) (H:Hp):P2 m sz (.ptr id p) lo hi H=⟨(Er lo∧Er hi∧0≤Dm 0 lo∧Dm 0 lo≤Dm m hi∧Dm m hi≤m)∧Ag H id=true∧(hget H id).solid=true∧(hget H id).ok p∧Xi sz m ((hget H id).get p),
 .sl id p (Dm 0 lo).toNat ((Dm m hi).toNat - (Dm 0 lo).toNat) sz,H⟩:=by
 simp only [P2];congr 5
theorem Aaa (m sz sz' m':Nat) (f:Nat→V) (lo hi:Option V) (H:Hp):P2 m sz (.imm (.ar sz' m' f)) lo hi H=⟨(Er lo∧Er hi∧0≤Dm 0 lo∧Dm 0 lo≤Dm m hi∧Dm m hi≤m)∧sz'=sz∧m'=m,.lst sz ((Dm m hi).toNat - (Dm 0 lo).toNat) (fun i=>f ((Dm 0 lo).toNat + i)),H⟩:=rfl
theorem X1 (A:List V) (H:Hp) (n m sz:Nat) (x:X) (lo hi:Option X):Af A H n (.slarr m sz x lo hi)=P2 m sz (x.ev A) (lo.map (X.ev A)) (hi.map (X.ev A)) H:=by
 simp only [Af,PB,Lh];generalize X.ev A x=u;cases u <;> first | rfl | (rename_i v;cases v <;> rfl)
def Vx (sz:Nat) (x:V) (lo hi:Option V) (H:Hp):Out:=match x with
 | .sl id p o m sz'=>⟨(Er lo∧Er hi∧0≤Dm 0 lo∧Dm 0 lo≤Dm m hi∧Dm m hi≤m)∧sz'=sz,.sl id p (o + (Dm 0 lo).toNat) ((Dm m hi).toNat - (Dm 0 lo).toNat) sz,H⟩
 | .lst sz' m f=>⟨(Er lo∧Er hi∧0≤Dm 0 lo∧Dm 0 lo≤Dm m hi∧Dm m hi≤m)∧sz'=sz,.lst sz ((Dm m hi).toNat - (Dm 0 lo).toNat) (fun i=>f ((Dm 0 lo).toNat + i)),H⟩
 | .nils=>⟨Er lo∧Er hi∧Dm 0 lo=0∧Dm 0 hi=0,.nils,H⟩
 | _=>Ci H
theorem Agr (sz id:Nat) (p:List Stp) (o m sz':Nat) (lo hi:Option V) (H:Hp):Vx sz (.sl id p o m sz') lo hi H=⟨(Er lo∧Er hi∧0≤Dm 0 lo∧Dm 0 lo≤Dm m hi∧Dm m hi≤m)∧sz'=sz,.sl id p (o + (Dm 0 lo).toNat) ((Dm m hi).toNat - (Dm 0 lo).toNat) sz,H⟩:=rfl
theorem Ae1 (sz sz' m:Nat) (f:Nat→V) (lo hi:Option V) (H:Hp):Vx sz (.lst sz' m f) lo hi H=⟨(Er lo∧Er hi∧0≤Dm 0 lo∧Dm 0 lo≤Dm m hi∧Dm m hi≤m)∧sz'=sz,.lst sz ((Dm m hi).toNat - (Dm 0 lo).toNat) (fun i=>f ((Dm 0 lo).toNat + i)),H⟩:=rfl
theorem Agi (sz:Nat) (lo hi:Option V) (H:Hp):Vx sz .nils lo hi H=⟨Er lo∧Er hi∧Dm 0 lo=0∧Dm 0 hi=0,.nils,H⟩:=rfl
theorem ZJ (A:List V) (H:Hp) (n sz:Nat) (x:X) (lo hi:Option X):Af A H n (.slsl sz x lo hi)=Vx sz (x.ev A) (lo.map (X.ev A)) (hi.map (X.ev A)) H:=by
 simp only [Af,PB,Lh];generalize X.ev A x=u;cases u <;> rfl
def Anr (m sz:Nat) (x:V) (H:Hp):Out:=match x with
 | .sl id p o l sz'=>⟨(sz'=sz∧m≤l∧0 < m),.ptr id (D9 p (.r sz o m)),H⟩
 | .lst sz' l f=>⟨sz'=sz∧m≤l∧0 < m,.imm (.ar sz m f),H⟩
 | _=>Ci H
theorem Ak9 (m sz id:Nat) (p:List Stp) (o l sz':Nat) (H:Hp):Anr m sz (.sl id p o l sz') H=⟨(sz'=sz∧m≤l∧0 < m),.ptr id (D9 p (.r sz o m)),H⟩:=rfl
theorem Ane (m sz sz' l:Nat) (f:Nat→V) (H:Hp):Anr m sz (.lst sz' l f) H=⟨sz'=sz∧m≤l∧0 < m,.imm (.ar sz m f),H⟩:=rfl
theorem Afz (A:List V) (H:Hp) (n m sz:Nat) (x:X):Af A H n (.s2a m sz x)=Anr m sz (x.ev A) H:=by
 simp only [Af];generalize X.ev A x=u;cases u <;> rfl
theorem Yh (A:List V) (H:Hp) (n t:Nat) (x:X):Af A H n (.mkif t x)=⟨(x.ev A).solid=true,.ifc t (x.ev A),H⟩:=rfl
def Ao5 (x:V) (i:Nat) (H:Hp):Out:=match x with
 | .tup fs=>⟨fs.fhas i=true,fs.fget i,H⟩
 | _=>Ci H
theorem Am9 (fs:V) (i:Nat) (H:Hp):Ao5 (.tup fs) i H=⟨fs.fhas i=true,fs.fget i,H⟩:=rfl
theorem Ahf (A:List V) (H:Hp) (n:Nat) (x:X) (i:Nat):Af A H n (.ext x i)=Ao5 (x.ev A) i H:=by
 simp only [Af];generalize X.ev A x=u;cases u <;> rfl
def Xj (k:Nat) (x:V) (H:Hp):Out:=match k,x with
 | 0,.sl _ _ _ m _=>⟨True,.int .i64 m,H⟩
 | 0,.lst _ m _=>⟨True,.int .i64 m,H⟩
 | 0,.nils=>⟨True,.int .i64 0,H⟩
 | 1,.str s=>⟨True,.int .i64 s.size,H⟩
 | 2,.nilm=>⟨True,.int .i64 0,H⟩
 | 2, .map id => match hget H id with
   | .mp m _ _=>⟨Ag H id=true,.int .i64 m,H⟩
   | _=>Ci H
 | _,_=>Ci H
theorem An8 (id:Nat) (p:List Stp) (o m sz:Nat) (H:Hp):Xj 0 (.sl id p o m sz) H=⟨True,.int .i64 m,H⟩:=rfl
theorem Ano (sz m:Nat) (f:Nat→V) (H:Hp):Xj 0 (.lst sz m f) H=⟨True,.int .i64 m,H⟩:=rfl
theorem Ak1 (H:Hp):Xj 0 .nils H=⟨True,.int .i64 0,H⟩:=rfl
theorem Abz (s:ByteArray) (H:Hp):Xj 1 (.str s) H=⟨True,.int .i64 s.size,H⟩:=rfl
theorem Ae2 (H:Hp):Xj 2 .nilm H=⟨True,.int .i64 0,H⟩:=rfl
theorem Aia (A:List V) (H:Hp) (n k:Nat) (x:X):Af A H n (.len k x)=Xj k (x.ev A) H:=by
 simp only [Af];generalize X.ev A x=u;rcases k with _ | _ | _ | k <;> cases u <;> rfl
theorem ZT (A:List V) (H:Hp) (n f:Nat) (caps:List X):Af A H n (.mkfn f caps)=⟨Dq A caps,.fn f (.st caps.length (EG A caps 0)),H⟩:=rfl
theorem Xe (A:List V) (H:Hp) (n k:Nat) (x:X):Af A H n (.mkmth k x)=(match x.ev A with | .ifc t v=>⟨True,.fn (1000000 + k) (.st 1 (.fcons 0 (.ifc t v) .fnil)),H⟩ | _=>Ci H):=rfl
theorem ZC (A:List V) (H:Hp) (n k:Nat) (ts:List Nat) (x:X):Af A H n (.nilm k ts x)=(match x.ev A with | .fn f (.st m (.fcons j (.ifc t v) r))=>⟨f=1000000 + k∧t ∈ ts∧m=1∧j=0,.fn f (.st m (.fcons j (.ifc t v) r)),H⟩ | _=>Ci H):=rfl
def Aer (v:V) (n:Nat) (H:Hp):Out:=match v with
 | .ifc t (.map id) => match hget H id with
   | .mp m ks vs=>⟨Ag H id=true,.ifc t (.map n),(n,.mp m ks vs) :: H⟩
   | _=>Ci H
 | .ifc t (.fm m ks vs)=>⟨True,.ifc t (.map n),(n,.mp m ks vs) :: H⟩
 | _=>Ci H
def ZK (b:V) (t id n:Nat) (H:Hp):Out:=match b with
 | .mp m ks vs=>⟨Ag H id=true,.ifc t (.map n),(n,.mp m ks vs) :: H⟩
 | _=>Ci H
theorem Alz (t id n:Nat) (H:Hp):Aer (.ifc t (.map id)) n H=ZK (hget H id) t id n H:=rfl
theorem Ajx (t n m:Nat) (ks vs:Nat→V) (H:Hp):Aer (.ifc t (.fm m ks vs)) n H=⟨True,.ifc t (.map n),(n,.mp m ks vs) :: H⟩:=rfl
theorem Ael (t id n m:Nat) (ks vs:Nat→V) (H:Hp):ZK (.mp m ks vs) t id n H=⟨Ag H id=true,.ifc t (.map n),(n,.mp m ks vs) :: H⟩:=rfl
def Ar7 (v:V) (n:Nat) (H:Hp):Out:=match v with
 | .map id => match hget H id with
   | .mp _ _ _=>⟨Ag H id=true,.ptr n [],(n,.tup (.map id)) :: H⟩
   | _=>Ci H
 | _=>Ci H
def Ais (b:V) (id n:Nat) (H:Hp):Out:=match b with
 | .mp _ _ _=>⟨Ag H id=true,.ptr n [],(n,.tup (.map id)) :: H⟩
 | _=>Ci H
theorem Anm (id n:Nat) (H:Hp):Ar7 (.map id) n H=Ais (hget H id) id n H:=rfl
theorem Adh (id n m:Nat) (ks vs:Nat→V) (H:Hp):Ais (.mp m ks vs) id n H=⟨Ag H id=true,.ptr n [],(n,.tup (.map id)) :: H⟩:=rfl
theorem Aep (A:List V) (H:Hp) (n:Nat) (x:X):Af A H n (.rng x)=Ar7 (x.ev A) n H:=rfl
def Arr (v:V) (H:Hp):Out:=match v with
 | .ptr id [] => match hget H id with
   | .tup (.map j) => match hget H j with
     | .mp m _ _=>⟨m=0∧Ag H id=true∧Ag H j=true,.tup (.fcons 0 (.bool false) .fnil),H⟩
     | _=>Ci H
   | _=>Ci H
 | _=>Ci H
def Aic (b:V) (id:Nat) (H:Hp):Out:=match b with
 | .tup (.map j) => match hget H j with
   | .mp m _ _=>⟨m=0∧Ag H id=true∧Ag H j=true,.tup (.fcons 0 (.bool false) .fnil),H⟩
   | _=>Ci H
 | _=>Ci H
def Ain (b:V) (id j:Nat) (H:Hp):Out:=match b with
 | .mp m _ _=>⟨m=0∧Ag H id=true∧Ag H j=true,.tup (.fcons 0 (.bool false) .fnil),H⟩
 | _=>Ci H
theorem Ajm (id:Nat) (H:Hp):Arr (.ptr id []) H=Aic (hget H id) id H:=rfl
theorem Aga (id j:Nat) (H:Hp):Aic (.tup (.map j)) id H=Ain (hget H j) id j H:=rfl
theorem Aet (id j m:Nat) (ks vs:Nat→V) (H:Hp):Ain (.mp m ks vs) id j H=⟨m=0∧Ag H id=true∧Ag H j=true,.tup (.fcons 0 (.bool false) .fnil),H⟩:=rfl
theorem Ae6 (A:List V) (H:Hp) (n:Nat) (x:X):Af A H n (.nxt x)=Arr (x.ev A) H:=rfl
theorem SL (A:List V) (H:Hp) (n:Nat) (x:X):Af A H n (.mclone x)=Aer (x.ev A) n H:=rfl
theorem Adx (A:List V) (H:Hp) (n t:Nat) (x:X):Af A H n (.tas t x)=(match x.ev A with | .ifc t' v=>⟨t'=t,v,H⟩ | _=>Ci H):=rfl
def Yo (x i:V) (H:Hp):Out:=match x,i with
 | .str s,.int _ a=>⟨0≤a∧a < s.size,.int .u8 ((s[a.toNat]?).getD 0).toNat,H⟩
 | _,_=>Ci H
theorem Agz (s:ByteArray) (k:IntKind) (a:Int) (H:Hp):Yo (.str s) (.int k a) H=⟨0≤a∧a < s.size,.int .u8 ((s[a.toNat]?).getD 0).toNat,H⟩:=rfl
theorem Aa9 (A:List V) (H:Hp) (n:Nat) (x y:X):Af A H n (.sidx x y)=Yo (x.ev A) (y.ev A) H:=by
 simp only [Af];generalize X.ev A x=u;generalize X.ev A y=v;cases u <;> cases v <;> rfl
def Ta (x y z:V) (H:Hp):Out:=match x,y,z with
 | .int .u64 a,.int .u64 b,.int .u64 c=>⟨0≤a∧0≤b∧0≤c∧c≤1,.tup (.fcons 0 (.int .u64 ((a + b + c) % 18446744073709551616)) (.fcons 1 (.int .u64 ((a + b + c) / 18446744073709551616)) .fnil)),H⟩
 | _,_,_=>Ci H
def crW (a b:BitVec 64):BitVec 64:=if a.toNat + b.toNat < 18446744073709551616 then 0#64 else 1#64
theorem Qf (a b:BitVec 64) (H:Hp):Ta (W a) (W b) (.int .u64 0) H=⟨True,.tup (.fcons 0 (W (a + b)) (.fcons 1 (W (crW a b)) .fnil)),H⟩:=by
 have ha:=a.isLt;have hb:=b.isLt;have e1:((a.toNat:Int) + b.toNat + 0) % 18446744073709551616=((a + b).toNat:Int):=by
  rw [BitVec.toNat_add];omega
 have e2:((a.toNat:Int) + b.toNat + 0) / 18446744073709551616=((crW a b).toNat:Int):=by
  unfold crW;split
  ·show _=((0:Nat):Int);omega
  ·show _=((1:Nat):Int);omega
 show (⟨_,_,_⟩:Out)=_;simp only [W,e1,e2]
 congr 1
 exact eq_true ⟨by omega,by omega,by omega,by omega⟩
theorem VR (A:List V) (H:Hp) (n:Nat) (x y z:X):Af A H n (.add64 x y z)=Ta (x.ev A) (y.ev A) (z.ev A) H:=by
 simp only [Af];generalize X.ev A x=u;generalize X.ev A y=v;generalize X.ev A z=w;cases u <;> cases v <;> cases w <;> rfl
def vmm (max:Bool) (x y:V) (H:Hp):Out:=match x,y with
 | .int k a,.int k' b=>⟨k=k',.int k (if max then (if a < b then b else a) else (if b < a then b else a)),H⟩
 | _,_=>Ci H
theorem Agm (k:IntKind) (a b:Int) (H:Hp):vmm true (.int k a) (.int k b) H=⟨True,.int k (max a b),H⟩:=by
 have:max a b=if a < b then b else a:=Aa;simp [vmm,this]
theorem Afs (k:IntKind) (a b:Int) (H:Hp):vmm false (.int k a) (.int k b) H=⟨True,.int k (min a b),H⟩:=by
 have:min a b=if b < a then b else a:=Aa;simp [vmm,this]
theorem Al1 (A:List V) (H:Hp) (n:Nat) (max:Bool) (x y:X):Af A H n (.mm max x y)=vmm max (x.ev A) (y.ev A) H:=by
 simp only [Af];generalize X.ev A x=u;generalize X.ev A y=v;cases u <;> cases v <;> rfl
def Aa8 (sz bytes:Nat) (z:Z) (n:Nat) (x y:V) (H:Hp):Out:=match x,y with
 | .int k a,.int k' b=>⟨k = .i64∧k' = .i64∧0≤a∧a≤b∧b * bytes≤2 ^ 47∧b < 2 ^ 47,.sl n [] 0 a.toNat sz,(n,.ar sz b.toNat (fun _=>z.v 0)) :: H⟩
 | _,_=>Ci H
theorem Adv (sz bytes:Nat) (z:Z) (n:Nat) (a b:Int) (H:Hp):Aa8 sz bytes z n (.int .i64 a) (.int .i64 b) H=⟨0≤a∧a≤b∧b * bytes≤140737488355328∧b < 140737488355328,.sl n [] 0 a.toNat sz,(n,.ar sz b.toNat (fun _=>z.v 0)) :: H⟩:=by
 simp [Aa8]
theorem Acn (A:List V) (H:Hp) (n sz bytes:Nat) (z:Z) (l c:X):Af A H n (.mksl sz bytes z l c)=Aa8 sz bytes z n (l.ev A) (c.ev A) H:=by
 simp only [Af];generalize X.ev A l=u;generalize X.ev A c=v;cases u <;> cases v <;> rfl
def YU (sz bytes n:Nat) (x y:V) (H:Hp):Out:=match x,Dy H y with
 | .nils,some (sz',m,g)=>⟨sz'=sz∧Cu H y∧0 < m∧m * bytes≤2 ^ 47,.sl n [] 0 m sz,(n,.ar sz m g) :: H⟩
 | .sl id p o l sz'', some (sz', m, g) =>
   match hget H id with
   | .ar _ l' f=>⟨(sz'=sz∧sz''=sz∧p=[]∧o=0)∧(Ag H id=true∧(hget H id).solid=true∧(match hget H id with | .ar s _ _=>s=sz | _=>False)∧l≤l')∧Cu H y∧(l + m) * bytes≤2 ^ 47,
    .sl n [] 0 (l + m) sz,(n,.ar sz (l + m) (fun i=>if i < l then f i else g (i - l))) :: BZ H id⟩
   | _=>Ci H
 | _,_=>Ci H
theorem Afv (A:List V) (H:Hp) (n sz bytes:Nat) (x y:X):Af A H n (.app sz bytes x y)=YU sz bytes n (x.ev A) (y.ev A) H:=rfl
def J8 (sz bytes n:Nat) (x:V) (e:Option (Nat × Nat × (Nat→V))) (ok:Prop) (b:V) (H:Hp):Out:=match x,e with
 | .nils,some (sz',m,g)=>⟨sz'=sz∧ok∧0 < m∧m * bytes≤2 ^ 47,.sl n [] 0 m sz,(n,.ar sz m g) :: H⟩
 | .sl id p o l sz'', some (sz', m, g) =>
   match b with
   | .ar s l' f=>⟨(sz'=sz∧sz''=sz∧p=[]∧o=0)∧(Ag H id=true∧s=sz∧l≤l')∧ok∧(l + m) * bytes≤2 ^ 47,
    .sl n [] 0 (l + m) sz,(n,.ar sz (l + m) (fun i=>if i < l then f i else g (i - l))) :: BZ H id⟩
   | _=>Ci H
 | _,_=>Ci H
theorem Aj2 (sz bytes n:Nat) (y:V) (H:Hp):YU sz bytes n .nils y H=J8 sz bytes n .nils (Dy H y) (Cu H y) .junk H:=by
 simp only [YU,J8];cases Dy H y <;> rfl
theorem Amo (sz bytes n id:Nat) (p:List Stp) (o l sz'':Nat) (y:V) (H:Hp):YU sz bytes n (.sl id p o l sz'') y H=J8 sz bytes n (.sl id p o l sz'') (Dy H y) (Cu H y) (hget H id) H:=by
 simp only [YU,J8];cases Dy H y with
 | none=>rfl
 | some q =>
   obtain ⟨a,b,c⟩:=q;cases hu:hget H id <;> simp [hu,V.solid,Ci]
theorem Ad3 (sz bytes n sz' m:Nat) (g:Nat→V) (ok:Prop) (b:V) (H:Hp):J8 sz bytes n .nils (some (sz',m,g)) ok b H=⟨sz'=sz∧ok∧0 < m∧m * bytes≤140737488355328,.sl n [] 0 m sz,(n,.ar sz m g) :: H⟩:=by simp [J8]
theorem Afw (sz bytes n id:Nat) (p:List Stp) (o l sz'' sz' m s l':Nat) (g f:Nat→V) (ok:Prop) (H:Hp):J8 sz bytes n (.sl id p o l sz'') (some (sz',m,g)) ok (.ar s l' f) H =
 ⟨(sz'=sz∧sz''=sz∧p=[]∧o=0)∧(Ag H id=true∧s=sz∧l≤l')∧ok∧(l + m) * bytes≤140737488355328,
  .sl n [] 0 (l + m) sz,(n,.ar sz (l + m) (fun i=>if i < l then f i else g (i - l))) :: BZ H id⟩:=by simp [J8]
theorem Ah3 (H:Hp) (sz n:Nat) (f:Nat→V):Dy H (.lst sz n f)=some (sz,n,f):=rfl
def IV (o n sz:Nat) (b:V):Option (Nat × Nat × (Nat→V)):=match b with
 | .ar _ _ f=>some (sz,n,fun i=>f (o + i))
 | _=>none
theorem Y1 (o n sz s m:Nat) (f:Nat→V):IV o n sz (.ar s m f)=some (sz,n,fun i=>f (o + i)):=rfl
theorem Vb (H:Hp) (id:Nat) (p:List Stp) (o n sz:Nat):Dy H (.sl id p o n sz)=IV o n sz ((hget H id).get p):=rfl
def HF (o n sz:Nat) (b:V):Prop:=match b with
 | .ar sz' m _=>sz'=sz∧o + n≤m
 | _=>False
theorem Zf (o n sz s m:Nat) (f:Nat→V):HF o n sz (.ar s m f)=(s=sz∧o + n≤m):=rfl
theorem W5 (H:Hp) (sz n:Nat) (f:Nat→V):Cu H (.lst sz n f)=True:=rfl
theorem N7 (H:Hp) (id:Nat) (p:List Stp) (o n sz:Nat):Cu H (.sl id p o n sz)=(Ag H id=true∧(hget H id).solid=true∧(hget H id).ok p∧HF o n sz ((hget H id).get p)):=by
 simp only [Cu];rfl
theorem Ags (H:Hp):Dy H .nils=none:=rfl
def VA (sz:Nat) (x y:V) (H:Hp):Out:=match x,Dy H y with
 | .sl id p o l sz'', some (sz', m, g) =>
   match (hget H id).get p with
   | .ar s l' f=>⟨(sz'=sz∧sz''=sz∧s=sz)∧(Ag H id=true∧(hget H id).solid=true∧(hget H id).ok p∧HV p=true∧o + l≤l')∧Cu H y,.int .i64 (min m l:Nat),
    CA H id (V.set (.ar sz l' (fun i=>if o≤i∧i < o + min m l then g (i - o) else f i)) p (hget H id))⟩
   | _=>Ci H
 | .sl _ _ _ _ _,none=>⟨match y with | .nils=>True | _=>False,.int .i64 0,H⟩
 | _,_=>Ci H
theorem Acu (A:List V) (H:Hp) (n sz:Nat) (x y:X):Af A H n (.copy sz x y)=VA sz (x.ev A) (y.ev A) H:=rfl
def RN (sz id:Nat) (p:List Stp) (o l:Nat) (e:Option (Nat × Nat × (Nat→V))) (ok:Prop) (b:V) (H:Hp):Out:=match e,b with
 | some (sz',m,g),.ar s l' f=>⟨(sz'=sz∧s=sz)∧(Ag H id=true∧(hget H id).solid=true∧(hget H id).ok p∧HV p=true∧o + l≤l')∧ok,.int .i64 (min m l:Nat),
  CA H id (V.set (.ar sz l' (fun i=>if o≤i∧i < o + min m l then g (i - o) else f i)) p (hget H id))⟩
 | none,_=>⟨False,.int .i64 0,H⟩
 | _,_=>Ci H
theorem Afl (sz id:Nat) (p:List Stp) (o l sz'':Nat) (H:Hp):VA sz (.sl id p o l sz'') .nils H=⟨True,.int .i64 0,H⟩:=rfl
theorem Af9 (sz id:Nat) (p:List Stp) (o l n sz':Nat) (f:Nat→V) (H:Hp):VA sz (.sl id p o l sz) (.lst sz' n f) H=RN sz id p o l (some (sz',n,f)) True ((hget H id).get p) H:=by
 simp only [VA,RN,Dy,Cu];cases hu:(hget H id).get p <;> simp [hu,Ci]
theorem Aef (sz id:Nat) (p:List Stp) (o l id':Nat) (p':List Stp) (o' n sz':Nat) (H:Hp):VA sz (.sl id p o l sz) (.sl id' p' o' n sz') H=RN sz id p o l (IV o' n sz' ((hget H id').get p')) (Ag H id'=true∧(hget H id').solid=true∧(hget H id').ok p'∧HF o' n sz' ((hget H id').get p')) ((hget H id).get p) H:=by
 simp only [VA,RN,Vb,N7];cases IV o' n sz' ((hget H id').get p') with
 | none=>rfl
 | some q =>
   obtain ⟨a,b,c⟩:=q;cases hu:(hget H id).get p <;> simp [hu,Ci]
theorem Aeg (sz id:Nat) (p:List Stp) (o l sz' m:Nat) (g:Nat→V) (ok:Prop) (s l':Nat) (f:Nat→V) (H:Hp):RN sz id p o l (some (sz',m,g)) ok (.ar s l' f) H =
 ⟨(sz'=sz∧s=sz)∧(Ag H id=true∧(hget H id).solid=true∧(hget H id).ok p∧HV p=true∧o + l≤l')∧ok,.int .i64 (min m l:Nat),
  CA H id (V.set (.ar sz l' (fun i=>if o≤i∧i < o + min m l then g (i - o) else f i)) p (hget H id))⟩:=rfl
end Mv
