/- A part. -/
import Derived.Test.YtgeionenpaopaaaGreatDoorAQ
set_option linter.all false
namespace Mv
open Go
def vpk (c a b:V) (H:Hp):Out:=match c with | .bool t=>⟨True,Gd t a b,H⟩ | _=>bad H
theorem Aov (t:Bool) (a b:V) (H:Hp):vpk (.bool t) a b H=⟨True,Gd t a b,H⟩:=rfl
theorem Yl (A:List V) (H:Hp) (n:Nat) (c a b:X):Ag A H n (.pick c a b)=vpk (c.ev A) (a.ev A) (b.ev A) H:=rfl
theorem Adq (a b:Bool):Gd true (.bool a) (.bool b) = .bool a:=rfl
theorem Adx (a b:Bool):Gd false (.bool a) (.bool b) = .bool b:=rfl
theorem Xh (a:Bool) (v:V):Gd true (.bool a) (.tup v) = .bool a:=rfl
theorem XG (b:Bool) (v:V):Gd false (.tup v) (.bool b) = .bool b:=rfl
theorem Yp (t a b:Bool):Gd t (.bool a) (.bool b) = .bool (bif t then a else b):=rfl
theorem Agx (A:List V) (H:Hp) (n:Nat) (x:X):Ag A H n (.mv x)=⟨True,x.ev A,H⟩:=rfl
theorem Ac4 (A:List V) (H:Hp) (n:Nat) (op:BinOp) (x y:X):Ag A H n (.ari op x y)=AT op (x.ev A) (y.ev A) H:=rfl
theorem Akz (A:List V) (H:Hp) (n:Nat) (op:UnOp) (x:X):Ag A H n (.un op x)=V8 op (x.ev A) H:=rfl
theorem Aiy (A:List V) (H:Hp) (n:Nat) (neg c:Bool) (s:ES) (x y:X):Ag A H n (.eq neg c s x y)=⟨AQ c s (x.ev A) (y.ev A),.bool (neg ^^ AX s (x.ev A) (y.ev A)),H⟩:=rfl
theorem Uh (A:List V) (H:Hp) (n:Nat) (z:Z):Ag A H n (.alloc z)=⟨True,.ptr n [],(n,z.v 0) :: H⟩:=rfl
theorem Ad8 (A:List V) (H:Hp) (n:Nat) (x:X):Ag A H n (.box x)=⟨(x.ev A).solid=true,.ptr n [],(n,x.ev A) :: H⟩:=rfl
theorem Vg (A:List V) (H:Hp) (n:Nat) (z:Z) (ps:List (Stp × Nat × X)):Ag A H n (.build z ps)=⟨Bu (z.v 0) A ps,BY (z.v 0) A ps,H⟩:=rfl
theorem Acs (A:List V) (H:Hp) (n sz m:Nat) (z:Z) (ps:List (Stp × Nat × X)):Ag A H n (.bsl sz m z ps)=⟨Bu (.ar sz m (fun _=>z.v 0)) A ps,.sl n [] 0 m sz,(n,BY (.ar sz m (fun _=>z.v 0)) A ps) :: H⟩:=rfl
def XF (agg:Bool) (sz:Nat) (x:V) (H:Hp):Out:=match x with
 | .ptr id p=>⟨(Af H id=true∧(hget H id).solid=true∧(hget H id).ok p)∧((hget H id).get p).solid=true∧((hget H id).get p).size=sz∧((hget H id).get p).isAgg=agg,(hget H id).get p,H⟩
 | .imm v=>⟨v.solid=true∧v.size=sz∧v.isAgg=agg,v,H⟩
 | _=>bad H
theorem ZO (agg:Bool) (sz id:Nat) (p:List Stp) (H:Hp):XF agg sz (.ptr id p) H=⟨(Af H id=true∧(hget H id).solid=true∧(hget H id).ok p)∧((hget H id).get p).solid=true∧((hget H id).get p).size=sz∧((hget H id).get p).isAgg=agg,(hget H id).get p,H⟩:=rfl
theorem Acb (agg:Bool) (sz:Nat) (v:V) (H:Hp):XF agg sz (.imm v) H=⟨v.solid=true∧v.size=sz∧v.isAgg=agg,v,H⟩:=rfl
theorem WY (A:List V) (H:Hp) (n:Nat) (agg:Bool) (sz:Nat) (x:X):Ag A H n (.load agg sz x)=XF agg sz (x.ev A) H:=by
 simp only [Ag];generalize X.ev A x=u;cases u <;> rfl
def WG (sz:Nat) (x y:V) (H:Hp):Out:=match x with
 | .ptr id p=>⟨(Af H id=true∧(hget H id).solid=true∧(hget H id).ok p∧H2 p=true)∧y.solid=true∧y.size=sz∧((hget H id).get p).size=sz,.tup .fnil,BC H id (V.set y p (hget H id))⟩
 | _=>bad H
theorem Zr (sz id:Nat) (p:List Stp) (y:V) (H:Hp):WG sz (.ptr id p) y H=⟨(Af H id=true∧(hget H id).solid=true∧(hget H id).ok p∧H2 p=true)∧y.solid=true∧y.size=sz∧((hget H id).get p).size=sz,.tup .fnil,BC H id (V.set y p (hget H id))⟩:=rfl
theorem Uc (A:List V) (H:Hp) (n:Nat) (sz:Nat) (x y:X):Ag A H n (.store sz x y)=WG sz (x.ev A) (y.ev A) H:=by
 simp only [Ag];generalize X.ev A x=u;generalize X.ev A y=v;cases u <;> cases v <;> rfl
def NP (x:V) (H:Hp):Out:=match x with
 | .ptr id p=>⟨True,.ptr id p,H⟩
 | .imm v=>⟨True,.imm v,H⟩
 | .fn f c=>⟨f < 1000000,.fn f c,H⟩
 | .ifc t v=>⟨True,.ifc t v,H⟩
 | _=>bad H
theorem Ad6 (id:Nat) (p:List Stp) (H:Hp):NP (.ptr id p) H=⟨True,.ptr id p,H⟩:=rfl
theorem Ace (v:V) (H:Hp):NP (.imm v) H=⟨True,.imm v,H⟩:=rfl
theorem Afg (f:Nat) (c:V) (H:Hp):NP (.fn f c) H=⟨f < 1000000,.fn f c,H⟩:=rfl
theorem Aaz (t:Nat) (v:V) (H:Hp):NP (.ifc t v) H=⟨True,.ifc t v,H⟩:=rfl
theorem XS (A:List V) (H:Hp) (n:Nat) (x:X):Ag A H n (.nilc x)=NP (x.ev A) H:=by
 simp only [Ag];generalize X.ev A x=u;cases u <;> rfl
def Zu (off:Nat) (x:V) (H:Hp):Out:=match x with
 | .ptr id p=>⟨True,.ptr id (CQ p (.f off)),H⟩
 | .imm v=>⟨v.solid=true∧v.ok [.f off],.imm (v.get [.f off]),H⟩
 | _=>bad H
theorem Adb (off id:Nat) (p:List Stp) (H:Hp):Zu off (.ptr id p) H=⟨True,.ptr id (CQ p (.f off)),H⟩:=rfl
theorem Aax (off:Nat) (v:V) (H:Hp):Zu off (.imm v) H=⟨v.solid=true∧v.ok [.f off],.imm (v.get [.f off]),H⟩:=rfl
theorem XR (A:List V) (H:Hp) (n off:Nat) (x:X):Ag A H n (.fadr off x)=Zu off (x.ev A) H:=by
 simp only [Ag];generalize X.ev A x=u;cases u <;> rfl
def J3 (m sz:Nat) (x i:V) (H:Hp):Out:=match x,i with
 | .ptr id p,.int _ a=>⟨0≤a∧a < m,.ptr id (CQ p (.i sz a.toNat)),H⟩
 | .imm v,.int _ a=>⟨(0≤a∧a < m)∧v.solid=true∧v.ok [.i sz a.toNat],.imm (v.get [.i sz a.toNat]),H⟩
 | _,_=>bad H
theorem Aeb (m sz id:Nat) (p:List Stp) (k:IntKind) (a:Int) (H:Hp):J3 m sz (.ptr id p) (.int k a) H=⟨0≤a∧a < m,.ptr id (CQ p (.i sz a.toNat)),H⟩:=rfl
theorem Y4 (m sz id:Nat) (p:List Stp) (w:BitVec 64) (H:Hp):J3 m sz (.ptr id p) (W w) H=⟨w.toNat < m,.ptr id (CQ p (.i sz w.toNat)),H⟩:=by
 simp only [J3,Lcd];congr 1;rw [eq_iff_iff];omega
theorem Aa7 (m sz:Nat) (v:V) (k:IntKind) (a:Int) (H:Hp):J3 m sz (.imm v) (.int k a) H=⟨(0≤a∧a < m)∧v.solid=true∧v.ok [.i sz a.toNat],.imm (v.get [.i sz a.toNat]),H⟩:=rfl
theorem WJ (m sz:Nat) (v:V) (w:BitVec 64) (H:Hp):J3 m sz (.imm v) (W w) H=⟨w.toNat < m∧v.solid=true∧v.ok [.i sz w.toNat],.imm (v.get [.i sz w.toNat]),H⟩:=by
 simp only [J3,Lcd];congr 2;rw [eq_iff_iff];omega
theorem VV (A:List V) (H:Hp) (n m sz:Nat) (x i:X):Ag A H n (.iarr m sz x i)=J3 m sz (x.ev A) (i.ev A) H:=by
 simp only [Ag];generalize X.ev A x=u;generalize X.ev A i=v;cases u <;> cases v <;> rfl
def PN (sz:Nat) (x i:V) (H:Hp):Out:=match x,i with
 | .sl id p o m sz',.int _ a=>⟨(0≤a∧a < m)∧sz'=sz,.ptr id (CQ p (.i sz (o + a.toNat))),H⟩
 | .lst sz' m f,.int _ a=>⟨(0≤a∧a < m)∧sz'=sz,.imm (f a.toNat),H⟩
 | _,_=>bad H
theorem Aih (sz id:Nat) (p:List Stp) (o m sz':Nat) (k:IntKind) (a:Int) (H:Hp):PN sz (.sl id p o m sz') (.int k a) H=⟨(0≤a∧a < m)∧sz'=sz,.ptr id (CQ p (.i sz (o + a.toNat))),H⟩:=rfl
theorem Aex (sz id:Nat) (p:List Stp) (o m sz':Nat) (w:BitVec 64) (H:Hp):PN sz (.sl id p o m sz') (W w) H=⟨w.toNat < m∧sz'=sz,.ptr id (CQ p (.i sz (o + w.toNat))),H⟩:=by
 simp only [PN,Lcd];congr 2;rw [eq_iff_iff];omega
theorem Ah6 (sz sz' m:Nat) (f:Nat→V) (k:IntKind) (a:Int) (H:Hp):PN sz (.lst sz' m f) (.int k a) H=⟨(0≤a∧a < m)∧sz'=sz,.imm (f a.toNat),H⟩:=rfl
theorem Aa1 (sz sz' m:Nat) (f:Nat→V) (w:BitVec 64) (H:Hp):PN sz (.lst sz' m f) (W w) H=⟨w.toNat < m∧sz'=sz,.imm (f w.toNat),H⟩:=by
 simp only [PN,Lcd];congr 2;rw [eq_iff_iff];omega
theorem Aau (A:List V) (H:Hp) (n sz:Nat) (x i:X):Ag A H n (.isl sz x i)=PN sz (x.ev A) (i.ev A) H:=by
 simp only [Ag];generalize X.ev A x=u;generalize X.ev A i=v;cases u <;> cases v <;> rfl
def Ab9 (m sz:Nat) (agg:Bool) (x i:V) (H:Hp):Out:=match x,i with
 | .ar sz' m' f,.int _ a=>⟨(0≤a∧a < m)∧sz'=sz∧m'=m∧(f a.toNat).isAgg=agg,f a.toNat,H⟩
 | _,_=>bad H
theorem Ahu (m sz:Nat) (agg:Bool) (sz' m':Nat) (f:Nat→V) (k:IntKind) (a:Int) (H:Hp):Ab9 m sz agg (.ar sz' m' f) (.int k a) H=⟨(0≤a∧a < m)∧sz'=sz∧m'=m∧(f a.toNat).isAgg=agg,f a.toNat,H⟩:=rfl
theorem Acz (m sz:Nat) (agg:Bool) (sz' m':Nat) (f:Nat→V) (w:BitVec 64) (H:Hp):Ab9 m sz agg (.ar sz' m' f) (W w) H=⟨w.toNat < m∧sz'=sz∧m'=m∧(f w.toNat).isAgg=agg,f w.toNat,H⟩:=by
 simp only [Ab9,Lcd];congr 2;rw [eq_iff_iff];omega
theorem Afk (A:List V) (H:Hp) (n m sz:Nat) (agg:Bool) (x i:X):Ag A H n (.idx m sz agg x i)=Ab9 m sz agg (x.ev A) (i.ev A) H:=by
 simp only [Ag];generalize X.ev A x=u;generalize X.ev A i=v;cases u <;> cases v <;> rfl
def Anj (off sz:Nat) (agg:Bool) (x:V) (H:Hp):Out:=match x with
 | .st _ fs=>⟨fs.fhas off=true∧(fs.fget off).solid=true∧(fs.fget off).size=sz∧(fs.fget off).isAgg=agg,fs.fget off,H⟩
 | _=>bad H
theorem Aju (off sz:Nat) (agg:Bool) (m:Nat) (fs:V) (H:Hp):Anj off sz agg (.st m fs) H=⟨fs.fhas off=true∧(fs.fget off).solid=true∧(fs.fget off).size=sz∧(fs.fget off).isAgg=agg,fs.fget off,H⟩:=rfl
theorem Aew (A:List V) (H:Hp) (n off sz:Nat) (agg:Bool) (x:X):Ag A H n (.fld off sz agg x)=Anj off sz agg (x.ev A) H:=by
 simp only [Ag];generalize X.ev A x=u;cases u <;> rfl
def C1 (d:Int):Option V→Int
 | none=>d
 | some (.int _ n)=>n
 | _=>-1
def Dx:Option V→Prop
 | none=>True
 | some (.int _ _)=>True
 | _=>False
theorem Ame (d:Int):C1 d none=d:=rfl
theorem Apd (d:Int) (k:IntKind) (n:Int):C1 d (some (.int k n))=n:=rfl
theorem Amu (d:Int) (w:BitVec 64):C1 d (some (W w))=(w.toNat:Int):=rfl
theorem Ajf:Dx none=True:=rfl
theorem Ak5 (k:IntKind) (n:Int):Dx (some (.int k n))=True:=rfl
theorem Alr (w:BitVec 64):Dx (some (W w))=True:=rfl
theorem Ph (A:List V) (d:Int) (x:Option X):AC A d x=C1 d (x.map (X.ev A)):=by
 cases x with
 | none=>rfl
 | some x=>simp only [AC,Option.map,C1];split <;> simp_all
theorem JI (A:List V) (x:Option X):B1 A x=Dx (x.map (X.ev A)):=by
 cases x with
 | none=>rfl
 | some x=>simp only [B1,NW,Option.map,Dx];split <;> simp_all
def MX (m sz:Nat) (x:V) (lo hi:Option V) (H:Hp):Out:=match x with
 | .ptr id p=>⟨(Dx lo∧Dx hi∧0≤C1 0 lo∧C1 0 lo≤C1 m hi∧C1 m hi≤m)∧Af H id=true∧(hget H id).solid=true∧(hget H id).ok p∧(match (hget H id).get p with | .ar sz' m' _=>sz'=sz∧m'=m | _=>False),
  .sl id p (C1 0 lo).toNat ((C1 m hi).toNat - (C1 0 lo).toNat) sz,H⟩
 | .imm v => match v with
   | .ar sz' m' f=>⟨(Dx lo∧Dx hi∧0≤C1 0 lo∧C1 0 lo≤C1 m hi∧C1 m hi≤m)∧sz'=sz∧m'=m,.lst sz ((C1 m hi).toNat - (C1 0 lo).toNat) (fun i=>f ((C1 0 lo).toNat + i)),H⟩
   | _=>bad H
 | _=>bad H
def UY (sz m:Nat):V→Prop
 | .ar sz' m' _=>sz'=sz∧m'=m
 | _=>False
theorem Ag4 (sz m sz' m':Nat) (f:Nat→V):UY sz m (.ar sz' m' f)=(sz'=sz∧m'=m):=rfl
theorem Ww (m sz id:Nat) (p:List Stp) (lo hi:Option V) (H:Hp):MX m sz (.ptr id p) lo hi H=⟨(Dx lo∧Dx hi∧0≤C1 0 lo∧C1 0 lo≤C1 m hi∧C1 m hi≤m)∧Af H id=true∧(hget H id).solid=true∧(hget H id).ok p∧UY sz m ((hget H id).get p),
 .sl id p (C1 0 lo).toNat ((C1 m hi).toNat - (C1 0 lo).toNat) sz,H⟩:=by
 simp only [MX];congr 5
theorem Xt (m sz sz' m':Nat) (f:Nat→V) (lo hi:Option V) (H:Hp):MX m sz (.imm (.ar sz' m' f)) lo hi H=⟨(Dx lo∧Dx hi∧0≤C1 0 lo∧C1 0 lo≤C1 m hi∧C1 m hi≤m)∧sz'=sz∧m'=m,.lst sz ((C1 m hi).toNat - (C1 0 lo).toNat) (fun i=>f ((C1 0 lo).toNat + i)),H⟩:=rfl
theorem UW (A:List V) (H:Hp) (n m sz:Nat) (x:X) (lo hi:Option X):Ag A H n (.slarr m sz x lo hi)=MX m sz (x.ev A) (lo.map (X.ev A)) (hi.map (X.ev A)) H:=by
 simp only [Ag,Ph,JI];generalize X.ev A x=u;cases u <;> first | rfl | (rename_i v;cases v <;> rfl)
def Su (sz:Nat) (x:V) (lo hi:Option V) (H:Hp):Out:=match x with
 | .sl id p o m sz'=>⟨(Dx lo∧Dx hi∧0≤C1 0 lo∧C1 0 lo≤C1 m hi∧C1 m hi≤m)∧sz'=sz,.sl id p (o + (C1 0 lo).toNat) ((C1 m hi).toNat - (C1 0 lo).toNat) sz,H⟩
 | .lst sz' m f=>⟨(Dx lo∧Dx hi∧0≤C1 0 lo∧C1 0 lo≤C1 m hi∧C1 m hi≤m)∧sz'=sz,.lst sz ((C1 m hi).toNat - (C1 0 lo).toNat) (fun i=>f ((C1 0 lo).toNat + i)),H⟩
 | .nils=>⟨Dx lo∧Dx hi∧C1 0 lo=0∧C1 0 hi=0,.nils,H⟩
 | _=>bad H
theorem Afn (sz id:Nat) (p:List Stp) (o m sz':Nat) (lo hi:Option V) (H:Hp):Su sz (.sl id p o m sz') lo hi H=⟨(Dx lo∧Dx hi∧0≤C1 0 lo∧C1 0 lo≤C1 m hi∧C1 m hi≤m)∧sz'=sz,.sl id p (o + (C1 0 lo).toNat) ((C1 m hi).toNat - (C1 0 lo).toNat) sz,H⟩:=rfl
theorem Aba (sz sz' m:Nat) (f:Nat→V) (lo hi:Option V) (H:Hp):Su sz (.lst sz' m f) lo hi H=⟨(Dx lo∧Dx hi∧0≤C1 0 lo∧C1 0 lo≤C1 m hi∧C1 m hi≤m)∧sz'=sz,.lst sz ((C1 m hi).toNat - (C1 0 lo).toNat) (fun i=>f ((C1 0 lo).toNat + i)),H⟩:=rfl
theorem Ad1 (sz:Nat) (lo hi:Option V) (H:Hp):Su sz .nils lo hi H=⟨Dx lo∧Dx hi∧C1 0 lo=0∧C1 0 hi=0,.nils,H⟩:=rfl
theorem YU (A:List V) (H:Hp) (n sz:Nat) (x:X) (lo hi:Option X):Ag A H n (.slsl sz x lo hi)=Su sz (x.ev A) (lo.map (X.ev A)) (hi.map (X.ev A)) H:=by
 simp only [Ag,Ph,JI];generalize X.ev A x=u;cases u <;> rfl
def Ak6 (m sz:Nat) (x:V) (H:Hp):Out:=match x with
 | .sl id p o l sz'=>⟨(sz'=sz∧m≤l∧0 < m),.ptr id (CQ p (.r sz o m)),H⟩
 | .lst sz' l f=>⟨sz'=sz∧m≤l∧0 < m,.imm (.ar sz m f),H⟩
 | _=>bad H
theorem Aie (m sz id:Nat) (p:List Stp) (o l sz':Nat) (H:Hp):Ak6 m sz (.sl id p o l sz') H=⟨(sz'=sz∧m≤l∧0 < m),.ptr id (CQ p (.r sz o m)),H⟩:=rfl
theorem Ahg (m sz sz' l:Nat) (f:Nat→V) (H:Hp):Ak6 m sz (.lst sz' l f) H=⟨sz'=sz∧m≤l∧0 < m,.imm (.ar sz m f),H⟩:=rfl
theorem ZV (A:List V) (H:Hp) (n m sz:Nat) (x:X):Ag A H n (.s2a m sz x)=Ak6 m sz (x.ev A) H:=by
 simp only [Ag];generalize X.ev A x=u;cases u <;> rfl
theorem XI (A:List V) (H:Hp) (n t:Nat) (x:X):Ag A H n (.mkif t x)=⟨(x.ev A).solid=true,.ifc t (x.ev A),H⟩:=rfl
def Aob (x:V) (i:Nat) (H:Hp):Out:=match x with
 | .tup fs=>⟨fs.fhas i=true,fs.fget i,H⟩
 | _=>bad H
theorem Ajq (fs:V) (i:Nat) (H:Hp):Aob (.tup fs) i H=⟨fs.fhas i=true,fs.fget i,H⟩:=rfl
theorem Acg (A:List V) (H:Hp) (n:Nat) (x:X) (i:Nat):Ag A H n (.ext x i)=Aob (x.ev A) i H:=by
 simp only [Ag];generalize X.ev A x=u;cases u <;> rfl
def MY (k:Nat) (x:V) (H:Hp):Out:=match k,x with
 | 0,.sl _ _ _ m _=>⟨True,.int .i64 m,H⟩
 | 0,.lst _ m _=>⟨True,.int .i64 m,H⟩
 | 0,.nils=>⟨True,.int .i64 0,H⟩
 | 1,.str s=>⟨True,.int .i64 s.size,H⟩
 | 2,.nilm=>⟨True,.int .i64 0,H⟩
 | 2, .map id => match hget H id with
   | .mp m _ _=>⟨Af H id=true,.int .i64 m,H⟩
   | _=>bad H
 | _,_=>bad H
theorem Akl (id:Nat) (p:List Stp) (o m sz:Nat) (H:Hp):MY 0 (.sl id p o m sz) H=⟨True,.int .i64 m,H⟩:=rfl
theorem Agm (sz m:Nat) (f:Nat→V) (H:Hp):MY 0 (.lst sz m f) H=⟨True,.int .i64 m,H⟩:=rfl
theorem Ahl (H:Hp):MY 0 .nils H=⟨True,.int .i64 0,H⟩:=rfl
theorem Ya (s:ByteArray) (H:Hp):MY 1 (.str s) H=⟨True,.int .i64 s.size,H⟩:=rfl
theorem Ae5 (H:Hp):MY 2 .nilm H=⟨True,.int .i64 0,H⟩:=rfl
theorem Acv (A:List V) (H:Hp) (n k:Nat) (x:X):Ag A H n (.len k x)=MY k (x.ev A) H:=by
 simp only [Ag];generalize X.ev A x=u;rcases k with _ | _ | _ | k <;> cases u <;> rfl
theorem Wt (A:List V) (H:Hp) (n f:Nat) (caps:List X):Ag A H n (.mkfn f caps)=⟨C5 A caps,.fn f (.st caps.length (DN A caps 0)),H⟩:=rfl
theorem Uu (A:List V) (H:Hp) (n k:Nat) (x:X):Ag A H n (.mkmth k x)=(match x.ev A with | .ifc t v=>⟨True,.fn (1000000 + k) (.st 1 (.fcons 0 (.ifc t v) .fnil)),H⟩ | _=>bad H):=rfl
theorem ZD (A:List V) (H:Hp) (n k:Nat) (ts:List Nat) (x:X):Ag A H n (.nilm k ts x)=(match x.ev A with | .fn f (.st m (.fcons j (.ifc t v) r))=>⟨f=1000000 + k∧t ∈ ts∧m=1∧j=0,.fn f (.st m (.fcons j (.ifc t v) r)),H⟩ | _=>bad H):=rfl
def All (v:V) (n:Nat) (H:Hp):Out:=match v with
 | .ifc t (.map id) => match hget H id with
   | .mp m ks vs=>⟨Af H id=true,.ifc t (.map n),(n,.mp m ks vs) :: H⟩
   | _=>bad H
 | .ifc t (.fm m ks vs)=>⟨True,.ifc t (.map n),(n,.mp m ks vs) :: H⟩
 | _=>bad H
def Afz (b:V) (t id n:Nat) (H:Hp):Out:=match b with
 | .mp m ks vs=>⟨Af H id=true,.ifc t (.map n),(n,.mp m ks vs) :: H⟩
 | _=>bad H
theorem Ahx (t id n:Nat) (H:Hp):All (.ifc t (.map id)) n H=Afz (hget H id) t id n H:=rfl
theorem Ah8 (t n m:Nat) (ks vs:Nat→V) (H:Hp):All (.ifc t (.fm m ks vs)) n H=⟨True,.ifc t (.map n),(n,.mp m ks vs) :: H⟩:=rfl
theorem Aeu (t id n m:Nat) (ks vs:Nat→V) (H:Hp):Afz (.mp m ks vs) t id n H=⟨Af H id=true,.ifc t (.map n),(n,.mp m ks vs) :: H⟩:=rfl
def Aln (v:V) (n:Nat) (H:Hp):Out:=match v with
 | .map id => match hget H id with
   | .mp _ _ _=>⟨Af H id=true,.ptr n [],(n,.tup (.map id)) :: H⟩
   | _=>bad H
 | .fm m ks vs=>⟨True,.ptr n [],(n,.tup (.fcons 0 (.fm m ks vs) (.ar 1 m fun _=>.bool false))) :: H⟩
 | _=>bad H
def Afr (b:V) (id n:Nat) (H:Hp):Out:=match b with
 | .mp _ _ _=>⟨Af H id=true,.ptr n [],(n,.tup (.map id)) :: H⟩
 | _=>bad H
theorem Aka (id n:Nat) (H:Hp):Aln (.map id) n H=Afr (hget H id) id n H:=rfl
theorem Aal (id n m:Nat) (ks vs:Nat→V) (H:Hp):Afr (.mp m ks vs) id n H=⟨Af H id=true,.ptr n [],(n,.tup (.map id)) :: H⟩:=rfl
theorem ZU (A:List V) (H:Hp) (n:Nat) (x:X):Ag A H n (.rng x)=Aln (x.ev A) n H:=rfl
def Alw (v:V) (H:Hp):Out:=match v with
 | .ptr id [] => match hget H id with
   | .tup (.map j) => match hget H j with
     | .mp m _ _=>⟨m=0∧Af H id=true∧Af H j=true,.tup (.fcons 0 (.bool false) .fnil),H⟩
     | _=>bad H
   | _=>bad H
 | _=>bad H
def Af1 (b:V) (id:Nat) (H:Hp):Out:=match b with
 | .tup (.map j) => match hget H j with
   | .mp m _ _=>⟨m=0∧Af H id=true∧Af H j=true,.tup (.fcons 0 (.bool false) .fnil),H⟩
   | _=>bad H
 | _=>bad H
def Afs (b:V) (id j:Nat) (H:Hp):Out:=match b with
 | .mp m _ _=>⟨m=0∧Af H id=true∧Af H j=true,.tup (.fcons 0 (.bool false) .fnil),H⟩
 | _=>bad H
theorem Ah4 (id:Nat) (H:Hp):Alw (.ptr id []) H=Af1 (hget H id) id H:=rfl
theorem Aeq (id j:Nat) (H:Hp):Af1 (.tup (.map j)) id H=Afs (hget H j) id j H:=rfl
theorem Ab2 (id j m:Nat) (ks vs:Nat→V) (H:Hp):Afs (.mp m ks vs) id j H=⟨m=0∧Af H id=true∧Af H j=true,.tup (.fcons 0 (.bool false) .fnil),H⟩:=rfl
theorem Aec (A:List V) (H:Hp) (n:Nat) (x:X):Ag A H n (.nxt x)=Alw (x.ev A) H:=rfl
def Apa (v:V) (H:Hp):Out:=match v with
 | .ptr id [] => match hget H id with
   | .tup (.fcons o (.fm m ks vs) (.ar _ _ _))=>⟨Af H id=true∧0 < o∧o≤m,.tup (.fcons 0 (ks (o - 1)) (.fcons 1 (vs (o - 1)) .fnil)),H⟩
   | _=>bad H
 | _=>bad H
theorem Ae0 (A:List V) (H:Hp) (n:Nat) (x:X):Ag A H n (.ent x)=Apa (x.ev A) H:=rfl
theorem Ry (A:List V) (H:Hp) (n:Nat) (x:X):Ag A H n (.mclone x)=All (x.ev A) n H:=rfl
theorem Abl (A:List V) (H:Hp) (n t:Nat) (x:X):Ag A H n (.tas t x)=(match x.ev A with | .ifc t' v=>⟨t'=t,v,H⟩ | _=>bad H):=rfl
def Wv (x i:V) (H:Hp):Out:=match x,i with
 | .str s,.int _ a=>⟨0≤a∧a < s.size,.int .u8 ((s[a.toNat]?).getD 0).toNat,H⟩
 | _,_=>bad H
theorem Aa2 (s:ByteArray) (k:IntKind) (a:Int) (H:Hp):Wv (.str s) (.int k a) H=⟨0≤a∧a < s.size,.int .u8 ((s[a.toNat]?).getD 0).toNat,H⟩:=rfl
theorem VS (A:List V) (H:Hp) (n:Nat) (x y:X):Ag A H n (.sidx x y)=Wv (x.ev A) (y.ev A) H:=by
 simp only [Ag];generalize X.ev A x=u;generalize X.ev A y=v;cases u <;> cases v <;> rfl
def Qg (x y z:V) (H:Hp):Out:=match x,y,z with
 | .int .u64 a,.int .u64 b,.int .u64 c=>⟨0≤a∧0≤b∧0≤c∧c≤1,.tup (.fcons 0 (.int .u64 ((a + b + c) % 18446744073709551616)) (.fcons 1 (.int .u64 ((a + b + c) / 18446744073709551616)) .fnil)),H⟩
 | _,_,_=>bad H
def Zm (a b:BitVec 64):BitVec 64:=if a.toNat + b.toNat < 18446744073709551616 then 0#64 else 1#64
theorem Od (a b:BitVec 64) (H:Hp):Qg (W a) (W b) (.int .u64 0) H=⟨True,.tup (.fcons 0 (W (a + b)) (.fcons 1 (W (Zm a b)) .fnil)),H⟩:=by
 have ha:=a.isLt;have hb:=b.isLt;have e1:((a.toNat:Int) + b.toNat + 0) % 18446744073709551616=((a + b).toNat:Int):=by
  rw [BitVec.toNat_add];omega
 have e2:((a.toNat:Int) + b.toNat + 0) / 18446744073709551616=((Zm a b).toNat:Int):=by
  unfold Zm;split
  ·show _=((0:Nat):Int);omega
  ·show _=((1:Nat):Int);omega
 show (⟨_,_,_⟩:Out)=_;simp only [W,e1,e2]
 congr 1
 exact eq_true ⟨by omega,by omega,by omega,by omega⟩
theorem Ve (A:List V) (H:Hp) (n:Nat) (x y z:X):Ag A H n (.add64 x y z)=Qg (x.ev A) (y.ev A) (z.ev A) H:=by
 simp only [Ag];generalize X.ev A x=u;generalize X.ev A y=v;generalize X.ev A z=w;cases u <;> cases v <;> cases w <;> rfl
def vmm (max:Bool) (x y:V) (H:Hp):Out:=match x,y with
 | .int k a,.int k' b=>⟨k=k',.int k (if max then (if a < b then b else a) else (if b < a then b else a)),H⟩
 | _,_=>bad H
theorem Aav (k:IntKind) (a b:Int) (H:Hp):vmm true (.int k a) (.int k b) H=⟨True,.int k (max a b),H⟩:=by
 have:max a b=if a < b then b else a:=Aa;simp [vmm,this]
theorem Ad2 (k:IntKind) (a b:Int) (H:Hp):vmm false (.int k a) (.int k b) H=⟨True,.int k (min a b),H⟩:=by
 have:min a b=if b < a then b else a:=Aa;simp [vmm,this]
theorem Agn (A:List V) (H:Hp) (n:Nat) (max:Bool) (x y:X):Ag A H n (.mm max x y)=vmm max (x.ev A) (y.ev A) H:=by
 simp only [Ag];generalize X.ev A x=u;generalize X.ev A y=v;cases u <;> cases v <;> rfl
def Yz (sz bytes:Nat) (z:Z) (n:Nat) (x y:V) (H:Hp):Out:=match x,y with
 | .int k a,.int k' b=>⟨k = .i64∧k' = .i64∧0≤a∧a≤b∧b * bytes≤2 ^ 47∧b < 2 ^ 47,.sl n [] 0 a.toNat sz,(n,.ar sz b.toNat (fun _=>z.v 0)) :: H⟩
 | _,_=>bad H
theorem ZN (sz bytes:Nat) (z:Z) (n:Nat) (a b:Int) (H:Hp):Yz sz bytes z n (.int .i64 a) (.int .i64 b) H=⟨0≤a∧a≤b∧b * bytes≤140737488355328∧b < 140737488355328,.sl n [] 0 a.toNat sz,(n,.ar sz b.toNat (fun _=>z.v 0)) :: H⟩:=by
 simp [Yz]
theorem Yt (A:List V) (H:Hp) (n sz bytes:Nat) (z:Z) (l c:X):Ag A H n (.mksl sz bytes z l c)=Yz sz bytes z n (l.ev A) (c.ev A) H:=by
 simp only [Ag];generalize X.ev A l=u;generalize X.ev A c=v;cases u <;> cases v <;> rfl
def UX (sz bytes n:Nat) (x y:V) (H:Hp):Out:=match x,Cv H y with
 | .nils,some (sz',m,g)=>⟨sz'=sz∧B4 H y∧0 < m∧m * bytes≤2 ^ 47,.sl n [] 0 m sz,(n,.ar sz m g) :: H⟩
 | .sl id p o l sz'', some (sz', m, g) =>
   match hget H id with
   | .ar _ l' f=>⟨(sz'=sz∧sz''=sz∧p=[]∧o=0)∧(Af H id=true∧(hget H id).solid=true∧(match hget H id with | .ar s _ _=>s=sz | _=>False)∧l≤l')∧B4 H y∧(l + m) * bytes≤2 ^ 47,
    .sl n [] 0 (l + m) sz,(n,.ar sz (l + m) (fun i=>if i < l then f i else g (i - l))) :: CT H id⟩
   | _=>bad H
 | _,_=>bad H
theorem Ac5 (A:List V) (H:Hp) (n sz bytes:Nat) (x y:X):Ag A H n (.app sz bytes x y)=UX sz bytes n (x.ev A) (y.ev A) H:=rfl
def IN (sz bytes n:Nat) (x:V) (e:Option (Nat × Nat × (Nat→V))) (ok:Prop) (b:V) (H:Hp):Out:=match x,e with
 | .nils,some (sz',m,g)=>⟨sz'=sz∧ok∧0 < m∧m * bytes≤2 ^ 47,.sl n [] 0 m sz,(n,.ar sz m g) :: H⟩
 | .sl id p o l sz'', some (sz', m, g) =>
   match b with
   | .ar s l' f=>⟨(sz'=sz∧sz''=sz∧p=[]∧o=0)∧(Af H id=true∧s=sz∧l≤l')∧ok∧(l + m) * bytes≤2 ^ 47,
    .sl n [] 0 (l + m) sz,(n,.ar sz (l + m) (fun i=>if i < l then f i else g (i - l))) :: CT H id⟩
   | _=>bad H
 | _,_=>bad H
theorem Q2 (sz bytes n:Nat) (y:V) (H:Hp):UX sz bytes n .nils y H=IN sz bytes n .nils (Cv H y) (B4 H y) .junk H:=by
 simp only [UX,IN];cases Cv H y <;> rfl
theorem QH (sz bytes n id:Nat) (p:List Stp) (o l sz'':Nat) (y:V) (H:Hp):UX sz bytes n (.sl id p o l sz'') y H=IN sz bytes n (.sl id p o l sz'') (Cv H y) (B4 H y) (hget H id) H:=by
 simp only [UX,IN];cases Cv H y with
 | none=>rfl
 | some q =>
   obtain ⟨a,b,c⟩:=q;cases hu:hget H id <;> simp [hu,V.solid,bad]
theorem SG (sz bytes n sz' m:Nat) (g:Nat→V) (ok:Prop) (b:V) (H:Hp):IN sz bytes n .nils (some (sz',m,g)) ok b H=⟨sz'=sz∧ok∧0 < m∧m * bytes≤140737488355328,.sl n [] 0 m sz,(n,.ar sz m g) :: H⟩:=by simp [IN]
theorem St (sz bytes n id:Nat) (p:List Stp) (o l sz'' sz' m s l':Nat) (g f:Nat→V) (ok:Prop) (H:Hp):IN sz bytes n (.sl id p o l sz'') (some (sz',m,g)) ok (.ar s l' f) H =
 ⟨(sz'=sz∧sz''=sz∧p=[]∧o=0)∧(Af H id=true∧s=sz∧l≤l')∧ok∧(l + m) * bytes≤140737488355328,
  .sl n [] 0 (l + m) sz,(n,.ar sz (l + m) (fun i=>if i < l then f i else g (i - l))) :: CT H id⟩:=by simp [IN]
theorem Ady (H:Hp) (sz n:Nat) (f:Nat→V):Cv H (.lst sz n f)=some (sz,n,f):=rfl
def Iw (o n sz:Nat) (b:V):Option (Nat × Nat × (Nat→V)):=match b with
 | .ar _ _ f=>some (sz,n,fun i=>f (o + i))
 | _=>none
theorem WK (o n sz s m:Nat) (f:Nat→V):Iw o n sz (.ar s m f)=some (sz,n,fun i=>f (o + i)):=rfl
theorem R7 (H:Hp) (id:Nat) (p:List Stp) (o n sz:Nat):Cv H (.sl id p o n sz)=Iw o n sz ((hget H id).get p):=rfl
def GZ (o n sz:Nat) (b:V):Prop:=match b with
 | .ar sz' m _=>sz'=sz∧o + n≤m
 | _=>False
theorem WB (o n sz s m:Nat) (f:Nat→V):GZ o n sz (.ar s m f)=(s=sz∧o + n≤m):=rfl
theorem UZ (H:Hp) (sz n:Nat) (f:Nat→V):B4 H (.lst sz n f)=True:=rfl
theorem Mb (H:Hp) (id:Nat) (p:List Stp) (o n sz:Nat):B4 H (.sl id p o n sz)=(Af H id=true∧(hget H id).solid=true∧(hget H id).ok p∧GZ o n sz ((hget H id).get p)):=by
 simp only [B4];rfl
theorem Abb (H:Hp):Cv H .nils=none:=rfl
def UL (sz:Nat) (x y:V) (H:Hp):Out:=match x,Cv H y with
 | .sl id p o l sz'', some (sz', m, g) =>
   match (hget H id).get p with
   | .ar s l' f=>⟨(sz'=sz∧sz''=sz∧s=sz)∧(Af H id=true∧(hget H id).solid=true∧(hget H id).ok p∧H2 p=true∧o + l≤l')∧B4 H y,.int .i64 (min m l:Nat),
    BC H id (V.set (.ar sz l' (fun i=>if o≤i∧i < o + min m l then g (i - o) else f i)) p (hget H id))⟩
   | _=>bad H
 | .sl _ _ _ _ _,none=>⟨match y with | .nils=>True | _=>False,.int .i64 0,H⟩
 | _,_=>bad H
theorem Xe (A:List V) (H:Hp) (n sz:Nat) (x y:X):Ag A H n (.copy sz x y)=UL sz (x.ev A) (y.ev A) H:=rfl
def Oq (sz id:Nat) (p:List Stp) (o l:Nat) (e:Option (Nat × Nat × (Nat→V))) (ok:Prop) (b:V) (H:Hp):Out:=match e,b with
 | some (sz',m,g),.ar s l' f=>⟨(sz'=sz∧s=sz)∧(Af H id=true∧(hget H id).solid=true∧(hget H id).ok p∧H2 p=true∧o + l≤l')∧ok,.int .i64 (min m l:Nat),
  BC H id (V.set (.ar sz l' (fun i=>if o≤i∧i < o + min m l then g (i - o) else f i)) p (hget H id))⟩
 | none,_=>⟨False,.int .i64 0,H⟩
 | _,_=>bad H
theorem Aa4 (sz id:Nat) (p:List Stp) (o l sz'':Nat) (H:Hp):UL sz (.sl id p o l sz'') .nils H=⟨True,.int .i64 0,H⟩:=rfl
theorem Aag (sz id:Nat) (p:List Stp) (o l n sz':Nat) (f:Nat→V) (H:Hp):UL sz (.sl id p o l sz) (.lst sz' n f) H=Oq sz id p o l (some (sz',n,f)) True ((hget H id).get p) H:=by
 simp only [UL,Oq,Cv,B4];cases hu:(hget H id).get p <;> simp [hu,bad]
theorem Acc (sz id:Nat) (p:List Stp) (o l id':Nat) (p':List Stp) (o' n sz':Nat) (H:Hp):UL sz (.sl id p o l sz) (.sl id' p' o' n sz') H=Oq sz id p o l (Iw o' n sz' ((hget H id').get p')) (Af H id'=true∧(hget H id').solid=true∧(hget H id').ok p'∧GZ o' n sz' ((hget H id').get p')) ((hget H id).get p) H:=by
 simp only [UL,Oq,R7,Mb];cases Iw o' n sz' ((hget H id').get p') with
 | none=>rfl
 | some q =>
   obtain ⟨a,b,c⟩:=q;cases hu:(hget H id).get p <;> simp [hu,bad]
theorem Ac3 (sz id:Nat) (p:List Stp) (o l sz' m:Nat) (g:Nat→V) (ok:Prop) (s l':Nat) (f:Nat→V) (H:Hp):Oq sz id p o l (some (sz',m,g)) ok (.ar s l' f) H =
 ⟨(sz'=sz∧s=sz)∧(Af H id=true∧(hget H id).solid=true∧(hget H id).ok p∧H2 p=true∧o + l≤l')∧ok,.int .i64 (min m l:Nat),
  BC H id (V.set (.ar sz l' (fun i=>if o≤i∧i < o + min m l then g (i - o) else f i)) p (hget H id))⟩:=rfl
end Mv
