/- A part. -/
import Derived.Test.YtlfkjfonpacelaaGreatDoorGP
set_option linter.all false
namespace Mv
open Go
def vpk (c a b:V) (H:Hp):Out:=match c with | .bool t=>⟨True,F4 t a b,H⟩ | _=>BR H
theorem Aj4 (t:Bool) (a b:V) (H:Hp):vpk (.bool t) a b H=⟨True,F4 t a b,H⟩:=rfl
theorem Xu (A:List V) (H:Hp) (n:Nat) (c a b:X):Ac A H n (.pick c a b)=vpk (c.ev A) (a.ev A) (b.ev A) H:=rfl
theorem Aar (a b:Bool):F4 true (.bool a) (.bool b) = .bool a:=rfl
theorem Zd (a b:Bool):F4 false (.bool a) (.bool b) = .bool b:=rfl
theorem W1 (a:Bool) (v:V):F4 true (.bool a) (.tup v) = .bool a:=rfl
theorem Vj (b:Bool) (v:V):F4 false (.tup v) (.bool b) = .bool b:=rfl
theorem XZ (t a b:Bool):F4 t (.bool a) (.bool b) = .bool (bif t then a else b):=rfl
theorem Adf (A:List V) (H:Hp) (n:Nat) (x:X):Ac A H n (.mv x)=⟨True,x.ev A,H⟩:=rfl
theorem Aaf (A:List V) (H:Hp) (n:Nat) (op:BinOp) (x y:X):Ac A H n (.ari op x y)=AV op (x.ev A) (y.ev A) H:=rfl
theorem Ad6 (A:List V) (H:Hp) (n:Nat) (op:UnOp) (x:X):Ac A H n (.un op x)=Vb op (x.ev A) H:=rfl
theorem Ae9 (A:List V) (H:Hp) (n:Nat) (neg c:Bool) (s:ES) (x y:X):Ac A H n (.eq neg c s x y)=⟨AL c s (x.ev A) (y.ev A),.bool (neg ^^ AP s (x.ev A) (y.ev A)),H⟩:=rfl
theorem Tv (A:List V) (H:Hp) (n:Nat) (z:Z):Ac A H n (.alloc z)=⟨True,.ptr n [],(n,z.v 0) :: H⟩:=rfl
theorem Ze (A:List V) (H:Hp) (n:Nat) (x:X):Ac A H n (.box x)=⟨(x.ev A).solid=true,.ptr n [],(n,x.ev A) :: H⟩:=rfl
theorem TW (A:List V) (H:Hp) (n:Nat) (z:Z) (ps:List (Stp × Nat × X)):Ac A H n (.build z ps)=⟨BB (z.v 0) A ps,Cy (z.v 0) A ps,H⟩:=rfl
theorem Aa4 (A:List V) (H:Hp) (n sz m:Nat) (z:Z) (ps:List (Stp × Nat × X)):Ac A H n (.bsl sz m z ps)=⟨BB (.ar sz m (fun _=>z.v 0)) A ps,.sl n [] 0 m sz,(n,Cy (.ar sz m (fun _=>z.v 0)) A ps) :: H⟩:=rfl
def Wf (agg:Bool) (sz:Nat) (x:V) (H:Hp):Out:=match x with
 | .ptr id p=>⟨(Af H id=true∧(hget H id).solid=true∧(hget H id).ok p)∧((hget H id).get p).solid=true∧((hget H id).get p).size=sz∧((hget H id).get p).isAgg=agg,(hget H id).get p,H⟩
 | .imm v=>⟨v.solid=true∧v.size=sz∧v.isAgg=agg,v,H⟩
 | _=>BR H
theorem Abf (agg:Bool) (sz id:Nat) (p:List Stp) (H:Hp):Wf agg sz (.ptr id p) H=⟨(Af H id=true∧(hget H id).solid=true∧(hget H id).ok p)∧((hget H id).get p).solid=true∧((hget H id).get p).size=sz∧((hget H id).get p).isAgg=agg,(hget H id).get p,H⟩:=rfl
theorem Aao (agg:Bool) (sz:Nat) (v:V) (H:Hp):Wf agg sz (.imm v) H=⟨v.solid=true∧v.size=sz∧v.isAgg=agg,v,H⟩:=rfl
theorem Xe (A:List V) (H:Hp) (n:Nat) (agg:Bool) (sz:Nat) (x:X):Ac A H n (.load agg sz x)=Wf agg sz (x.ev A) H:=by
 simp only [Ac];generalize X.ev A x=u;cases u <;> rfl
def Xc (sz:Nat) (x y:V) (H:Hp):Out:=match x with
 | .ptr id p=>⟨(Af H id=true∧(hget H id).solid=true∧(hget H id).ok p∧GZ p=true)∧y.solid=true∧y.size=sz∧((hget H id).get p).size=sz,.tup .fnil,Cs H id (V.set y p (hget H id))⟩
 | _=>BR H
theorem WI (sz id:Nat) (p:List Stp) (y:V) (H:Hp):Xc sz (.ptr id p) y H=⟨(Af H id=true∧(hget H id).solid=true∧(hget H id).ok p∧GZ p=true)∧y.solid=true∧y.size=sz∧((hget H id).get p).size=sz,.tup .fnil,Cs H id (V.set y p (hget H id))⟩:=rfl
theorem TF (A:List V) (H:Hp) (n:Nat) (sz:Nat) (x y:X):Ac A H n (.store sz x y)=Xc sz (x.ev A) (y.ev A) H:=by
 simp only [Ac];generalize X.ev A x=u;generalize X.ev A y=v;cases u <;> cases v <;> rfl
def Pe (x:V) (H:Hp):Out:=match x with
 | .ptr id p=>⟨True,.ptr id p,H⟩
 | .imm v=>⟨True,.imm v,H⟩
 | .fn f c=>⟨f < 1000000,.fn f c,H⟩
 | .ifc t v=>⟨True,.ifc t v,H⟩
 | _=>BR H
theorem Ach (id:Nat) (p:List Stp) (H:Hp):Pe (.ptr id p) H=⟨True,.ptr id p,H⟩:=rfl
theorem Abu (v:V) (H:Hp):Pe (.imm v) H=⟨True,.imm v,H⟩:=rfl
theorem Abq (f:Nat) (c:V) (H:Hp):Pe (.fn f c) H=⟨f < 1000000,.fn f c,H⟩:=rfl
theorem Abk (t:Nat) (v:V) (H:Hp):Pe (.ifc t v) H=⟨True,.ifc t v,H⟩:=rfl
theorem VQ (A:List V) (H:Hp) (n:Nat) (x:X):Ac A H n (.nilc x)=Pe (x.ev A) H:=by
 simp only [Ac];generalize X.ev A x=u;cases u <;> rfl
def W6 (off:Nat) (x:V) (H:Hp):Out:=match x with
 | .ptr id p=>⟨True,.ptr id (Dd p (.f off)),H⟩
 | .imm v=>⟨v.solid=true∧v.ok [.f off],.imm (v.get [.f off]),H⟩
 | _=>BR H
theorem Abj (off id:Nat) (p:List Stp) (H:Hp):W6 off (.ptr id p) H=⟨True,.ptr id (Dd p (.f off)),H⟩:=rfl
theorem Abt (off:Nat) (v:V) (H:Hp):W6 off (.imm v) H=⟨v.solid=true∧v.ok [.f off],.imm (v.get [.f off]),H⟩:=rfl
theorem Vo (A:List V) (H:Hp) (n off:Nat) (x:X):Ac A H n (.fadr off x)=W6 off (x.ev A) H:=by
 simp only [Ac];generalize X.ev A x=u;cases u <;> rfl
def JJ (m sz:Nat) (x i:V) (H:Hp):Out:=match x,i with
 | .ptr id p,.int _ a=>⟨0≤a∧a < m,.ptr id (Dd p (.i sz a.toNat)),H⟩
 | .imm v,.int _ a=>⟨(0≤a∧a < m)∧v.solid=true∧v.ok [.i sz a.toNat],.imm (v.get [.i sz a.toNat]),H⟩
 | _,_=>BR H
theorem Ab3 (m sz id:Nat) (p:List Stp) (k:IntKind) (a:Int) (H:Hp):JJ m sz (.ptr id p) (.int k a) H=⟨0≤a∧a < m,.ptr id (Dd p (.i sz a.toNat)),H⟩:=rfl
theorem Xh (m sz id:Nat) (p:List Stp) (w:BitVec 64) (H:Hp):JJ m sz (.ptr id p) (W w) H=⟨w.toNat < m,.ptr id (Dd p (.i sz w.toNat)),H⟩:=by
 simp only [JJ,Lcd];congr 1;rw [eq_iff_iff];omega
theorem Acj (m sz:Nat) (v:V) (k:IntKind) (a:Int) (H:Hp):JJ m sz (.imm v) (.int k a) H=⟨(0≤a∧a < m)∧v.solid=true∧v.ok [.i sz a.toNat],.imm (v.get [.i sz a.toNat]),H⟩:=rfl
theorem Vv (m sz:Nat) (v:V) (w:BitVec 64) (H:Hp):JJ m sz (.imm v) (W w) H=⟨w.toNat < m∧v.solid=true∧v.ok [.i sz w.toNat],.imm (v.get [.i sz w.toNat]),H⟩:=by
 simp only [JJ,Lcd];congr 2;rw [eq_iff_iff];omega
theorem XD (A:List V) (H:Hp) (n m sz:Nat) (x i:X):Ac A H n (.iarr m sz x i)=JJ m sz (x.ev A) (i.ev A) H:=by
 simp only [Ac];generalize X.ev A x=u;generalize X.ev A i=v;cases u <;> cases v <;> rfl
def RQ (sz:Nat) (x i:V) (H:Hp):Out:=match x,i with
 | .sl id p o m sz',.int _ a=>⟨(0≤a∧a < m)∧sz'=sz,.ptr id (Dd p (.i sz (o + a.toNat))),H⟩
 | .lst sz' m f,.int _ a=>⟨(0≤a∧a < m)∧sz'=sz,.imm (f a.toNat),H⟩
 | _,_=>BR H
theorem Afl (sz id:Nat) (p:List Stp) (o m sz':Nat) (k:IntKind) (a:Int) (H:Hp):RQ sz (.sl id p o m sz') (.int k a) H=⟨(0≤a∧a < m)∧sz'=sz,.ptr id (Dd p (.i sz (o + a.toNat))),H⟩:=rfl
theorem YS (sz id:Nat) (p:List Stp) (o m sz':Nat) (w:BitVec 64) (H:Hp):RQ sz (.sl id p o m sz') (W w) H=⟨w.toNat < m∧sz'=sz,.ptr id (Dd p (.i sz (o + w.toNat))),H⟩:=by
 simp only [RQ,Lcd];congr 2;rw [eq_iff_iff];omega
theorem Adv (sz sz' m:Nat) (f:Nat→V) (k:IntKind) (a:Int) (H:Hp):RQ sz (.lst sz' m f) (.int k a) H=⟨(0≤a∧a < m)∧sz'=sz,.imm (f a.toNat),H⟩:=rfl
theorem Abn (sz sz' m:Nat) (f:Nat→V) (w:BitVec 64) (H:Hp):RQ sz (.lst sz' m f) (W w) H=⟨w.toNat < m∧sz'=sz,.imm (f w.toNat),H⟩:=by
 simp only [RQ,Lcd];congr 2;rw [eq_iff_iff];omega
theorem Abe (A:List V) (H:Hp) (n sz:Nat) (x i:X):Ac A H n (.isl sz x i)=RQ sz (x.ev A) (i.ev A) H:=by
 simp only [Ac];generalize X.ev A x=u;generalize X.ev A i=v;cases u <;> cases v <;> rfl
def Aa7 (m sz:Nat) (agg:Bool) (x i:V) (H:Hp):Out:=match x,i with
 | .ar sz' m' f,.int _ a=>⟨(0≤a∧a < m)∧sz'=sz∧m'=m∧(f a.toNat).isAgg=agg,f a.toNat,H⟩
 | _,_=>BR H
theorem Ain (m sz:Nat) (agg:Bool) (sz' m':Nat) (f:Nat→V) (k:IntKind) (a:Int) (H:Hp):Aa7 m sz agg (.ar sz' m' f) (.int k a) H=⟨(0≤a∧a < m)∧sz'=sz∧m'=m∧(f a.toNat).isAgg=agg,f a.toNat,H⟩:=rfl
theorem Aan (m sz:Nat) (agg:Bool) (sz' m':Nat) (f:Nat→V) (w:BitVec 64) (H:Hp):Aa7 m sz agg (.ar sz' m' f) (W w) H=⟨w.toNat < m∧sz'=sz∧m'=m∧(f w.toNat).isAgg=agg,f w.toNat,H⟩:=by
 simp only [Aa7,Lcd];congr 2;rw [eq_iff_iff];omega
theorem ZM (A:List V) (H:Hp) (n m sz:Nat) (agg:Bool) (x i:X):Ac A H n (.idx m sz agg x i)=Aa7 m sz agg (x.ev A) (i.ev A) H:=by
 simp only [Ac];generalize X.ev A x=u;generalize X.ev A i=v;cases u <;> cases v <;> rfl
def Ak9 (off sz:Nat) (agg:Bool) (x:V) (H:Hp):Out:=match x with
 | .st _ fs=>⟨fs.fhas off=true∧(fs.fget off).solid=true∧(fs.fget off).size=sz∧(fs.fget off).isAgg=agg,fs.fget off,H⟩
 | _=>BR H
theorem Ae3 (off sz:Nat) (agg:Bool) (m:Nat) (fs:V) (H:Hp):Ak9 off sz agg (.st m fs) H=⟨fs.fhas off=true∧(fs.fget off).solid=true∧(fs.fget off).size=sz∧(fs.fget off).isAgg=agg,fs.fget off,H⟩:=rfl
theorem Ab5 (A:List V) (H:Hp) (n off sz:Nat) (agg:Bool) (x:X):Ac A H n (.fld off sz agg x)=Ak9 off sz agg (x.ev A) H:=by
 simp only [Ac];generalize X.ev A x=u;cases u <;> rfl
def CM (d:Int):Option V→Int
 | none=>d
 | some (.int _ n)=>n
 | _=>-1
def DA:Option V→Prop
 | none=>True
 | some (.int _ _)=>True
 | _=>False
theorem Anz (d:Int):CM d none=d:=rfl
theorem Aoj (d:Int) (k:IntKind) (n:Int):CM d (some (.int k n))=n:=rfl
theorem Ajk (d:Int) (w:BitVec 64):CM d (some (W w))=(w.toNat:Int):=rfl
theorem Afc:DA none=True:=rfl
theorem Aia (k:IntKind) (n:Int):DA (some (.int k n))=True:=rfl
theorem Ag0 (w:BitVec 64):DA (some (W w))=True:=rfl
theorem OO (A:List V) (d:Int) (x:Option X):AG A d x=CM d (x.map (X.ev A)):=by
 cases x with
 | none=>rfl
 | some x=>simp only [AG,Option.map,CM];split <;> simp_all
theorem Jw (A:List V) (x:Option X):BM A x=DA (x.map (X.ev A)):=by
 cases x with
 | none=>rfl
 | some x=>simp only [BM,On,Option.map,DA];split <;> simp_all
def NE (m sz:Nat) (x:V) (lo hi:Option V) (H:Hp):Out:=match x with
 | .ptr id p=>⟨(DA lo∧DA hi∧0≤CM 0 lo∧CM 0 lo≤CM m hi∧CM m hi≤m)∧Af H id=true∧(hget H id).solid=true∧(hget H id).ok p∧(match (hget H id).get p with | .ar sz' m' _=>sz'=sz∧m'=m | _=>False),
  .sl id p (CM 0 lo).toNat ((CM m hi).toNat - (CM 0 lo).toNat) sz,H⟩
 | .imm v => match v with
   | .ar sz' m' f=>⟨(DA lo∧DA hi∧0≤CM 0 lo∧CM 0 lo≤CM m hi∧CM m hi≤m)∧sz'=sz∧m'=m,.lst sz ((CM m hi).toNat - (CM 0 lo).toNat) (fun i=>f ((CM 0 lo).toNat + i)),H⟩
   | _=>BR H
 | _=>BR H
def TD (sz m:Nat):V→Prop
 | .ar sz' m' _=>sz'=sz∧m'=m
 | _=>False
theorem Adg (sz m sz' m':Nat) (f:Nat→V):TD sz m (.ar sz' m' f)=(sz'=sz∧m'=m):=rfl
theorem Xr (m sz id:Nat) (p:List Stp) (lo hi:Option V) (H:Hp):NE m sz (.ptr id p) lo hi H=⟨(DA lo∧DA hi∧0≤CM 0 lo∧CM 0 lo≤CM m hi∧CM m hi≤m)∧Af H id=true∧(hget H id).solid=true∧(hget H id).ok p∧TD sz m ((hget H id).get p),
 .sl id p (CM 0 lo).toNat ((CM m hi).toNat - (CM 0 lo).toNat) sz,H⟩:=by
 simp only [NE];congr 5
theorem Vi (m sz sz' m':Nat) (f:Nat→V) (lo hi:Option V) (H:Hp):NE m sz (.imm (.ar sz' m' f)) lo hi H=⟨(DA lo∧DA hi∧0≤CM 0 lo∧CM 0 lo≤CM m hi∧CM m hi≤m)∧sz'=sz∧m'=m,.lst sz ((CM m hi).toNat - (CM 0 lo).toNat) (fun i=>f ((CM 0 lo).toNat + i)),H⟩:=rfl
theorem TS (A:List V) (H:Hp) (n m sz:Nat) (x:X) (lo hi:Option X):Ac A H n (.slarr m sz x lo hi)=NE m sz (x.ev A) (lo.map (X.ev A)) (hi.map (X.ev A)) H:=by
 simp only [Ac,OO,Jw];generalize X.ev A x=u
 cases u <;> first | rfl | (rename_i v;cases v <;> rfl)
def Sc (sz:Nat) (x:V) (lo hi:Option V) (H:Hp):Out:=match x with
 | .sl id p o m sz'=>⟨(DA lo∧DA hi∧0≤CM 0 lo∧CM 0 lo≤CM m hi∧CM m hi≤m)∧sz'=sz,.sl id p (o + (CM 0 lo).toNat) ((CM m hi).toNat - (CM 0 lo).toNat) sz,H⟩
 | .lst sz' m f=>⟨(DA lo∧DA hi∧0≤CM 0 lo∧CM 0 lo≤CM m hi∧CM m hi≤m)∧sz'=sz,.lst sz ((CM m hi).toNat - (CM 0 lo).toNat) (fun i=>f ((CM 0 lo).toNat + i)),H⟩
 | .nils=>⟨DA lo∧DA hi∧CM 0 lo=0∧CM 0 hi=0,.nils,H⟩
 | _=>BR H
theorem ZW (sz id:Nat) (p:List Stp) (o m sz':Nat) (lo hi:Option V) (H:Hp):Sc sz (.sl id p o m sz') lo hi H=⟨(DA lo∧DA hi∧0≤CM 0 lo∧CM 0 lo≤CM m hi∧CM m hi≤m)∧sz'=sz,.sl id p (o + (CM 0 lo).toNat) ((CM m hi).toNat - (CM 0 lo).toNat) sz,H⟩:=rfl
theorem Aad (sz sz' m:Nat) (f:Nat→V) (lo hi:Option V) (H:Hp):Sc sz (.lst sz' m f) lo hi H=⟨(DA lo∧DA hi∧0≤CM 0 lo∧CM 0 lo≤CM m hi∧CM m hi≤m)∧sz'=sz,.lst sz ((CM m hi).toNat - (CM 0 lo).toNat) (fun i=>f ((CM 0 lo).toNat + i)),H⟩:=rfl
theorem ZQ (sz:Nat) (lo hi:Option V) (H:Hp):Sc sz .nils lo hi H=⟨DA lo∧DA hi∧CM 0 lo=0∧CM 0 hi=0,.nils,H⟩:=rfl
theorem WL (A:List V) (H:Hp) (n sz:Nat) (x:X) (lo hi:Option X):Ac A H n (.slsl sz x lo hi)=Sc sz (x.ev A) (lo.map (X.ev A)) (hi.map (X.ev A)) H:=by
 simp only [Ac,OO,Jw];generalize X.ev A x=u;cases u <;> rfl
def Agc (m sz:Nat) (x:V) (H:Hp):Out:=match x with
 | .sl id p o l sz'=>⟨(sz'=sz∧m≤l∧0 < m),.ptr id (Dd p (.r sz o m)),H⟩
 | .lst sz' l f=>⟨sz'=sz∧m≤l∧0 < m,.imm (.ar sz m f),H⟩
 | _=>BR H
theorem Ahb (m sz id:Nat) (p:List Stp) (o l sz':Nat) (H:Hp):Agc m sz (.sl id p o l sz') H=⟨(sz'=sz∧m≤l∧0 < m),.ptr id (Dd p (.r sz o m)),H⟩:=rfl
theorem Ah0 (m sz sz' l:Nat) (f:Nat→V) (H:Hp):Agc m sz (.lst sz' l f) H=⟨sz'=sz∧m≤l∧0 < m,.imm (.ar sz m f),H⟩:=rfl
theorem Abz (A:List V) (H:Hp) (n m sz:Nat) (x:X):Ac A H n (.s2a m sz x)=Agc m sz (x.ev A) H:=by
 simp only [Ac];generalize X.ev A x=u;cases u <;> rfl
theorem Wi (A:List V) (H:Hp) (n t:Nat) (x:X):Ac A H n (.mkif t x)=⟨(x.ev A).solid=true,.ifc t (x.ev A),H⟩:=rfl
def Ale (x:V) (i:Nat) (H:Hp):Out:=match x with
 | .tup fs=>⟨fs.fhas i=true,fs.fget i,H⟩
 | _=>BR H
theorem Ag1 (fs:V) (i:Nat) (H:Hp):Ale (.tup fs) i H=⟨fs.fhas i=true,fs.fget i,H⟩:=rfl
theorem ZU (A:List V) (H:Hp) (n:Nat) (x:X) (i:Nat):Ac A H n (.ext x i)=Ale (x.ev A) i H:=by
 simp only [Ac];generalize X.ev A x=u;cases u <;> rfl
def Up (k:Nat) (x:V) (H:Hp):Out:=match k,x with
 | 0,.sl _ _ _ m _=>⟨True,.int .i64 m,H⟩
 | 0,.lst _ m _=>⟨True,.int .i64 m,H⟩
 | 0,.nils=>⟨True,.int .i64 0,H⟩
 | 1,.str s=>⟨True,.int .i64 s.size,H⟩
 | 2,.nilm=>⟨True,.int .i64 0,H⟩
 | 2, .map id => match hget H id with
   | .mp m _ _=>⟨Af H id=true,.int .i64 m,H⟩
   | _=>BR H
 | _,_=>BR H
theorem Aet (id:Nat) (p:List Stp) (o m sz:Nat) (H:Hp):Up 0 (.sl id p o m sz) H=⟨True,.int .i64 m,H⟩:=rfl
theorem Adi (sz m:Nat) (f:Nat→V) (H:Hp):Up 0 (.lst sz m f) H=⟨True,.int .i64 m,H⟩:=rfl
theorem Af7 (H:Hp):Up 0 .nils H=⟨True,.int .i64 0,H⟩:=rfl
theorem WV (s:ByteArray) (H:Hp):Up 1 (.str s) H=⟨True,.int .i64 s.size,H⟩:=rfl
theorem ZV (H:Hp):Up 2 .nilm H=⟨True,.int .i64 0,H⟩:=rfl
theorem YX (A:List V) (H:Hp) (n k:Nat) (x:X):Ac A H n (.len k x)=Up k (x.ev A) H:=by
 simp only [Ac];generalize X.ev A x=u;rcases k with _ | _ | _ | k <;> cases u <;> rfl
theorem V0 (A:List V) (H:Hp) (n f:Nat) (caps:List X):Ac A H n (.mkfn f caps)=⟨CS A caps,.fn f (.st caps.length (DY A caps 0)),H⟩:=rfl
theorem Tw (A:List V) (H:Hp) (n k:Nat) (x:X):Ac A H n (.mkmth k x)=(match x.ev A with | .ifc t v=>⟨True,.fn (1000000 + k) (.st 1 (.fcons 0 (.ifc t v) .fnil)),H⟩ | _=>BR H):=rfl
theorem Xi (A:List V) (H:Hp) (n k:Nat) (ts:List Nat) (x:X):Ac A H n (.nilm k ts x)=(match x.ev A with | .fn f (.st m (.fcons j (.ifc t v) r))=>⟨f=1000000 + k∧t ∈ ts∧m=1∧j=0,.fn f (.st m (.fcons j (.ifc t v) r)),H⟩ | _=>BR H):=rfl
def ZT (v:V) (n:Nat) (H:Hp):Out:=match v with
 | .ifc t (.map id) => match hget H id with
   | .mp m ks vs=>⟨Af H id=true,.ifc t (.map n),(n,.mp m ks vs) :: H⟩
   | _=>BR H
 | .ifc t (.fm m ks vs)=>⟨True,.ifc t (.map n),(n,.mp m ks vs) :: H⟩
 | _=>BR H
def Yi (b:V) (t id n:Nat) (H:Hp):Out:=match b with
 | .mp m ks vs=>⟨Af H id=true,.ifc t (.map n),(n,.mp m ks vs) :: H⟩
 | _=>BR H
theorem Ahe (t id n:Nat) (H:Hp):ZT (.ifc t (.map id)) n H=Yi (hget H id) t id n H:=rfl
theorem Afi (t n m:Nat) (ks vs:Nat→V) (H:Hp):ZT (.ifc t (.fm m ks vs)) n H=⟨True,.ifc t (.map n),(n,.mp m ks vs) :: H⟩:=rfl
theorem Z3 (t id n m:Nat) (ks vs:Nat→V) (H:Hp):Yi (.mp m ks vs) t id n H=⟨Af H id=true,.ifc t (.map n),(n,.mp m ks vs) :: H⟩:=rfl
def Akn (v:V) (n:Nat) (H:Hp):Out:=match v with
 | .map id => match hget H id with
   | .mp _ _ _=>⟨Af H id=true,.ptr n [],(n,.tup (.map id)) :: H⟩
   | _=>BR H
 | _=>BR H
def Ac0 (b:V) (id n:Nat) (H:Hp):Out:=match b with
 | .mp _ _ _=>⟨Af H id=true,.ptr n [],(n,.tup (.map id)) :: H⟩
 | _=>BR H
theorem Agi (id n:Nat) (H:Hp):Akn (.map id) n H=Ac0 (hget H id) id n H:=rfl
theorem YM (id n m:Nat) (ks vs:Nat→V) (H:Hp):Ac0 (.mp m ks vs) id n H=⟨Af H id=true,.ptr n [],(n,.tup (.map id)) :: H⟩:=rfl
theorem Abl (A:List V) (H:Hp) (n:Nat) (x:X):Ac A H n (.rng x)=Akn (x.ev A) n H:=rfl
def Anm (v:V) (H:Hp):Out:=match v with
 | .ptr id [] => match hget H id with
   | .tup (.map j) => match hget H j with
     | .mp m _ _=>⟨m=0∧Af H id=true∧Af H j=true,.tup (.fcons 0 (.bool false) .fnil),H⟩
     | _=>BR H
   | _=>BR H
 | _=>BR H
def Acs (b:V) (id:Nat) (H:Hp):Out:=match b with
 | .tup (.map j) => match hget H j with
   | .mp m _ _=>⟨m=0∧Af H id=true∧Af H j=true,.tup (.fcons 0 (.bool false) .fnil),H⟩
   | _=>BR H
 | _=>BR H
def Ac8 (b:V) (id j:Nat) (H:Hp):Out:=match b with
 | .mp m _ _=>⟨m=0∧Af H id=true∧Af H j=true,.tup (.fcons 0 (.bool false) .fnil),H⟩
 | _=>BR H
theorem Ad4 (id:Nat) (H:Hp):Anm (.ptr id []) H=Acs (hget H id) id H:=rfl
theorem Ab1 (id j:Nat) (H:Hp):Acs (.tup (.map j)) id H=Ac8 (hget H j) id j H:=rfl
theorem Z8 (id j m:Nat) (ks vs:Nat→V) (H:Hp):Ac8 (.mp m ks vs) id j H=⟨m=0∧Af H id=true∧Af H j=true,.tup (.fcons 0 (.bool false) .fnil),H⟩:=rfl
theorem Zb (A:List V) (H:Hp) (n:Nat) (x:X):Ac A H n (.nxt x)=Anm (x.ev A) H:=rfl
theorem Rp (A:List V) (H:Hp) (n:Nat) (x:X):Ac A H n (.mclone x)=ZT (x.ev A) n H:=rfl
theorem Abr (A:List V) (H:Hp) (n t:Nat) (x:X):Ac A H n (.tas t x)=(match x.ev A with | .ifc t' v=>⟨t'=t,v,H⟩ | _=>BR H):=rfl
def X5 (x i:V) (H:Hp):Out:=match x,i with
 | .str s,.int _ a=>⟨0≤a∧a < s.size,.int .u8 ((s[a.toNat]?).getD 0).toNat,H⟩
 | _,_=>BR H
theorem Aab (s:ByteArray) (k:IntKind) (a:Int) (H:Hp):X5 (.str s) (.int k a) H=⟨0≤a∧a < s.size,.int .u8 ((s[a.toNat]?).getD 0).toNat,H⟩:=rfl
theorem VJ (A:List V) (H:Hp) (n:Nat) (x y:X):Ac A H n (.sidx x y)=X5 (x.ev A) (y.ev A) H:=by
 simp only [Ac];generalize X.ev A x=u;generalize X.ev A y=v;cases u <;> cases v <;> rfl
def PZ (x y z:V) (H:Hp):Out:=match x,y,z with
 | .int .u64 a,.int .u64 b,.int .u64 c=>⟨0≤a∧0≤b∧0≤c∧c≤1,.tup (.fcons 0 (.int .u64 ((a + b + c) % 18446744073709551616)) (.fcons 1 (.int .u64 ((a + b + c) / 18446744073709551616)) .fnil)),H⟩
 | _,_,_=>BR H
def Xd (a b:BitVec 64):BitVec 64:=if a.toNat + b.toNat < 18446744073709551616 then 0#64 else 1#64
theorem OB (a b:BitVec 64) (H:Hp):PZ (W a) (W b) (.int .u64 0) H=⟨True,.tup (.fcons 0 (W (a + b)) (.fcons 1 (W (Xd a b)) .fnil)),H⟩:=by
 have ha:=a.isLt
 have hb:=b.isLt
 have e1:((a.toNat:Int) + b.toNat + 0) % 18446744073709551616=((a + b).toNat:Int):=by
  rw [BitVec.toNat_add];omega
 have e2:((a.toNat:Int) + b.toNat + 0) / 18446744073709551616=((Xd a b).toNat:Int):=by
  unfold Xd;split
  ·show _=((0:Nat):Int);omega
  ·show _=((1:Nat):Int);omega
 show (⟨_,_,_⟩:Out)=_
 simp only [W,e1,e2]
 congr 1
 exact eq_true ⟨by omega,by omega,by omega,by omega⟩
theorem U9 (A:List V) (H:Hp) (n:Nat) (x y z:X):Ac A H n (.add64 x y z)=PZ (x.ev A) (y.ev A) (z.ev A) H:=by
 simp only [Ac];generalize X.ev A x=u;generalize X.ev A y=v;generalize X.ev A z=w;cases u <;> cases v <;> cases w <;> rfl
def vmm (max:Bool) (x y:V) (H:Hp):Out:=match x,y with
 | .int k a,.int k' b=>⟨k=k',.int k (if max then (if a < b then b else a) else (if b < a then b else a)),H⟩
 | _,_=>BR H
theorem Aby (k:IntKind) (a b:Int) (H:Hp):vmm true (.int k a) (.int k b) H=⟨True,.int k (max a b),H⟩:=by
 have:max a b=if a < b then b else a:=Aa
 simp [vmm,this]
theorem Zc (k:IntKind) (a b:Int) (H:Hp):vmm false (.int k a) (.int k b) H=⟨True,.int k (min a b),H⟩:=by
 have:min a b=if b < a then b else a:=Aa
 simp [vmm,this]
theorem Aew (A:List V) (H:Hp) (n:Nat) (max:Bool) (x y:X):Ac A H n (.mm max x y)=vmm max (x.ev A) (y.ev A) H:=by
 simp only [Ac];generalize X.ev A x=u;generalize X.ev A y=v;cases u <;> cases v <;> rfl
def V9 (sz bytes:Nat) (z:Z) (n:Nat) (x y:V) (H:Hp):Out:=match x,y with
 | .int k a,.int k' b=>⟨k = .i64∧k' = .i64∧0≤a∧a≤b∧b * bytes≤2 ^ 47∧b < 2 ^ 47,.sl n [] 0 a.toNat sz,(n,.ar sz b.toNat (fun _=>z.v 0)) :: H⟩
 | _,_=>BR H
theorem Zu (sz bytes:Nat) (z:Z) (n:Nat) (a b:Int) (H:Hp):V9 sz bytes z n (.int .i64 a) (.int .i64 b) H=⟨0≤a∧a≤b∧b * bytes≤140737488355328∧b < 140737488355328,.sl n [] 0 a.toNat sz,(n,.ar sz b.toNat (fun _=>z.v 0)) :: H⟩:=by
 simp [V9]
theorem Yw (A:List V) (H:Hp) (n sz bytes:Nat) (z:Z) (l c:X):Ac A H n (.mksl sz bytes z l c)=V9 sz bytes z n (l.ev A) (c.ev A) H:=by
 simp only [Ac];generalize X.ev A l=u;generalize X.ev A c=v;cases u <;> cases v <;> rfl
def Wq (sz bytes n:Nat) (x y:V) (H:Hp):Out:=match x,CZ H y with
 | .nils,some (sz',m,g)=>⟨sz'=sz∧Ca H y∧0 < m∧m * bytes≤2 ^ 47,.sl n [] 0 m sz,(n,.ar sz m g) :: H⟩
 | .sl id p o l sz'', some (sz', m, g) =>
   match hget H id with
   | .ar _ l' f=>⟨(sz'=sz∧sz''=sz∧p=[]∧o=0)∧(Af H id=true∧(hget H id).solid=true∧(match hget H id with | .ar s _ _=>s=sz | _=>False)∧l≤l')∧Ca H y∧(l + m) * bytes≤2 ^ 47,
    .sl n [] 0 (l + m) sz,(n,.ar sz (l + m) (fun i=>if i < l then f i else g (i - l))) :: BL H id⟩
   | _=>BR H
 | _,_=>BR H
theorem Abh (A:List V) (H:Hp) (n sz bytes:Nat) (x y:X):Ac A H n (.app sz bytes x y)=Wq sz bytes n (x.ev A) (y.ev A) H:=rfl
def IG (sz bytes n:Nat) (x:V) (e:Option (Nat × Nat × (Nat→V))) (ok:Prop) (b:V) (H:Hp):Out:=match x,e with
 | .nils,some (sz',m,g)=>⟨sz'=sz∧ok∧0 < m∧m * bytes≤2 ^ 47,.sl n [] 0 m sz,(n,.ar sz m g) :: H⟩
 | .sl id p o l sz'', some (sz', m, g) =>
   match b with
   | .ar s l' f=>⟨(sz'=sz∧sz''=sz∧p=[]∧o=0)∧(Af H id=true∧s=sz∧l≤l')∧ok∧(l + m) * bytes≤2 ^ 47,
    .sl n [] 0 (l + m) sz,(n,.ar sz (l + m) (fun i=>if i < l then f i else g (i - l))) :: BL H id⟩
   | _=>BR H
 | _,_=>BR H
theorem Aeg (sz bytes n:Nat) (y:V) (H:Hp):Wq sz bytes n .nils y H=IG sz bytes n .nils (CZ H y) (Ca H y) .junk H:=by
 simp only [Wq,IG];cases CZ H y <;> rfl
theorem Ad3 (sz bytes n id:Nat) (p:List Stp) (o l sz'':Nat) (y:V) (H:Hp):Wq sz bytes n (.sl id p o l sz'') y H=IG sz bytes n (.sl id p o l sz'') (CZ H y) (Ca H y) (hget H id) H:=by
 simp only [Wq,IG]
 cases CZ H y with
 | none=>rfl
 | some q =>
   obtain ⟨a,b,c⟩:=q
   cases hu:hget H id <;> simp [hu,V.solid,BR]
theorem Z2 (sz bytes n sz' m:Nat) (g:Nat→V) (ok:Prop) (b:V) (H:Hp):IG sz bytes n .nils (some (sz',m,g)) ok b H=⟨sz'=sz∧ok∧0 < m∧m * bytes≤140737488355328,.sl n [] 0 m sz,(n,.ar sz m g) :: H⟩:=by simp [IG]
theorem Zr (sz bytes n id:Nat) (p:List Stp) (o l sz'' sz' m s l':Nat) (g f:Nat→V) (ok:Prop) (H:Hp):IG sz bytes n (.sl id p o l sz'') (some (sz',m,g)) ok (.ar s l' f) H =
 ⟨(sz'=sz∧sz''=sz∧p=[]∧o=0)∧(Af H id=true∧s=sz∧l≤l')∧ok∧(l + m) * bytes≤140737488355328,
  .sl n [] 0 (l + m) sz,(n,.ar sz (l + m) (fun i=>if i < l then f i else g (i - l))) :: BL H id⟩:=by simp [IG]
theorem Acg (H:Hp) (sz n:Nat) (f:Nat→V):CZ H (.lst sz n f)=some (sz,n,f):=rfl
def HS (o n sz:Nat) (b:V):Option (Nat × Nat × (Nat→V)):=match b with
 | .ar _ _ f=>some (sz,n,fun i=>f (o + i))
 | _=>none
theorem XJ (o n sz s m:Nat) (f:Nat→V):HS o n sz (.ar s m f)=some (sz,n,fun i=>f (o + i)):=rfl
theorem Sj (H:Hp) (id:Nat) (p:List Stp) (o n sz:Nat):CZ H (.sl id p o n sz)=HS o n sz ((hget H id).get p):=rfl
def GA (o n sz:Nat) (b:V):Prop:=match b with
 | .ar sz' m _=>sz'=sz∧o + n≤m
 | _=>False
theorem XQ (o n sz s m:Nat) (f:Nat→V):GA o n sz (.ar s m f)=(s=sz∧o + n≤m):=rfl
theorem TA (H:Hp) (sz n:Nat) (f:Nat→V):Ca H (.lst sz n f)=True:=rfl
theorem Me (H:Hp) (id:Nat) (p:List Stp) (o n sz:Nat):Ca H (.sl id p o n sz)=(Af H id=true∧(hget H id).solid=true∧(hget H id).ok p∧GA o n sz ((hget H id).get p)):=by
 simp only [Ca];rfl
theorem Ab8 (H:Hp):CZ H .nils=none:=rfl
def U7 (sz:Nat) (x y:V) (H:Hp):Out:=match x,CZ H y with
 | .sl id p o l sz'', some (sz', m, g) =>
   match (hget H id).get p with
   | .ar s l' f=>⟨(sz'=sz∧sz''=sz∧s=sz)∧(Af H id=true∧(hget H id).solid=true∧(hget H id).ok p∧GZ p=true∧o + l≤l')∧Ca H y,.int .i64 (min m l:Nat),
    Cs H id (V.set (.ar sz l' (fun i=>if o≤i∧i < o + min m l then g (i - o) else f i)) p (hget H id))⟩
   | _=>BR H
 | .sl _ _ _ _ _,none=>⟨match y with | .nils=>True | _=>False,.int .i64 0,H⟩
 | _,_=>BR H
theorem Yd (A:List V) (H:Hp) (n sz:Nat) (x y:X):Ac A H n (.copy sz x y)=U7 sz (x.ev A) (y.ev A) H:=rfl
def NR (sz id:Nat) (p:List Stp) (o l:Nat) (e:Option (Nat × Nat × (Nat→V))) (ok:Prop) (b:V) (H:Hp):Out:=match e,b with
 | some (sz',m,g),.ar s l' f=>⟨(sz'=sz∧s=sz)∧(Af H id=true∧(hget H id).solid=true∧(hget H id).ok p∧GZ p=true∧o + l≤l')∧ok,.int .i64 (min m l:Nat),
  Cs H id (V.set (.ar sz l' (fun i=>if o≤i∧i < o + min m l then g (i - o) else f i)) p (hget H id))⟩
 | none,_=>⟨False,.int .i64 0,H⟩
 | _,_=>BR H
theorem Acf (sz id:Nat) (p:List Stp) (o l sz'':Nat) (H:Hp):U7 sz (.sl id p o l sz'') .nils H=⟨True,.int .i64 0,H⟩:=rfl
theorem ZY (sz id:Nat) (p:List Stp) (o l n sz':Nat) (f:Nat→V) (H:Hp):U7 sz (.sl id p o l sz) (.lst sz' n f) H=NR sz id p o l (some (sz',n,f)) True ((hget H id).get p) H:=by
 simp only [U7,NR,CZ,Ca];cases hu:(hget H id).get p <;> simp [hu,BR]
theorem Abs (sz id:Nat) (p:List Stp) (o l id':Nat) (p':List Stp) (o' n sz':Nat) (H:Hp):U7 sz (.sl id p o l sz) (.sl id' p' o' n sz') H=NR sz id p o l (HS o' n sz' ((hget H id').get p')) (Af H id'=true∧(hget H id').solid=true∧(hget H id').ok p'∧GA o' n sz' ((hget H id').get p')) ((hget H id).get p) H:=by
 simp only [U7,NR,Sj,Me]
 cases HS o' n sz' ((hget H id').get p') with
 | none=>rfl
 | some q =>
   obtain ⟨a,b,c⟩:=q
   cases hu:(hget H id).get p <;> simp [hu,BR]
theorem YW (sz id:Nat) (p:List Stp) (o l sz' m:Nat) (g:Nat→V) (ok:Prop) (s l':Nat) (f:Nat→V) (H:Hp):NR sz id p o l (some (sz',m,g)) ok (.ar s l' f) H =
 ⟨(sz'=sz∧s=sz)∧(Af H id=true∧(hget H id).solid=true∧(hget H id).ok p∧GZ p=true∧o + l≤l')∧ok,.int .i64 (min m l:Nat),
  Cs H id (V.set (.ar sz l' (fun i=>if o≤i∧i < o + min m l then g (i - o) else f i)) p (hget H id))⟩:=rfl
end Mv
