/- A part. -/
import Derived.Test.YtlfkjfonpacelaaGreatDoorEP
set_option linter.all false
namespace Mv
open Go
def vpk (c a b:V) (H:Hp):Out:=match c with | .bool t=>⟨True,FF t a b,H⟩ | _=>BR H
theorem Am0 (t:Bool) (a b:V) (H:Hp):vpk (.bool t) a b H=⟨True,FF t a b,H⟩:=rfl
theorem Wj (A:List V) (H:Hp) (n:Nat) (c a b:X):Ae A H n (.pick c a b)=vpk (c.ev A) (a.ev A) (b.ev A) H:=rfl
theorem Abv (a b:Bool):FF true (.bool a) (.bool b) = .bool a:=rfl
theorem Acb (a b:Bool):FF false (.bool a) (.bool b) = .bool b:=rfl
theorem VW (a:Bool) (v:V):FF true (.bool a) (.tup v) = .bool a:=rfl
theorem X5 (b:Bool) (v:V):FF false (.tup v) (.bool b) = .bool b:=rfl
theorem YU (t a b:Bool):FF t (.bool a) (.bool b) = .bool (bif t then a else b):=rfl
theorem Aff (A:List V) (H:Hp) (n:Nat) (x:X):Ae A H n (.mv x)=⟨True,x.ev A,H⟩:=rfl
theorem Ac9 (A:List V) (H:Hp) (n:Nat) (op:BinOp) (x y:X):Ae A H n (.ari op x y)=AX op (x.ev A) (y.ev A) H:=rfl
theorem Ai9 (A:List V) (H:Hp) (n:Nat) (op:UnOp) (x:X):Ae A H n (.un op x)=Vv op (x.ev A) H:=rfl
theorem Ah3 (A:List V) (H:Hp) (n:Nat) (neg c:Bool) (s:ES) (x y:X):Ae A H n (.eq neg c s x y)=⟨AI c s (x.ev A) (y.ev A),.bool (neg ^^ AL s (x.ev A) (y.ev A)),H⟩:=rfl
theorem Vl (A:List V) (H:Hp) (n:Nat) (z:Z):Ae A H n (.alloc z)=⟨True,.ptr n [],(n,z.v 0) :: H⟩:=rfl
theorem Acw (A:List V) (H:Hp) (n:Nat) (x:X):Ae A H n (.box x)=⟨(x.ev A).solid=true,.ptr n [],(n,x.ev A) :: H⟩:=rfl
theorem U3 (A:List V) (H:Hp) (n:Nat) (z:Z) (ps:List (Stp × Nat × X)):Ae A H n (.build z ps)=⟨BE (z.v 0) A ps,Cy (z.v 0) A ps,H⟩:=rfl
theorem Aci (A:List V) (H:Hp) (n sz m:Nat) (z:Z) (ps:List (Stp × Nat × X)):Ae A H n (.bsl sz m z ps)=⟨BE (.ar sz m (fun _=>z.v 0)) A ps,.sl n [] 0 m sz,(n,Cy (.ar sz m (fun _=>z.v 0)) A ps) :: H⟩:=rfl
def Xw (agg:Bool) (sz:Nat) (x:V) (H:Hp):Out:=match x with
 | .ptr id p=>⟨(Ac H id=true∧(hget H id).solid=true∧(hget H id).ok p)∧((hget H id).get p).solid=true∧((hget H id).get p).size=sz∧((hget H id).get p).isAgg=agg,(hget H id).get p,H⟩
 | .imm v=>⟨v.solid=true∧v.size=sz∧v.isAgg=agg,v,H⟩
 | _=>BR H
theorem Abn (agg:Bool) (sz id:Nat) (p:List Stp) (H:Hp):Xw agg sz (.ptr id p) H=⟨(Ac H id=true∧(hget H id).solid=true∧(hget H id).ok p)∧((hget H id).get p).solid=true∧((hget H id).get p).size=sz∧((hget H id).get p).isAgg=agg,(hget H id).get p,H⟩:=rfl
theorem Z7 (agg:Bool) (sz:Nat) (v:V) (H:Hp):Xw agg sz (.imm v) H=⟨v.solid=true∧v.size=sz∧v.isAgg=agg,v,H⟩:=rfl
theorem Yf (A:List V) (H:Hp) (n:Nat) (agg:Bool) (sz:Nat) (x:X):Ae A H n (.load agg sz x)=Xw agg sz (x.ev A) H:=by
 simp only [Ae];generalize X.ev A x=u;cases u <;> rfl
def Ws (sz:Nat) (x y:V) (H:Hp):Out:=match x with
 | .ptr id p=>⟨(Ac H id=true∧(hget H id).solid=true∧(hget H id).ok p∧Hu p=true)∧y.solid=true∧y.size=sz∧((hget H id).get p).size=sz,.tup .fnil,Co H id (V.set y p (hget H id))⟩
 | _=>BR H
theorem YL (sz id:Nat) (p:List Stp) (y:V) (H:Hp):Ws sz (.ptr id p) y H=⟨(Ac H id=true∧(hget H id).solid=true∧(hget H id).ok p∧Hu p=true)∧y.solid=true∧y.size=sz∧((hget H id).get p).size=sz,.tup .fnil,Co H id (V.set y p (hget H id))⟩:=rfl
theorem UM (A:List V) (H:Hp) (n:Nat) (sz:Nat) (x y:X):Ae A H n (.store sz x y)=Ws sz (x.ev A) (y.ev A) H:=by
 simp only [Ae];generalize X.ev A x=u;generalize X.ev A y=v;cases u <;> cases v <;> rfl
def Qq (x:V) (H:Hp):Out:=match x with
 | .ptr id p=>⟨True,.ptr id p,H⟩
 | .imm v=>⟨True,.imm v,H⟩
 | .fn f c=>⟨f < 1000000,.fn f c,H⟩
 | .ifc t v=>⟨True,.ifc t v,H⟩
 | _=>BR H
theorem Abe (id:Nat) (p:List Stp) (H:Hp):Qq (.ptr id p) H=⟨True,.ptr id p,H⟩:=rfl
theorem Aaq (v:V) (H:Hp):Qq (.imm v) H=⟨True,.imm v,H⟩:=rfl
theorem Ab0 (f:Nat) (c:V) (H:Hp):Qq (.fn f c) H=⟨f < 1000000,.fn f c,H⟩:=rfl
theorem Aac (t:Nat) (v:V) (H:Hp):Qq (.ifc t v) H=⟨True,.ifc t v,H⟩:=rfl
theorem Yk (A:List V) (H:Hp) (n:Nat) (x:X):Ae A H n (.nilc x)=Qq (x.ev A) H:=by
 simp only [Ae];generalize X.ev A x=u;cases u <;> rfl
def YV (off:Nat) (x:V) (H:Hp):Out:=match x with
 | .ptr id p=>⟨True,.ptr id (Di p (.f off)),H⟩
 | .imm v=>⟨v.solid=true∧v.ok [.f off],.imm (v.get [.f off]),H⟩
 | _=>BR H
theorem Acl (off id:Nat) (p:List Stp) (H:Hp):YV off (.ptr id p) H=⟨True,.ptr id (Di p (.f off)),H⟩:=rfl
theorem Adh (off:Nat) (v:V) (H:Hp):YV off (.imm v) H=⟨v.solid=true∧v.ok [.f off],.imm (v.get [.f off]),H⟩:=rfl
theorem W3 (A:List V) (H:Hp) (n off:Nat) (x:X):Ae A H n (.fadr off x)=YV off (x.ev A) H:=by
 simp only [Ae];generalize X.ev A x=u;cases u <;> rfl
def Kn (m sz:Nat) (x i:V) (H:Hp):Out:=match x,i with
 | .ptr id p,.int _ a=>⟨0≤a∧a < m,.ptr id (Di p (.i sz a.toNat)),H⟩
 | .imm v,.int _ a=>⟨(0≤a∧a < m)∧v.solid=true∧v.ok [.i sz a.toNat],.imm (v.get [.i sz a.toNat]),H⟩
 | _,_=>BR H
theorem Aar (m sz id:Nat) (p:List Stp) (k:IntKind) (a:Int) (H:Hp):Kn m sz (.ptr id p) (.int k a) H=⟨0≤a∧a < m,.ptr id (Di p (.i sz a.toNat)),H⟩:=rfl
theorem Yi (m sz id:Nat) (p:List Stp) (w:BitVec 64) (H:Hp):Kn m sz (.ptr id p) (W w) H=⟨w.toNat < m,.ptr id (Di p (.i sz w.toNat)),H⟩:=by
 simp only [Kn,Lcd];congr 1;rw [eq_iff_iff];omega
theorem ZV (m sz:Nat) (v:V) (k:IntKind) (a:Int) (H:Hp):Kn m sz (.imm v) (.int k a) H=⟨(0≤a∧a < m)∧v.solid=true∧v.ok [.i sz a.toNat],.imm (v.get [.i sz a.toNat]),H⟩:=rfl
theorem Xk (m sz:Nat) (v:V) (w:BitVec 64) (H:Hp):Kn m sz (.imm v) (W w) H=⟨w.toNat < m∧v.solid=true∧v.ok [.i sz w.toNat],.imm (v.get [.i sz w.toNat]),H⟩:=by
 simp only [Kn,Lcd];congr 2;rw [eq_iff_iff];omega
theorem WP (A:List V) (H:Hp) (n m sz:Nat) (x i:X):Ae A H n (.iarr m sz x i)=Kn m sz (x.ev A) (i.ev A) H:=by
 simp only [Ae];generalize X.ev A x=u;generalize X.ev A i=v;cases u <;> cases v <;> rfl
def RB (sz:Nat) (x i:V) (H:Hp):Out:=match x,i with
 | .sl id p o m sz',.int _ a=>⟨(0≤a∧a < m)∧sz'=sz,.ptr id (Di p (.i sz (o + a.toNat))),H⟩
 | .lst sz' m f,.int _ a=>⟨(0≤a∧a < m)∧sz'=sz,.imm (f a.toNat),H⟩
 | _,_=>BR H
theorem Ahm (sz id:Nat) (p:List Stp) (o m sz':Nat) (k:IntKind) (a:Int) (H:Hp):RB sz (.sl id p o m sz') (.int k a) H=⟨(0≤a∧a < m)∧sz'=sz,.ptr id (Di p (.i sz (o + a.toNat))),H⟩:=rfl
theorem Acn (sz id:Nat) (p:List Stp) (o m sz':Nat) (w:BitVec 64) (H:Hp):RB sz (.sl id p o m sz') (W w) H=⟨w.toNat < m∧sz'=sz,.ptr id (Di p (.i sz (o + w.toNat))),H⟩:=by
 simp only [RB,Lcd];congr 2;rw [eq_iff_iff];omega
theorem Ag6 (sz sz' m:Nat) (f:Nat→V) (k:IntKind) (a:Int) (H:Hp):RB sz (.lst sz' m f) (.int k a) H=⟨(0≤a∧a < m)∧sz'=sz,.imm (f a.toNat),H⟩:=rfl
theorem ZD (sz sz' m:Nat) (f:Nat→V) (w:BitVec 64) (H:Hp):RB sz (.lst sz' m f) (W w) H=⟨w.toNat < m∧sz'=sz,.imm (f w.toNat),H⟩:=by
 simp only [RB,Lcd];congr 2;rw [eq_iff_iff];omega
theorem Acx (A:List V) (H:Hp) (n sz:Nat) (x i:X):Ae A H n (.isl sz x i)=RB sz (x.ev A) (i.ev A) H:=by
 simp only [Ae];generalize X.ev A x=u;generalize X.ev A i=v;cases u <;> cases v <;> rfl
def Aax (m sz:Nat) (agg:Bool) (x i:V) (H:Hp):Out:=match x,i with
 | .ar sz' m' f,.int _ a=>⟨(0≤a∧a < m)∧sz'=sz∧m'=m∧(f a.toNat).isAgg=agg,f a.toNat,H⟩
 | _,_=>BR H
theorem Afi (m sz:Nat) (agg:Bool) (sz' m':Nat) (f:Nat→V) (k:IntKind) (a:Int) (H:Hp):Aax m sz agg (.ar sz' m' f) (.int k a) H=⟨(0≤a∧a < m)∧sz'=sz∧m'=m∧(f a.toNat).isAgg=agg,f a.toNat,H⟩:=rfl
theorem Aa0 (m sz:Nat) (agg:Bool) (sz' m':Nat) (f:Nat→V) (w:BitVec 64) (H:Hp):Aax m sz agg (.ar sz' m' f) (W w) H=⟨w.toNat < m∧sz'=sz∧m'=m∧(f w.toNat).isAgg=agg,f w.toNat,H⟩:=by
 simp only [Aax,Lcd];congr 2;rw [eq_iff_iff];omega
theorem Acy (A:List V) (H:Hp) (n m sz:Nat) (agg:Bool) (x i:X):Ae A H n (.idx m sz agg x i)=Aax m sz agg (x.ev A) (i.ev A) H:=by
 simp only [Ae];generalize X.ev A x=u;generalize X.ev A i=v;cases u <;> cases v <;> rfl
def Alm (off sz:Nat) (agg:Bool) (x:V) (H:Hp):Out:=match x with
 | .st _ fs=>⟨fs.fhas off=true∧(fs.fget off).solid=true∧(fs.fget off).size=sz∧(fs.fget off).isAgg=agg,fs.fget off,H⟩
 | _=>BR H
theorem Aii (off sz:Nat) (agg:Bool) (m:Nat) (fs:V) (H:Hp):Alm off sz agg (.st m fs) H=⟨fs.fhas off=true∧(fs.fget off).solid=true∧(fs.fget off).size=sz∧(fs.fget off).isAgg=agg,fs.fget off,H⟩:=rfl
theorem Zt (A:List V) (H:Hp) (n off sz:Nat) (agg:Bool) (x:X):Ae A H n (.fld off sz agg x)=Alm off sz agg (x.ev A) H:=by
 simp only [Ae];generalize X.ev A x=u;cases u <;> rfl
def CQ (d:Int):Option V→Int
 | none=>d
 | some (.int _ n)=>n
 | _=>-1
def DI:Option V→Prop
 | none=>True
 | some (.int _ _)=>True
 | _=>False
theorem Al1 (d:Int):CQ d none=d:=rfl
theorem An3 (d:Int) (k:IntKind) (n:Int):CQ d (some (.int k n))=n:=rfl
theorem Am3 (d:Int) (w:BitVec 64):CQ d (some (W w))=(w.toNat:Int):=rfl
theorem Ag5:DI none=True:=rfl
theorem Ae8 (k:IntKind) (n:Int):DI (some (.int k n))=True:=rfl
theorem Agr (w:BitVec 64):DI (some (W w))=True:=rfl
theorem OR (A:List V) (d:Int) (x:Option X):AC A d x=CQ d (x.map (X.ev A)):=by
 cases x with
 | none=>rfl
 | some x=>simp only [AC,Option.map,CQ];split <;> simp_all
theorem Kv (A:List V) (x:Option X):BQ A x=DI (x.map (X.ev A)):=by
 cases x with
 | none=>rfl
 | some x=>simp only [BQ,Qj,Option.map,DI];split <;> simp_all
def Oa (m sz:Nat) (x:V) (lo hi:Option V) (H:Hp):Out:=match x with
 | .ptr id p=>⟨(DI lo∧DI hi∧0≤CQ 0 lo∧CQ 0 lo≤CQ m hi∧CQ m hi≤m)∧Ac H id=true∧(hget H id).solid=true∧(hget H id).ok p∧(match (hget H id).get p with | .ar sz' m' _=>sz'=sz∧m'=m | _=>False),
  .sl id p (CQ 0 lo).toNat ((CQ m hi).toNat - (CQ 0 lo).toNat) sz,H⟩
 | .imm v => match v with
   | .ar sz' m' f=>⟨(DI lo∧DI hi∧0≤CQ 0 lo∧CQ 0 lo≤CQ m hi∧CQ m hi≤m)∧sz'=sz∧m'=m,.lst sz ((CQ m hi).toNat - (CQ 0 lo).toNat) (fun i=>f ((CQ 0 lo).toNat + i)),H⟩
   | _=>BR H
 | _=>BR H
def Vq (sz m:Nat):V→Prop
 | .ar sz' m' _=>sz'=sz∧m'=m
 | _=>False
theorem Ail (sz m sz' m':Nat) (f:Nat→V):Vq sz m (.ar sz' m' f)=(sz'=sz∧m'=m):=rfl
theorem X2 (m sz id:Nat) (p:List Stp) (lo hi:Option V) (H:Hp):Oa m sz (.ptr id p) lo hi H=⟨(DI lo∧DI hi∧0≤CQ 0 lo∧CQ 0 lo≤CQ m hi∧CQ m hi≤m)∧Ac H id=true∧(hget H id).solid=true∧(hget H id).ok p∧Vq sz m ((hget H id).get p),
 .sl id p (CQ 0 lo).toNat ((CQ m hi).toNat - (CQ 0 lo).toNat) sz,H⟩:=by
 simp only [Oa];congr 5
theorem Xv (m sz sz' m':Nat) (f:Nat→V) (lo hi:Option V) (H:Hp):Oa m sz (.imm (.ar sz' m' f)) lo hi H=⟨(DI lo∧DI hi∧0≤CQ 0 lo∧CQ 0 lo≤CQ m hi∧CQ m hi≤m)∧sz'=sz∧m'=m,.lst sz ((CQ m hi).toNat - (CQ 0 lo).toNat) (fun i=>f ((CQ 0 lo).toNat + i)),H⟩:=rfl
theorem T9 (A:List V) (H:Hp) (n m sz:Nat) (x:X) (lo hi:Option X):Ae A H n (.slarr m sz x lo hi)=Oa m sz (x.ev A) (lo.map (X.ev A)) (hi.map (X.ev A)) H:=by
 simp only [Ae,OR,Kv];generalize X.ev A x=u
 cases u <;> first | rfl | (rename_i v;cases v <;> rfl)
def SK (sz:Nat) (x:V) (lo hi:Option V) (H:Hp):Out:=match x with
 | .sl id p o m sz'=>⟨(DI lo∧DI hi∧0≤CQ 0 lo∧CQ 0 lo≤CQ m hi∧CQ m hi≤m)∧sz'=sz,.sl id p (o + (CQ 0 lo).toNat) ((CQ m hi).toNat - (CQ 0 lo).toNat) sz,H⟩
 | .lst sz' m f=>⟨(DI lo∧DI hi∧0≤CQ 0 lo∧CQ 0 lo≤CQ m hi∧CQ m hi≤m)∧sz'=sz,.lst sz ((CQ m hi).toNat - (CQ 0 lo).toNat) (fun i=>f ((CQ 0 lo).toNat + i)),H⟩
 | .nils=>⟨DI lo∧DI hi∧CQ 0 lo=0∧CQ 0 hi=0,.nils,H⟩
 | _=>BR H
theorem Abw (sz id:Nat) (p:List Stp) (o m sz':Nat) (lo hi:Option V) (H:Hp):SK sz (.sl id p o m sz') lo hi H=⟨(DI lo∧DI hi∧0≤CQ 0 lo∧CQ 0 lo≤CQ m hi∧CQ m hi≤m)∧sz'=sz,.sl id p (o + (CQ 0 lo).toNat) ((CQ m hi).toNat - (CQ 0 lo).toNat) sz,H⟩:=rfl
theorem Aa9 (sz sz' m:Nat) (f:Nat→V) (lo hi:Option V) (H:Hp):SK sz (.lst sz' m f) lo hi H=⟨(DI lo∧DI hi∧0≤CQ 0 lo∧CQ 0 lo≤CQ m hi∧CQ m hi≤m)∧sz'=sz,.lst sz ((CQ m hi).toNat - (CQ 0 lo).toNat) (fun i=>f ((CQ 0 lo).toNat + i)),H⟩:=rfl
theorem Abu (sz:Nat) (lo hi:Option V) (H:Hp):SK sz .nils lo hi H=⟨DI lo∧DI hi∧CQ 0 lo=0∧CQ 0 hi=0,.nils,H⟩:=rfl
theorem Wa (A:List V) (H:Hp) (n sz:Nat) (x:X) (lo hi:Option X):Ae A H n (.slsl sz x lo hi)=SK sz (x.ev A) (lo.map (X.ev A)) (hi.map (X.ev A)) H:=by
 simp only [Ae,OR,Kv];generalize X.ev A x=u;cases u <;> rfl
def Aeb (m sz:Nat) (x:V) (H:Hp):Out:=match x with
 | .sl id p o l sz'=>⟨(sz'=sz∧m≤l∧0 < m),.ptr id (Di p (.r sz o m)),H⟩
 | .lst sz' l f=>⟨sz'=sz∧m≤l∧0 < m,.imm (.ar sz m f),H⟩
 | _=>BR H
theorem Ae9 (m sz id:Nat) (p:List Stp) (o l sz':Nat) (H:Hp):Aeb m sz (.sl id p o l sz') H=⟨(sz'=sz∧m≤l∧0 < m),.ptr id (Di p (.r sz o m)),H⟩:=rfl
theorem Aeu (m sz sz' l:Nat) (f:Nat→V) (H:Hp):Aeb m sz (.lst sz' l f) H=⟨sz'=sz∧m≤l∧0 < m,.imm (.ar sz m f),H⟩:=rfl
theorem Ac5 (A:List V) (H:Hp) (n m sz:Nat) (x:X):Ae A H n (.s2a m sz x)=Aeb m sz (x.ev A) H:=by
 simp only [Ae];generalize X.ev A x=u;cases u <;> rfl
theorem XL (A:List V) (H:Hp) (n t:Nat) (x:X):Ae A H n (.mkif t x)=⟨(x.ev A).solid=true,.ifc t (x.ev A),H⟩:=rfl
def Ak7 (x:V) (i:Nat) (H:Hp):Out:=match x with
 | .tup fs=>⟨fs.fhas i=true,fs.fget i,H⟩
 | _=>BR H
theorem Ahr (fs:V) (i:Nat) (H:Hp):Ak7 (.tup fs) i H=⟨fs.fhas i=true,fs.fget i,H⟩:=rfl
theorem Acv (A:List V) (H:Hp) (n:Nat) (x:X) (i:Nat):Ae A H n (.ext x i)=Ak7 (x.ev A) i H:=by
 simp only [Ae];generalize X.ev A x=u;cases u <;> rfl
def OW (k:Nat) (x:V) (H:Hp):Out:=match k,x with
 | 0,.sl _ _ _ m _=>⟨True,.int .i64 m,H⟩
 | 0,.lst _ m _=>⟨True,.int .i64 m,H⟩
 | 0,.nils=>⟨True,.int .i64 0,H⟩
 | 1,.str s=>⟨True,.int .i64 s.size,H⟩
 | 2,.nilm=>⟨True,.int .i64 0,H⟩
 | 2, .map id => match hget H id with
   | .mp m _ _=>⟨Ac H id=true,.int .i64 m,H⟩
   | _=>BR H
 | _,_=>BR H
theorem Aiw (id:Nat) (p:List Stp) (o m sz:Nat) (H:Hp):OW 0 (.sl id p o m sz) H=⟨True,.int .i64 m,H⟩:=rfl
theorem Afh (sz m:Nat) (f:Nat→V) (H:Hp):OW 0 (.lst sz m f) H=⟨True,.int .i64 m,H⟩:=rfl
theorem Agh (H:Hp):OW 0 .nils H=⟨True,.int .i64 0,H⟩:=rfl
theorem Y9 (s:ByteArray) (H:Hp):OW 1 (.str s) H=⟨True,.int .i64 s.size,H⟩:=rfl
theorem Ab8 (H:Hp):OW 2 .nilm H=⟨True,.int .i64 0,H⟩:=rfl
theorem Adi (A:List V) (H:Hp) (n k:Nat) (x:X):Ae A H n (.len k x)=OW k (x.ev A) H:=by
 simp only [Ae];generalize X.ev A x=u;rcases k with _ | _ | _ | k <;> cases u <;> rfl
theorem XO (A:List V) (H:Hp) (n f:Nat) (caps:List X):Ae A H n (.mkfn f caps)=⟨CT A caps,.fn f (.st caps.length (Eb A caps 0)),H⟩:=rfl
theorem Vn (A:List V) (H:Hp) (n k:Nat) (x:X):Ae A H n (.mkmth k x)=(match x.ev A with | .ifc t v=>⟨True,.fn (1000000 + k) (.st 1 (.fcons 0 (.ifc t v) .fnil)),H⟩ | _=>BR H):=rfl
theorem VD (A:List V) (H:Hp) (n k:Nat) (ts:List Nat) (x:X):Ae A H n (.nilm k ts x)=(match x.ev A with | .fn f (.st m (.fcons j (.ifc t v) r))=>⟨f=1000000 + k∧t ∈ ts∧m=1∧j=0,.fn f (.st m (.fcons j (.ifc t v) r)),H⟩ | _=>BR H):=rfl
def Aa3 (v:V) (n:Nat) (H:Hp):Out:=match v with
 | .ifc t (.map id) => match hget H id with
   | .mp m ks vs=>⟨Ac H id=true,.ifc t (.map n),(n,.mp m ks vs) :: H⟩
   | _=>BR H
 | .ifc t (.fm m ks vs)=>⟨True,.ifc t (.map n),(n,.mp m ks vs) :: H⟩
 | _=>BR H
def Xf (b:V) (t id n:Nat) (H:Hp):Out:=match b with
 | .mp m ks vs=>⟨Ac H id=true,.ifc t (.map n),(n,.mp m ks vs) :: H⟩
 | _=>BR H
theorem Ago (t id n:Nat) (H:Hp):Aa3 (.ifc t (.map id)) n H=Xf (hget H id) t id n H:=rfl
theorem Aif (t n m:Nat) (ks vs:Nat→V) (H:Hp):Aa3 (.ifc t (.fm m ks vs)) n H=⟨True,.ifc t (.map n),(n,.mp m ks vs) :: H⟩:=rfl
theorem Z9 (t id n m:Nat) (ks vs:Nat→V) (H:Hp):Xf (.mp m ks vs) t id n H=⟨Ac H id=true,.ifc t (.map n),(n,.mp m ks vs) :: H⟩:=rfl
def Ajv (v:V) (n:Nat) (H:Hp):Out:=match v with
 | .map id => match hget H id with
   | .mp _ _ _=>⟨Ac H id=true,.ptr n [],(n,.tup (.map id)) :: H⟩
   | _=>BR H
 | _=>BR H
def Ad1 (b:V) (id n:Nat) (H:Hp):Out:=match b with
 | .mp _ _ _=>⟨Ac H id=true,.ptr n [],(n,.tup (.map id)) :: H⟩
 | _=>BR H
theorem Afx (id n:Nat) (H:Hp):Ajv (.map id) n H=Ad1 (hget H id) id n H:=rfl
theorem Acm (id n m:Nat) (ks vs:Nat→V) (H:Hp):Ad1 (.mp m ks vs) id n H=⟨Ac H id=true,.ptr n [],(n,.tup (.map id)) :: H⟩:=rfl
theorem Abq (A:List V) (H:Hp) (n:Nat) (x:X):Ae A H n (.rng x)=Ajv (x.ev A) n H:=rfl
def Alc (v:V) (H:Hp):Out:=match v with
 | .ptr id [] => match hget H id with
   | .tup (.map j) => match hget H j with
     | .mp m _ _=>⟨m=0∧Ac H id=true∧Ac H j=true,.tup (.fcons 0 (.bool false) .fnil),H⟩
     | _=>BR H
   | _=>BR H
 | _=>BR H
def Ad3 (b:V) (id:Nat) (H:Hp):Out:=match b with
 | .tup (.map j) => match hget H j with
   | .mp m _ _=>⟨m=0∧Ac H id=true∧Ac H j=true,.tup (.fcons 0 (.bool false) .fnil),H⟩
   | _=>BR H
 | _=>BR H
def Ado (b:V) (id j:Nat) (H:Hp):Out:=match b with
 | .mp m _ _=>⟨m=0∧Ac H id=true∧Ac H j=true,.tup (.fcons 0 (.bool false) .fnil),H⟩
 | _=>BR H
theorem Ag7 (id:Nat) (H:Hp):Alc (.ptr id []) H=Ad3 (hget H id) id H:=rfl
theorem Abd (id j:Nat) (H:Hp):Ad3 (.tup (.map j)) id H=Ado (hget H j) id j H:=rfl
theorem ZO (id j m:Nat) (ks vs:Nat→V) (H:Hp):Ado (.mp m ks vs) id j H=⟨m=0∧Ac H id=true∧Ac H j=true,.tup (.fcons 0 (.bool false) .fnil),H⟩:=rfl
theorem Aby (A:List V) (H:Hp) (n:Nat) (x:X):Ae A H n (.nxt x)=Alc (x.ev A) H:=rfl
theorem R6 (A:List V) (H:Hp) (n:Nat) (x:X):Ae A H n (.mclone x)=Aa3 (x.ev A) n H:=rfl
theorem Ab2 (A:List V) (H:Hp) (n t:Nat) (x:X):Ae A H n (.tas t x)=(match x.ev A with | .ifc t' v=>⟨t'=t,v,H⟩ | _=>BR H):=rfl
def XS (x i:V) (H:Hp):Out:=match x,i with
 | .str s,.int _ a=>⟨0≤a∧a < s.size,.int .u8 ((s[a.toNat]?).getD 0).toNat,H⟩
 | _,_=>BR H
theorem Z8 (s:ByteArray) (k:IntKind) (a:Int) (H:Hp):XS (.str s) (.int k a) H=⟨0≤a∧a < s.size,.int .u8 ((s[a.toNat]?).getD 0).toNat,H⟩:=rfl
theorem W5 (A:List V) (H:Hp) (n:Nat) (x y:X):Ae A H n (.sidx x y)=XS (x.ev A) (y.ev A) H:=by
 simp only [Ae];generalize X.ev A x=u;generalize X.ev A y=v;cases u <;> cases v <;> rfl
def QE (x y z:V) (H:Hp):Out:=match x,y,z with
 | .int .u64 a,.int .u64 b,.int .u64 c=>⟨0≤a∧0≤b∧0≤c∧c≤1,.tup (.fcons 0 (.int .u64 ((a + b + c) % 18446744073709551616)) (.fcons 1 (.int .u64 ((a + b + c) / 18446744073709551616)) .fnil)),H⟩
 | _,_,_=>BR H
def XM (a b:BitVec 64):BitVec 64:=if a.toNat + b.toNat < 18446744073709551616 then 0#64 else 1#64
theorem Qa (a b:BitVec 64) (H:Hp):QE (W a) (W b) (.int .u64 0) H=⟨True,.tup (.fcons 0 (W (a + b)) (.fcons 1 (W (XM a b)) .fnil)),H⟩:=by
 have ha:=a.isLt
 have hb:=b.isLt
 have e1:((a.toNat:Int) + b.toNat + 0) % 18446744073709551616=((a + b).toNat:Int):=by
  rw [BitVec.toNat_add];omega
 have e2:((a.toNat:Int) + b.toNat + 0) / 18446744073709551616=((XM a b).toNat:Int):=by
  unfold XM;split
  ·show _=((0:Nat):Int);omega
  ·show _=((1:Nat):Int);omega
 show (⟨_,_,_⟩:Out)=_
 simp only [W,e1,e2]
 congr 1
 exact eq_true ⟨by omega,by omega,by omega,by omega⟩
theorem TZ (A:List V) (H:Hp) (n:Nat) (x y z:X):Ae A H n (.add64 x y z)=QE (x.ev A) (y.ev A) (z.ev A) H:=by
 simp only [Ae];generalize X.ev A x=u;generalize X.ev A y=v;generalize X.ev A z=w;cases u <;> cases v <;> cases w <;> rfl
def vmm (max:Bool) (x y:V) (H:Hp):Out:=match x,y with
 | .int k a,.int k' b=>⟨k=k',.int k (if max then (if a < b then b else a) else (if b < a then b else a)),H⟩
 | _,_=>BR H
theorem Adk (k:IntKind) (a b:Int) (H:Hp):vmm true (.int k a) (.int k b) H=⟨True,.int k (max a b),H⟩:=by
 have:max a b=if a < b then b else a:=Aa
 simp [vmm,this]
theorem Zp (k:IntKind) (a b:Int) (H:Hp):vmm false (.int k a) (.int k b) H=⟨True,.int k (min a b),H⟩:=by
 have:min a b=if b < a then b else a:=Aa
 simp [vmm,this]
theorem Ait (A:List V) (H:Hp) (n:Nat) (max:Bool) (x y:X):Ae A H n (.mm max x y)=vmm max (x.ev A) (y.ev A) H:=by
 simp only [Ae];generalize X.ev A x=u;generalize X.ev A y=v;cases u <;> cases v <;> rfl
def Yq (sz bytes:Nat) (z:Z) (n:Nat) (x y:V) (H:Hp):Out:=match x,y with
 | .int k a,.int k' b=>⟨k = .i64∧k' = .i64∧0≤a∧a≤b∧b * bytes≤2 ^ 47∧b < 2 ^ 47,.sl n [] 0 a.toNat sz,(n,.ar sz b.toNat (fun _=>z.v 0)) :: H⟩
 | _,_=>BR H
theorem Ac6 (sz bytes:Nat) (z:Z) (n:Nat) (a b:Int) (H:Hp):Yq sz bytes z n (.int .i64 a) (.int .i64 b) H=⟨0≤a∧a≤b∧b * bytes≤140737488355328∧b < 140737488355328,.sl n [] 0 a.toNat sz,(n,.ar sz b.toNat (fun _=>z.v 0)) :: H⟩:=by
 simp [Yq]
theorem VK (A:List V) (H:Hp) (n sz bytes:Nat) (z:Z) (l c:X):Ae A H n (.mksl sz bytes z l c)=Yq sz bytes z n (l.ev A) (c.ev A) H:=by
 simp only [Ae];generalize X.ev A l=u;generalize X.ev A c=v;cases u <;> cases v <;> rfl
def V3 (sz bytes n:Nat) (x y:V) (H:Hp):Out:=match x,Da H y with
 | .nils,some (sz',m,g)=>⟨sz'=sz∧BZ H y∧0 < m∧m * bytes≤2 ^ 47,.sl n [] 0 m sz,(n,.ar sz m g) :: H⟩
 | .sl id p o l sz'', some (sz', m, g) =>
   match hget H id with
   | .ar _ l' f=>⟨(sz'=sz∧sz''=sz∧p=[]∧o=0)∧(Ac H id=true∧(hget H id).solid=true∧(match hget H id with | .ar s _ _=>s=sz | _=>False)∧l≤l')∧BZ H y∧(l + m) * bytes≤2 ^ 47,
    .sl n [] 0 (l + m) sz,(n,.ar sz (l + m) (fun i=>if i < l then f i else g (i - l))) :: BJ H id⟩
   | _=>BR H
 | _,_=>BR H
theorem Aaj (A:List V) (H:Hp) (n sz bytes:Nat) (x y:X):Ae A H n (.app sz bytes x y)=V3 sz bytes n (x.ev A) (y.ev A) H:=rfl
def IR (sz bytes n:Nat) (x:V) (e:Option (Nat × Nat × (Nat→V))) (ok:Prop) (b:V) (H:Hp):Out:=match x,e with
 | .nils,some (sz',m,g)=>⟨sz'=sz∧ok∧0 < m∧m * bytes≤2 ^ 47,.sl n [] 0 m sz,(n,.ar sz m g) :: H⟩
 | .sl id p o l sz'', some (sz', m, g) =>
   match b with
   | .ar s l' f=>⟨(sz'=sz∧sz''=sz∧p=[]∧o=0)∧(Ac H id=true∧s=sz∧l≤l')∧ok∧(l + m) * bytes≤2 ^ 47,
    .sl n [] 0 (l + m) sz,(n,.ar sz (l + m) (fun i=>if i < l then f i else g (i - l))) :: BJ H id⟩
   | _=>BR H
 | _,_=>BR H
theorem Aft (sz bytes n:Nat) (y:V) (H:Hp):V3 sz bytes n .nils y H=IR sz bytes n .nils (Da H y) (BZ H y) .junk H:=by
 simp only [V3,IR];cases Da H y <;> rfl
theorem Aea (sz bytes n id:Nat) (p:List Stp) (o l sz'':Nat) (y:V) (H:Hp):V3 sz bytes n (.sl id p o l sz'') y H=IR sz bytes n (.sl id p o l sz'') (Da H y) (BZ H y) (hget H id) H:=by
 simp only [V3,IR]
 cases Da H y with
 | none=>rfl
 | some q =>
   obtain ⟨a,b,c⟩:=q
   cases hu:hget H id <;> simp [hu,V.solid,BR]
theorem Acc (sz bytes n sz' m:Nat) (g:Nat→V) (ok:Prop) (b:V) (H:Hp):IR sz bytes n .nils (some (sz',m,g)) ok b H=⟨sz'=sz∧ok∧0 < m∧m * bytes≤140737488355328,.sl n [] 0 m sz,(n,.ar sz m g) :: H⟩:=by simp [IR]
theorem ZE (sz bytes n id:Nat) (p:List Stp) (o l sz'' sz' m s l':Nat) (g f:Nat→V) (ok:Prop) (H:Hp):IR sz bytes n (.sl id p o l sz'') (some (sz',m,g)) ok (.ar s l' f) H =
 ⟨(sz'=sz∧sz''=sz∧p=[]∧o=0)∧(Ac H id=true∧s=sz∧l≤l')∧ok∧(l + m) * bytes≤140737488355328,
  .sl n [] 0 (l + m) sz,(n,.ar sz (l + m) (fun i=>if i < l then f i else g (i - l))) :: BJ H id⟩:=by simp [IR]
theorem Aa4 (H:Hp) (sz n:Nat) (f:Nat→V):Da H (.lst sz n f)=some (sz,n,f):=rfl
def HX (o n sz:Nat) (b:V):Option (Nat × Nat × (Nat→V)):=match b with
 | .ar _ _ f=>some (sz,n,fun i=>f (o + i))
 | _=>none
theorem Yy (o n sz s m:Nat) (f:Nat→V):HX o n sz (.ar s m f)=some (sz,n,fun i=>f (o + i)):=rfl
theorem Tb (H:Hp) (id:Nat) (p:List Stp) (o n sz:Nat):Da H (.sl id p o n sz)=HX o n sz ((hget H id).get p):=rfl
def GT (o n sz:Nat) (b:V):Prop:=match b with
 | .ar sz' m _=>sz'=sz∧o + n≤m
 | _=>False
theorem YJ (o n sz s m:Nat) (f:Nat→V):GT o n sz (.ar s m f)=(s=sz∧o + n≤m):=rfl
theorem Uv (H:Hp) (sz n:Nat) (f:Nat→V):BZ H (.lst sz n f)=True:=rfl
theorem LA (H:Hp) (id:Nat) (p:List Stp) (o n sz:Nat):BZ H (.sl id p o n sz)=(Ac H id=true∧(hget H id).solid=true∧(hget H id).ok p∧GT o n sz ((hget H id).get p)):=by
 simp only [BZ];rfl
theorem Aam (H:Hp):Da H .nils=none:=rfl
def TU (sz:Nat) (x y:V) (H:Hp):Out:=match x,Da H y with
 | .sl id p o l sz'', some (sz', m, g) =>
   match (hget H id).get p with
   | .ar s l' f=>⟨(sz'=sz∧sz''=sz∧s=sz)∧(Ac H id=true∧(hget H id).solid=true∧(hget H id).ok p∧Hu p=true∧o + l≤l')∧BZ H y,.int .i64 (min m l:Nat),
    Co H id (V.set (.ar sz l' (fun i=>if o≤i∧i < o + min m l then g (i - o) else f i)) p (hget H id))⟩
   | _=>BR H
 | .sl _ _ _ _ _,none=>⟨match y with | .nils=>True | _=>False,.int .i64 0,H⟩
 | _,_=>BR H
theorem X4 (A:List V) (H:Hp) (n sz:Nat) (x y:X):Ae A H n (.copy sz x y)=TU sz (x.ev A) (y.ev A) H:=rfl
def PN (sz id:Nat) (p:List Stp) (o l:Nat) (e:Option (Nat × Nat × (Nat→V))) (ok:Prop) (b:V) (H:Hp):Out:=match e,b with
 | some (sz',m,g),.ar s l' f=>⟨(sz'=sz∧s=sz)∧(Ac H id=true∧(hget H id).solid=true∧(hget H id).ok p∧Hu p=true∧o + l≤l')∧ok,.int .i64 (min m l:Nat),
  Co H id (V.set (.ar sz l' (fun i=>if o≤i∧i < o + min m l then g (i - o) else f i)) p (hget H id))⟩
 | none,_=>⟨False,.int .i64 0,H⟩
 | _,_=>BR H
theorem Abj (sz id:Nat) (p:List Stp) (o l sz'':Nat) (H:Hp):TU sz (.sl id p o l sz'') .nils H=⟨True,.int .i64 0,H⟩:=rfl
theorem Z6 (sz id:Nat) (p:List Stp) (o l n sz':Nat) (f:Nat→V) (H:Hp):TU sz (.sl id p o l sz) (.lst sz' n f) H=PN sz id p o l (some (sz',n,f)) True ((hget H id).get p) H:=by
 simp only [TU,PN,Da,BZ];cases hu:(hget H id).get p <;> simp [hu,BR]
theorem Adl (sz id:Nat) (p:List Stp) (o l id':Nat) (p':List Stp) (o' n sz':Nat) (H:Hp):TU sz (.sl id p o l sz) (.sl id' p' o' n sz') H=PN sz id p o l (HX o' n sz' ((hget H id').get p')) (Ac H id'=true∧(hget H id').solid=true∧(hget H id').ok p'∧GT o' n sz' ((hget H id').get p')) ((hget H id).get p) H:=by
 simp only [TU,PN,Tb,LA]
 cases HX o' n sz' ((hget H id').get p') with
 | none=>rfl
 | some q =>
   obtain ⟨a,b,c⟩:=q
   cases hu:(hget H id).get p <;> simp [hu,BR]
theorem Aag (sz id:Nat) (p:List Stp) (o l sz' m:Nat) (g:Nat→V) (ok:Prop) (s l':Nat) (f:Nat→V) (H:Hp):PN sz id p o l (some (sz',m,g)) ok (.ar s l' f) H =
 ⟨(sz'=sz∧s=sz)∧(Ac H id=true∧(hget H id).solid=true∧(hget H id).ok p∧Hu p=true∧o + l≤l')∧ok,.int .i64 (min m l:Nat),
  Co H id (V.set (.ar sz l' (fun i=>if o≤i∧i < o + min m l then g (i - o) else f i)) p (hget H id))⟩:=rfl
end Mv
