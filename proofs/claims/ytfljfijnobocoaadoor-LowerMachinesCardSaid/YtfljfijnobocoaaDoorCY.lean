/- A part. -/
import Derived.Test.YtfljfijnobocoaaDoorCX
set_option linter.all false
namespace Mv
open Go
def vpk (c a b:V) (H:Hp):Out:=match c with | .bool t=>⟨True,EV t a b,H⟩ | _=>BG H
theorem Agf (t:Bool) (a b:V) (H:Hp):vpk (.bool t) a b H=⟨True,EV t a b,H⟩:=rfl
theorem T8 (A:List V) (H:Hp) (n:Nat) (c a b:X):Ae A H n (.pick c a b)=vpk (c.ev A) (a.ev A) (b.ev A) H:=rfl
theorem YT (a b:Bool):EV true (.bool a) (.bool b) = .bool a:=rfl
theorem Xb (a b:Bool):EV false (.bool a) (.bool b) = .bool b:=rfl
theorem U3 (a:Bool) (v:V):EV true (.bool a) (.tup v) = .bool a:=rfl
theorem U5 (b:Bool) (v:V):EV false (.tup v) (.bool b) = .bool b:=rfl
theorem Tg (t a b:Bool):EV t (.bool a) (.bool b) = .bool (bif t then a else b):=rfl
theorem Adj (A:List V) (H:Hp) (n:Nat) (x:X):Ae A H n (.mv x)=⟨True,x.ev A,H⟩:=rfl
theorem XB (A:List V) (H:Hp) (n:Nat) (op:BinOp) (x y:X):Ae A H n (.ari op x y)=AP op (x.ev A) (y.ev A) H:=rfl
theorem Aa6 (A:List V) (H:Hp) (n:Nat) (op:UnOp) (x:X):Ae A H n (.un op x)=ST op (x.ev A) H:=rfl
theorem Abf (A:List V) (H:Hp) (n:Nat) (neg c:Bool) (s:ES) (x y:X):Ae A H n (.eq neg c s x y)=⟨AD c s (x.ev A) (y.ev A),.bool (neg ^^ AK s (x.ev A) (y.ev A)),H⟩:=rfl
theorem S0 (A:List V) (H:Hp) (n:Nat) (z:Z):Ae A H n (.alloc z)=⟨True,.ptr n [],(n,z.v 0) :: H⟩:=rfl
theorem Xr (A:List V) (H:Hp) (n:Nat) (x:X):Ae A H n (.box x)=⟨(x.ev A).solid=true,.ptr n [],(n,x.ev A) :: H⟩:=rfl
theorem Rt (A:List V) (H:Hp) (n:Nat) (z:Z) (ps:List (Stp × Nat × X)):Ae A H n (.build z ps)=⟨Bv (z.v 0) A ps,BP (z.v 0) A ps,H⟩:=rfl
theorem XM (A:List V) (H:Hp) (n sz m:Nat) (z:Z) (ps:List (Stp × Nat × X)):Ae A H n (.bsl sz m z ps)=⟨Bv (.ar sz m (fun _=>z.v 0)) A ps,.sl n [] 0 m sz,(n,BP (.ar sz m (fun _=>z.v 0)) A ps) :: H⟩:=rfl
def V9 (agg:Bool) (sz:Nat) (x:V) (H:Hp):Out:=match x with
 | .ptr id p=>⟨(Af H id=true∧(hget H id).solid=true∧(hget H id).ok p)∧((hget H id).get p).solid=true∧((hget H id).get p).size=sz∧((hget H id).get p).isAgg=agg,(hget H id).get p,H⟩
 | .imm v=>⟨v.solid=true∧v.size=sz∧v.isAgg=agg,v,H⟩
 | _=>BG H
theorem YV (agg:Bool) (sz id:Nat) (p:List Stp) (H:Hp):V9 agg sz (.ptr id p) H=⟨(Af H id=true∧(hget H id).solid=true∧(hget H id).ok p)∧((hget H id).get p).solid=true∧((hget H id).get p).size=sz∧((hget H id).get p).isAgg=agg,(hget H id).get p,H⟩:=rfl
theorem XU (agg:Bool) (sz:Nat) (v:V) (H:Hp):V9 agg sz (.imm v) H=⟨v.solid=true∧v.size=sz∧v.isAgg=agg,v,H⟩:=rfl
theorem Vk (A:List V) (H:Hp) (n:Nat) (agg:Bool) (sz:Nat) (x:X):Ae A H n (.load agg sz x)=V9 agg sz (x.ev A) H:=by
 simp only [Ae];generalize X.ev A x=u;cases u <;> rfl
def Wk (sz:Nat) (x y:V) (H:Hp):Out:=match x with
 | .ptr id p=>⟨(Af H id=true∧(hget H id).solid=true∧(hget H id).ok p∧Gx p=true)∧y.solid=true∧y.size=sz∧((hget H id).get p).size=sz,.tup .fnil,BU H id (V.set y p (hget H id))⟩
 | _=>BG H
theorem Th (sz id:Nat) (p:List Stp) (y:V) (H:Hp):Wk sz (.ptr id p) y H=⟨(Af H id=true∧(hget H id).solid=true∧(hget H id).ok p∧Gx p=true)∧y.solid=true∧y.size=sz∧((hget H id).get p).size=sz,.tup .fnil,BU H id (V.set y p (hget H id))⟩:=rfl
theorem Si (A:List V) (H:Hp) (n:Nat) (sz:Nat) (x y:X):Ae A H n (.store sz x y)=Wk sz (x.ev A) (y.ev A) H:=by
 simp only [Ae];generalize X.ev A x=u;generalize X.ev A y=v;cases u <;> cases v <;> rfl
def MG (x:V) (H:Hp):Out:=match x with
 | .ptr id p=>⟨True,.ptr id p,H⟩
 | .imm v=>⟨True,.imm v,H⟩
 | .fn f c=>⟨f < 1000000,.fn f c,H⟩
 | .ifc t v=>⟨True,.ifc t v,H⟩
 | _=>BG H
theorem Xm (id:Nat) (p:List Stp) (H:Hp):MG (.ptr id p) H=⟨True,.ptr id p,H⟩:=rfl
theorem WR (v:V) (H:Hp):MG (.imm v) H=⟨True,.imm v,H⟩:=rfl
theorem W6 (f:Nat) (c:V) (H:Hp):MG (.fn f c) H=⟨f < 1000000,.fn f c,H⟩:=rfl
theorem WB (t:Nat) (v:V) (H:Hp):MG (.ifc t v) H=⟨True,.ifc t v,H⟩:=rfl
theorem VC (A:List V) (H:Hp) (n:Nat) (x:X):Ae A H n (.nilc x)=MG (x.ev A) H:=by
 simp only [Ae];generalize X.ev A x=u;cases u <;> rfl
def VA (off:Nat) (x:V) (H:Hp):Out:=match x with
 | .ptr id p=>⟨True,.ptr id (C0 p (.f off)),H⟩
 | .imm v=>⟨v.solid=true∧v.ok [.f off],.imm (v.get [.f off]),H⟩
 | _=>BG H
theorem WF (off id:Nat) (p:List Stp) (H:Hp):VA off (.ptr id p) H=⟨True,.ptr id (C0 p (.f off)),H⟩:=rfl
theorem XR (off:Nat) (v:V) (H:Hp):VA off (.imm v) H=⟨v.solid=true∧v.ok [.f off],.imm (v.get [.f off]),H⟩:=rfl
theorem VE (A:List V) (H:Hp) (n off:Nat) (x:X):Ae A H n (.fadr off x)=VA off (x.ev A) H:=by
 simp only [Ae];generalize X.ev A x=u;cases u <;> rfl
def Jv (m sz:Nat) (x i:V) (H:Hp):Out:=match x,i with
 | .ptr id p,.int _ a=>⟨0≤a∧a < m,.ptr id (C0 p (.i sz a.toNat)),H⟩
 | .imm v,.int _ a=>⟨(0≤a∧a < m)∧v.solid=true∧v.ok [.i sz a.toNat],.imm (v.get [.i sz a.toNat]),H⟩
 | _,_=>BG H
theorem WV (m sz id:Nat) (p:List Stp) (k:IntKind) (a:Int) (H:Hp):Jv m sz (.ptr id p) (.int k a) H=⟨0≤a∧a < m,.ptr id (C0 p (.i sz a.toNat)),H⟩:=rfl
theorem Wc (m sz id:Nat) (p:List Stp) (w:BitVec 64) (H:Hp):Jv m sz (.ptr id p) (W w) H=⟨w.toNat < m,.ptr id (C0 p (.i sz w.toNat)),H⟩:=by
 simp only [Jv,Lcd];congr 1;rw [eq_iff_iff];omega
theorem Yc (m sz:Nat) (v:V) (k:IntKind) (a:Int) (H:Hp):Jv m sz (.imm v) (.int k a) H=⟨(0≤a∧a < m)∧v.solid=true∧v.ok [.i sz a.toNat],.imm (v.get [.i sz a.toNat]),H⟩:=rfl
theorem Vw (m sz:Nat) (v:V) (w:BitVec 64) (H:Hp):Jv m sz (.imm v) (W w) H=⟨w.toNat < m∧v.solid=true∧v.ok [.i sz w.toNat],.imm (v.get [.i sz w.toNat]),H⟩:=by
 simp only [Jv,Lcd];congr 2;rw [eq_iff_iff];omega
theorem Vb (A:List V) (H:Hp) (n m sz:Nat) (x i:X):Ae A H n (.iarr m sz x i)=Jv m sz (x.ev A) (i.ev A) H:=by
 simp only [Ae];generalize X.ev A x=u;generalize X.ev A i=v;cases u <;> cases v <;> rfl
def OF (sz:Nat) (x i:V) (H:Hp):Out:=match x,i with
 | .sl id p o m sz',.int _ a=>⟨(0≤a∧a < m)∧sz'=sz,.ptr id (C0 p (.i sz (o + a.toNat))),H⟩
 | .lst sz' m f,.int _ a=>⟨(0≤a∧a < m)∧sz'=sz,.imm (f a.toNat),H⟩
 | _,_=>BG H
theorem Acr (sz id:Nat) (p:List Stp) (o m sz':Nat) (k:IntKind) (a:Int) (H:Hp):OF sz (.sl id p o m sz') (.int k a) H=⟨(0≤a∧a < m)∧sz'=sz,.ptr id (C0 p (.i sz (o + a.toNat))),H⟩:=rfl
theorem Zb (sz id:Nat) (p:List Stp) (o m sz':Nat) (w:BitVec 64) (H:Hp):OF sz (.sl id p o m sz') (W w) H=⟨w.toNat < m∧sz'=sz,.ptr id (C0 p (.i sz (o + w.toNat))),H⟩:=by
 simp only [OF,Lcd];congr 2;rw [eq_iff_iff];omega
theorem Acj (sz sz' m:Nat) (f:Nat→V) (k:IntKind) (a:Int) (H:Hp):OF sz (.lst sz' m f) (.int k a) H=⟨(0≤a∧a < m)∧sz'=sz,.imm (f a.toNat),H⟩:=rfl
theorem Xz (sz sz' m:Nat) (f:Nat→V) (w:BitVec 64) (H:Hp):OF sz (.lst sz' m f) (W w) H=⟨w.toNat < m∧sz'=sz,.imm (f w.toNat),H⟩:=by
 simp only [OF,Lcd];congr 2;rw [eq_iff_iff];omega
theorem XA (A:List V) (H:Hp) (n sz:Nat) (x i:X):Ae A H n (.isl sz x i)=OF sz (x.ev A) (i.ev A) H:=by
 simp only [Ae];generalize X.ev A x=u;generalize X.ev A i=v;cases u <;> cases v <;> rfl
def XE (m sz:Nat) (agg:Bool) (x i:V) (H:Hp):Out:=match x,i with
 | .ar sz' m' f,.int _ a=>⟨(0≤a∧a < m)∧sz'=sz∧m'=m∧(f a.toNat).isAgg=agg,f a.toNat,H⟩
 | _,_=>BG H
theorem Aea (m sz:Nat) (agg:Bool) (sz' m':Nat) (f:Nat→V) (k:IntKind) (a:Int) (H:Hp):XE m sz agg (.ar sz' m' f) (.int k a) H=⟨(0≤a∧a < m)∧sz'=sz∧m'=m∧(f a.toNat).isAgg=agg,f a.toNat,H⟩:=rfl
theorem XW (m sz:Nat) (agg:Bool) (sz' m':Nat) (f:Nat→V) (w:BitVec 64) (H:Hp):XE m sz agg (.ar sz' m' f) (W w) H=⟨w.toNat < m∧sz'=sz∧m'=m∧(f w.toNat).isAgg=agg,f w.toNat,H⟩:=by
 simp only [XE,Lcd];congr 2;rw [eq_iff_iff];omega
theorem Yh (A:List V) (H:Hp) (n m sz:Nat) (agg:Bool) (x i:X):Ae A H n (.idx m sz agg x i)=XE m sz agg (x.ev A) (i.ev A) H:=by
 simp only [Ae];generalize X.ev A x=u;generalize X.ev A i=v;cases u <;> cases v <;> rfl
def Aiv (off sz:Nat) (agg:Bool) (x:V) (H:Hp):Out:=match x with
 | .st _ fs=>⟨fs.fhas off=true∧(fs.fget off).solid=true∧(fs.fget off).size=sz∧(fs.fget off).isAgg=agg,fs.fget off,H⟩
 | _=>BG H
theorem Aaw (off sz:Nat) (agg:Bool) (m:Nat) (fs:V) (H:Hp):Aiv off sz agg (.st m fs) H=⟨fs.fhas off=true∧(fs.fget off).solid=true∧(fs.fget off).size=sz∧(fs.fget off).isAgg=agg,fs.fget off,H⟩:=rfl
theorem YN (A:List V) (H:Hp) (n off sz:Nat) (agg:Bool) (x:X):Ae A H n (.fld off sz agg x)=Aiv off sz agg (x.ev A) H:=by
 simp only [Ae];generalize X.ev A x=u;cases u <;> rfl
def Cm (d:Int):Option V→Int
 | none=>d
 | some (.int _ n)=>n
 | _=>-1
def CS:Option V→Prop
 | none=>True
 | some (.int _ _)=>True
 | _=>False
theorem Ahj (d:Int):Cm d none=d:=rfl
theorem Aix (d:Int) (k:IntKind) (n:Int):Cm d (some (.int k n))=n:=rfl
theorem Ag9 (d:Int) (w:BitVec 64):Cm d (some (W w))=(w.toNat:Int):=rfl
theorem Adl:CS none=True:=rfl
theorem Ac3 (k:IntKind) (n:Int):CS (some (.int k n))=True:=rfl
theorem Aaf (w:BitVec 64):CS (some (W w))=True:=rfl
theorem NK (A:List V) (d:Int) (x:Option X):A8 A d x=Cm d (x.map (X.ev A)):=by
 cases x with
 | none=>rfl
 | some x=>simp only [A8,Option.map,Cm];split <;> simp_all
theorem J2 (A:List V) (x:Option X):B1 A x=CS (x.map (X.ev A)):=by
 cases x with
 | none=>rfl
 | some x=>simp only [B1,Nj,Option.map,CS];split <;> simp_all
def Mo (m sz:Nat) (x:V) (lo hi:Option V) (H:Hp):Out:=match x with
 | .ptr id p=>⟨(CS lo∧CS hi∧0≤Cm 0 lo∧Cm 0 lo≤Cm m hi∧Cm m hi≤m)∧Af H id=true∧(hget H id).solid=true∧(hget H id).ok p∧(match (hget H id).get p with | .ar sz' m' _=>sz'=sz∧m'=m | _=>False),
  .sl id p (Cm 0 lo).toNat ((Cm m hi).toNat - (Cm 0 lo).toNat) sz,H⟩
 | .imm v => match v with
   | .ar sz' m' f=>⟨(CS lo∧CS hi∧0≤Cm 0 lo∧Cm 0 lo≤Cm m hi∧Cm m hi≤m)∧sz'=sz∧m'=m,.lst sz ((Cm m hi).toNat - (Cm 0 lo).toNat) (fun i=>f ((Cm 0 lo).toNat + i)),H⟩
   | _=>BG H
 | _=>BG H
def Rp (sz m:Nat):V→Prop
 | .ar sz' m' _=>sz'=sz∧m'=m
 | _=>False
theorem Ad6 (sz m sz' m':Nat) (f:Nat→V):Rp sz m (.ar sz' m' f)=(sz'=sz∧m'=m):=rfl
theorem TQ (m sz id:Nat) (p:List Stp) (lo hi:Option V) (H:Hp):Mo m sz (.ptr id p) lo hi H=⟨(CS lo∧CS hi∧0≤Cm 0 lo∧Cm 0 lo≤Cm m hi∧Cm m hi≤m)∧Af H id=true∧(hget H id).solid=true∧(hget H id).ok p∧Rp sz m ((hget H id).get p),
 .sl id p (Cm 0 lo).toNat ((Cm m hi).toNat - (Cm 0 lo).toNat) sz,H⟩:=by
 simp only [Mo];congr 5
theorem U0 (m sz sz' m':Nat) (f:Nat→V) (lo hi:Option V) (H:Hp):Mo m sz (.imm (.ar sz' m' f)) lo hi H=⟨(CS lo∧CS hi∧0≤Cm 0 lo∧Cm 0 lo≤Cm m hi∧Cm m hi≤m)∧sz'=sz∧m'=m,.lst sz ((Cm m hi).toNat - (Cm 0 lo).toNat) (fun i=>f ((Cm 0 lo).toNat + i)),H⟩:=rfl
theorem S1 (A:List V) (H:Hp) (n m sz:Nat) (x:X) (lo hi:Option X):Ae A H n (.slarr m sz x lo hi)=Mo m sz (x.ev A) (lo.map (X.ev A)) (hi.map (X.ev A)) H:=by
 simp only [Ae,NK,J2];generalize X.ev A x=u
 cases u <;> first | rfl | (rename_i v;cases v <;> rfl)
def QQ (sz:Nat) (x:V) (lo hi:Option V) (H:Hp):Out:=match x with
 | .sl id p o m sz'=>⟨(CS lo∧CS hi∧0≤Cm 0 lo∧Cm 0 lo≤Cm m hi∧Cm m hi≤m)∧sz'=sz,.sl id p (o + (Cm 0 lo).toNat) ((Cm m hi).toNat - (Cm 0 lo).toNat) sz,H⟩
 | .lst sz' m f=>⟨(CS lo∧CS hi∧0≤Cm 0 lo∧Cm 0 lo≤Cm m hi∧Cm m hi≤m)∧sz'=sz,.lst sz ((Cm m hi).toNat - (Cm 0 lo).toNat) (fun i=>f ((Cm 0 lo).toNat + i)),H⟩
 | .nils=>⟨CS lo∧CS hi∧Cm 0 lo=0∧Cm 0 hi=0,.nils,H⟩
 | _=>BG H
theorem W3 (sz id:Nat) (p:List Stp) (o m sz':Nat) (lo hi:Option V) (H:Hp):QQ sz (.sl id p o m sz') lo hi H=⟨(CS lo∧CS hi∧0≤Cm 0 lo∧Cm 0 lo≤Cm m hi∧Cm m hi≤m)∧sz'=sz,.sl id p (o + (Cm 0 lo).toNat) ((Cm m hi).toNat - (Cm 0 lo).toNat) sz,H⟩:=rfl
theorem Xd (sz sz' m:Nat) (f:Nat→V) (lo hi:Option V) (H:Hp):QQ sz (.lst sz' m f) lo hi H=⟨(CS lo∧CS hi∧0≤Cm 0 lo∧Cm 0 lo≤Cm m hi∧Cm m hi≤m)∧sz'=sz,.lst sz ((Cm m hi).toNat - (Cm 0 lo).toNat) (fun i=>f ((Cm 0 lo).toNat + i)),H⟩:=rfl
theorem WM (sz:Nat) (lo hi:Option V) (H:Hp):QQ sz .nils lo hi H=⟨CS lo∧CS hi∧Cm 0 lo=0∧Cm 0 hi=0,.nils,H⟩:=rfl
theorem UD (A:List V) (H:Hp) (n sz:Nat) (x:X) (lo hi:Option X):Ae A H n (.slsl sz x lo hi)=QQ sz (x.ev A) (lo.map (X.ev A)) (hi.map (X.ev A)) H:=by
 simp only [Ae,NK,J2];generalize X.ev A x=u;cases u <;> rfl
def Abx (m sz:Nat) (x:V) (H:Hp):Out:=match x with
 | .sl id p o l sz'=>⟨(sz'=sz∧m≤l∧0 < m),.ptr id (C0 p (.r sz o m)),H⟩
 | .lst sz' l f=>⟨sz'=sz∧m≤l∧0 < m,.imm (.ar sz m f),H⟩
 | _=>BG H
theorem ZS (m sz id:Nat) (p:List Stp) (o l sz':Nat) (H:Hp):Abx m sz (.sl id p o l sz') H=⟨(sz'=sz∧m≤l∧0 < m),.ptr id (C0 p (.r sz o m)),H⟩:=rfl
theorem ZC (m sz sz' l:Nat) (f:Nat→V) (H:Hp):Abx m sz (.lst sz' l f) H=⟨sz'=sz∧m≤l∧0 < m,.imm (.ar sz m f),H⟩:=rfl
theorem X3 (A:List V) (H:Hp) (n m sz:Nat) (x:X):Ae A H n (.s2a m sz x)=Abx m sz (x.ev A) H:=by
 simp only [Ae];generalize X.ev A x=u;cases u <;> rfl
theorem U1 (A:List V) (H:Hp) (n t:Nat) (x:X):Ae A H n (.mkif t x)=⟨(x.ev A).solid=true,.ifc t (x.ev A),H⟩:=rfl
def Ag4 (x:V) (i:Nat) (H:Hp):Out:=match x with
 | .tup fs=>⟨fs.fhas i=true,fs.fget i,H⟩
 | _=>BG H
theorem Abo (fs:V) (i:Nat) (H:Hp):Ag4 (.tup fs) i H=⟨fs.fhas i=true,fs.fget i,H⟩:=rfl
theorem XH (A:List V) (H:Hp) (n:Nat) (x:X) (i:Nat):Ae A H n (.ext x i)=Ag4 (x.ev A) i H:=by
 simp only [Ae];generalize X.ev A x=u;cases u <;> rfl
def O2 (k:Nat) (x:V) (H:Hp):Out:=match k,x with
 | 0,.sl _ _ _ m _=>⟨True,.int .i64 m,H⟩
 | 0,.lst _ m _=>⟨True,.int .i64 m,H⟩
 | 0,.nils=>⟨True,.int .i64 0,H⟩
 | 1,.str s=>⟨True,.int .i64 s.size,H⟩
 | 2,.nilm=>⟨True,.int .i64 0,H⟩
 | 2, .map id => match hget H id with
   | .mp m _ _=>⟨Af H id=true,.int .i64 m,H⟩
   | _=>BG H
 | _,_=>BG H
theorem Ab5 (id:Nat) (p:List Stp) (o m sz:Nat) (H:Hp):O2 0 (.sl id p o m sz) H=⟨True,.int .i64 m,H⟩:=rfl
theorem Aba (sz m:Nat) (f:Nat→V) (H:Hp):O2 0 (.lst sz m f) H=⟨True,.int .i64 m,H⟩:=rfl
theorem Aeb (H:Hp):O2 0 .nils H=⟨True,.int .i64 0,H⟩:=rfl
theorem Vf (s:ByteArray) (H:Hp):O2 1 (.str s) H=⟨True,.int .i64 s.size,H⟩:=rfl
theorem Yy (H:Hp):O2 2 .nilm H=⟨True,.int .i64 0,H⟩:=rfl
theorem WN (A:List V) (H:Hp) (n k:Nat) (x:X):Ae A H n (.len k x)=O2 k (x.ev A) H:=by
 simp only [Ae];generalize X.ev A x=u;rcases k with _ | _ | _ | k <;> cases u <;> rfl
theorem UE (A:List V) (H:Hp) (n f:Nat) (caps:List X):Ae A H n (.mkfn f caps)=⟨Cp A caps,.fn f (.st caps.length (Dl A caps 0)),H⟩:=rfl
theorem Rw (A:List V) (H:Hp) (n k:Nat) (x:X):Ae A H n (.mkmth k x)=(match x.ev A with | .ifc t v=>⟨True,.fn (1000000 + k) (.st 1 (.fcons 0 (.ifc t v) .fnil)),H⟩ | _=>BG H):=rfl
theorem VP (A:List V) (H:Hp) (n k:Nat) (ts:List Nat) (x:X):Ae A H n (.nilm k ts x)=(match x.ev A with | .fn f (.st m (.fcons j (.ifc t v) r))=>⟨f=1000000 + k∧t ∈ ts∧m=1∧j=0,.fn f (.st m (.fcons j (.ifc t v) r)),H⟩ | _=>BG H):=rfl
def Ahx (v:V) (n:Nat) (H:Hp):Out:=match v with
 | .ifc t (.map id) => match hget H id with
   | .mp m ks vs=>⟨Af H id=true,.ifc t (.map n),(n,.mp m ks vs) :: H⟩
   | _=>BG H
 | .ifc t (.fm m ks vs)=>⟨True,.ifc t (.map n),(n,.mp m ks vs) :: H⟩
 | _=>BG H
def Te (b:V) (t id n:Nat) (H:Hp):Out:=match b with
 | .mp m ks vs=>⟨Af H id=true,.ifc t (.map n),(n,.mp m ks vs) :: H⟩
 | _=>BG H
theorem ZD (t id n:Nat) (H:Hp):Ahx (.ifc t (.map id)) n H=Te (hget H id) t id n H:=rfl
theorem Anj (t n m:Nat) (ks vs:Nat→V) (H:Hp):Ahx (.ifc t (.fm m ks vs)) n H=⟨True,.ifc t (.map n),(n,.mp m ks vs) :: H⟩:=rfl
theorem W2 (t id n m:Nat) (ks vs:Nat→V) (H:Hp):Te (.mp m ks vs) t id n H=⟨Af H id=true,.ifc t (.map n),(n,.mp m ks vs) :: H⟩:=rfl
def Aob (v:V) (n:Nat) (H:Hp):Out:=match v with
 | .map id => match hget H id with
   | .mp _ _ _=>⟨Af H id=true,.ptr n [],(n,.tup (.map id)) :: H⟩
   | _=>BG H
 | _=>BG H
def Anf (b:V) (id n:Nat) (H:Hp):Out:=match b with
 | .mp _ _ _=>⟨Af H id=true,.ptr n [],(n,.tup (.map id)) :: H⟩
 | _=>BG H
theorem An4 (id n:Nat) (H:Hp):Aob (.map id) n H=Anf (hget H id) id n H:=rfl
theorem Amz (id n m:Nat) (ks vs:Nat→V) (H:Hp):Anf (.mp m ks vs) id n H=⟨Af H id=true,.ptr n [],(n,.tup (.map id)) :: H⟩:=rfl
theorem Amx (A:List V) (H:Hp) (n:Nat) (x:X):Ae A H n (.rng x)=Aob (x.ev A) n H:=rfl
def An8 (v:V) (H:Hp):Out:=match v with
 | .ptr id [] => match hget H id with
   | .tup (.map j) => match hget H j with
     | .mp m _ _=>⟨m=0∧Af H id=true∧Af H j=true,.tup (.fcons 0 (.bool false) .fnil),H⟩
     | _=>BG H
   | _=>BG H
 | _=>BG H
def Anh (b:V) (id:Nat) (H:Hp):Out:=match b with
 | .tup (.map j) => match hget H j with
   | .mp m _ _=>⟨m=0∧Af H id=true∧Af H j=true,.tup (.fcons 0 (.bool false) .fnil),H⟩
   | _=>BG H
 | _=>BG H
def Ang (b:V) (id j:Nat) (H:Hp):Out:=match b with
 | .mp m _ _=>⟨m=0∧Af H id=true∧Af H j=true,.tup (.fcons 0 (.bool false) .fnil),H⟩
 | _=>BG H
theorem Anv (id:Nat) (H:Hp):An8 (.ptr id []) H=Anh (hget H id) id H:=rfl
theorem Am7 (id j:Nat) (H:Hp):Anh (.tup (.map j)) id H=Ang (hget H j) id j H:=rfl
theorem Am8 (id j m:Nat) (ks vs:Nat→V) (H:Hp):Ang (.mp m ks vs) id j H=⟨m=0∧Af H id=true∧Af H j=true,.tup (.fcons 0 (.bool false) .fnil),H⟩:=rfl
theorem Ane (A:List V) (H:Hp) (n:Nat) (x:X):Ae A H n (.nxt x)=An8 (x.ev A) H:=rfl
theorem OR (A:List V) (H:Hp) (n:Nat) (x:X):Ae A H n (.mclone x)=Ahx (x.ev A) n H:=rfl
theorem X9 (A:List V) (H:Hp) (n t:Nat) (x:X):Ae A H n (.tas t x)=(match x.ev A with | .ifc t' v=>⟨t'=t,v,H⟩ | _=>BG H):=rfl
def Vs (x i:V) (H:Hp):Out:=match x,i with
 | .str s,.int _ a=>⟨0≤a∧a < s.size,.int .u8 ((s[a.toNat]?).getD 0).toNat,H⟩
 | _,_=>BG H
theorem Ye (s:ByteArray) (k:IntKind) (a:Int) (H:Hp):Vs (.str s) (.int k a) H=⟨0≤a∧a < s.size,.int .u8 ((s[a.toNat]?).getD 0).toNat,H⟩:=rfl
theorem UN (A:List V) (H:Hp) (n:Nat) (x y:X):Ae A H n (.sidx x y)=Vs (x.ev A) (y.ev A) H:=by
 simp only [Ae];generalize X.ev A x=u;generalize X.ev A y=v;cases u <;> cases v <;> rfl
def Po (x y z:V) (H:Hp):Out:=match x,y,z with
 | .int .u64 a,.int .u64 b,.int .u64 c=>⟨0≤a∧0≤b∧0≤c∧c≤1,.tup (.fcons 0 (.int .u64 ((a + b + c) % 18446744073709551616)) (.fcons 1 (.int .u64 ((a + b + c) / 18446744073709551616)) .fnil)),H⟩
 | _,_,_=>BG H
def VV (a b:BitVec 64):BitVec 64:=if a.toNat + b.toNat < 18446744073709551616 then 0#64 else 1#64
theorem MP (a b:BitVec 64) (H:Hp):Po (W a) (W b) (.int .u64 0) H=⟨True,.tup (.fcons 0 (W (a + b)) (.fcons 1 (W (VV a b)) .fnil)),H⟩:=by
 have ha:=a.isLt
 have hb:=b.isLt
 have e1:((a.toNat:Int) + b.toNat + 0) % 18446744073709551616=((a + b).toNat:Int):=by
  rw [BitVec.toNat_add];omega
 have e2:((a.toNat:Int) + b.toNat + 0) / 18446744073709551616=((VV a b).toNat:Int):=by
  unfold VV;split
  ·show _=((0:Nat):Int);omega
  ·show _=((1:Nat):Int);omega
 show (⟨_,_,_⟩:Out)=_
 simp only [W,e1,e2]
 congr 1
 exact eq_true ⟨by omega,by omega,by omega,by omega⟩
theorem Sc (A:List V) (H:Hp) (n:Nat) (x y z:X):Ae A H n (.add64 x y z)=Po (x.ev A) (y.ev A) (z.ev A) H:=by
 simp only [Ae];generalize X.ev A x=u;generalize X.ev A y=v;generalize X.ev A z=w;cases u <;> cases v <;> cases w <;> rfl
def WY (max:Bool) (x y:V) (H:Hp):Out:=match x,y with
 | .int k a,.int k' b=>⟨k=k',.int k (if max then (if a < b then b else a) else (if b < a then b else a)),H⟩
 | _,_=>BG H
theorem Y5 (k:IntKind) (a b:Int) (H:Hp):WY true (.int k a) (.int k b) H=⟨True,.int k (max a b),H⟩:=by
 have:max a b=if a < b then b else a:=Aa
 simp [WY,this]
theorem Y8 (k:IntKind) (a b:Int) (H:Hp):WY false (.int k a) (.int k b) H=⟨True,.int k (min a b),H⟩:=by
 have:min a b=if b < a then b else a:=Aa
 simp [WY,this]
theorem Ado (A:List V) (H:Hp) (n:Nat) (max:Bool) (x y:X):Ae A H n (.mm max x y)=WY max (x.ev A) (y.ev A) H:=by
 simp only [Ae];generalize X.ev A x=u;generalize X.ev A y=v;cases u <;> cases v <;> rfl
def Ts (sz bytes:Nat) (z:Z) (n:Nat) (x y:V) (H:Hp):Out:=match x,y with
 | .int k a,.int k' b=>⟨k = .i64∧k' = .i64∧0≤a∧a≤b∧b * bytes≤2 ^ 47∧b < 2 ^ 47,.sl n [] 0 a.toNat sz,(n,.ar sz b.toNat (fun _=>z.v 0)) :: H⟩
 | _,_=>BG H
theorem XI (sz bytes:Nat) (z:Z) (n:Nat) (a b:Int) (H:Hp):Ts sz bytes z n (.int .i64 a) (.int .i64 b) H=⟨0≤a∧a≤b∧b * bytes≤140737488355328∧b < 140737488355328,.sl n [] 0 a.toNat sz,(n,.ar sz b.toNat (fun _=>z.v 0)) :: H⟩:=by
 simp [Ts]
theorem T5 (A:List V) (H:Hp) (n sz bytes:Nat) (z:Z) (l c:X):Ae A H n (.mksl sz bytes z l c)=Ts sz bytes z n (l.ev A) (c.ev A) H:=by
 simp only [Ae];generalize X.ev A l=u;generalize X.ev A c=v;cases u <;> cases v <;> rfl
def Ami (sz bytes n:Nat) (x y:V) (H:Hp):Out:=match x,Cv H y with
 | .nils,some (sz',m,g)=>⟨sz'=sz∧B8 H y∧0 < m∧m * bytes≤2 ^ 47,.sl n [] 0 m sz,(n,.ar sz m g) :: H⟩
 | .sl id p o l sz'', some (sz', m, g) =>
   match hget H id with
   | .ar _ l' f=>⟨(sz'=sz∧sz''=sz∧p=[]∧o=0)∧(Af H id=true∧(hget H id).solid=true∧(match hget H id with | .ar s _ _=>s=sz | _=>False)∧l≤l')∧B8 H y∧(l + m) * bytes≤2 ^ 47,
    .sl n [] 0 (l + m) sz,(n,.ar sz (l + m) (fun i=>if i < l then f i else g (i - l))) :: BS H id⟩
   | _=>BG H
 | _,_=>BG H
theorem Yj (A:List V) (H:Hp) (n sz bytes:Nat) (x y:X):Ae A H n (.app sz bytes x y)=Ami sz bytes n (x.ev A) (y.ev A) H:=rfl
def HB (sz bytes n:Nat) (x:V) (e:Option (Nat × Nat × (Nat→V))) (ok:Prop) (b:V) (H:Hp):Out:=match x,e with
 | .nils,some (sz',m,g)=>⟨sz'=sz∧ok∧0 < m∧m * bytes≤2 ^ 47,.sl n [] 0 m sz,(n,.ar sz m g) :: H⟩
 | .sl id p o l sz'', some (sz', m, g) =>
   match b with
   | .ar s l' f=>⟨(sz'=sz∧sz''=sz∧p=[]∧o=0)∧(Af H id=true∧s=sz∧l≤l')∧ok∧(l + m) * bytes≤2 ^ 47,
    .sl n [] 0 (l + m) sz,(n,.ar sz (l + m) (fun i=>if i < l then f i else g (i - l))) :: BS H id⟩
   | _=>BG H
 | _,_=>BG H
theorem Adk (sz bytes n:Nat) (y:V) (H:Hp):Ami sz bytes n .nils y H=HB sz bytes n .nils (Cv H y) (B8 H y) .junk H:=by
 simp only [Ami,HB];cases Cv H y <;> rfl
theorem Adp (sz bytes n id:Nat) (p:List Stp) (o l sz'':Nat) (y:V) (H:Hp):Ami sz bytes n (.sl id p o l sz'') y H=HB sz bytes n (.sl id p o l sz'') (Cv H y) (B8 H y) (hget H id) H:=by
 simp only [Ami,HB]
 cases Cv H y with
 | none=>rfl
 | some q =>
   obtain ⟨a,b,c⟩:=q
   cases hu:hget H id <;> simp [hu,V.solid,BG]
theorem Xn (sz bytes n sz' m:Nat) (g:Nat→V) (ok:Prop) (b:V) (H:Hp):HB sz bytes n .nils (some (sz',m,g)) ok b H=⟨sz'=sz∧ok∧0 < m∧m * bytes≤140737488355328,.sl n [] 0 m sz,(n,.ar sz m g) :: H⟩:=by simp [HB]
theorem Xo (sz bytes n id:Nat) (p:List Stp) (o l sz'' sz' m s l':Nat) (g f:Nat→V) (ok:Prop) (H:Hp):HB sz bytes n (.sl id p o l sz'') (some (sz',m,g)) ok (.ar s l' f) H =
 ⟨(sz'=sz∧sz''=sz∧p=[]∧o=0)∧(Af H id=true∧s=sz∧l≤l')∧ok∧(l + m) * bytes≤140737488355328,
  .sl n [] 0 (l + m) sz,(n,.ar sz (l + m) (fun i=>if i < l then f i else g (i - l))) :: BS H id⟩:=by simp [HB]
theorem Yg (H:Hp) (sz n:Nat) (f:Nat→V):Cv H (.lst sz n f)=some (sz,n,f):=rfl
def GY (o n sz:Nat) (b:V):Option (Nat × Nat × (Nat→V)):=match b with
 | .ar _ _ f=>some (sz,n,fun i=>f (o + i))
 | _=>none
theorem T3 (o n sz s m:Nat) (f:Nat→V):GY o n sz (.ar s m f)=some (sz,n,fun i=>f (o + i)):=rfl
theorem Qk (H:Hp) (id:Nat) (p:List Stp) (o n sz:Nat):Cv H (.sl id p o n sz)=GY o n sz ((hget H id).get p):=rfl
def FC (o n sz:Nat) (b:V):Prop:=match b with
 | .ar sz' m _=>sz'=sz∧o + n≤m
 | _=>False
theorem VB (o n sz s m:Nat) (f:Nat→V):FC o n sz (.ar s m f)=(s=sz∧o + n≤m):=rfl
theorem R6 (H:Hp) (sz n:Nat) (f:Nat→V):B8 H (.lst sz n f)=True:=rfl
theorem KS (H:Hp) (id:Nat) (p:List Stp) (o n sz:Nat):B8 H (.sl id p o n sz)=(Af H id=true∧(hget H id).solid=true∧(hget H id).ok p∧FC o n sz ((hget H id).get p)):=by
 simp only [B8];rfl
theorem YZ (H:Hp):Cv H .nils=none:=rfl
def S5 (sz:Nat) (x y:V) (H:Hp):Out:=match x,Cv H y with
 | .sl id p o l sz'', some (sz', m, g) =>
   match (hget H id).get p with
   | .ar s l' f=>⟨(sz'=sz∧sz''=sz∧s=sz)∧(Af H id=true∧(hget H id).solid=true∧(hget H id).ok p∧Gx p=true∧o + l≤l')∧B8 H y,.int .i64 (min m l:Nat),
    BU H id (V.set (.ar sz l' (fun i=>if o≤i∧i < o + min m l then g (i - o) else f i)) p (hget H id))⟩
   | _=>BG H
 | .sl _ _ _ _ _,none=>⟨match y with | .nils=>True | _=>False,.int .i64 0,H⟩
 | _,_=>BG H
theorem Vz (A:List V) (H:Hp) (n sz:Nat) (x y:X):Ae A H n (.copy sz x y)=S5 sz (x.ev A) (y.ev A) H:=rfl
def Nu (sz id:Nat) (p:List Stp) (o l:Nat) (e:Option (Nat × Nat × (Nat→V))) (ok:Prop) (b:V) (H:Hp):Out:=match e,b with
 | some (sz',m,g),.ar s l' f=>⟨(sz'=sz∧s=sz)∧(Af H id=true∧(hget H id).solid=true∧(hget H id).ok p∧Gx p=true∧o + l≤l')∧ok,.int .i64 (min m l:Nat),
  BU H id (V.set (.ar sz l' (fun i=>if o≤i∧i < o + min m l then g (i - o) else f i)) p (hget H id))⟩
 | none,_=>⟨False,.int .i64 0,H⟩
 | _,_=>BG H
theorem XN (sz id:Nat) (p:List Stp) (o l sz'':Nat) (H:Hp):S5 sz (.sl id p o l sz'') .nils H=⟨True,.int .i64 0,H⟩:=rfl
theorem WI (sz id:Nat) (p:List Stp) (o l n sz':Nat) (f:Nat→V) (H:Hp):S5 sz (.sl id p o l sz) (.lst sz' n f) H=Nu sz id p o l (some (sz',n,f)) True ((hget H id).get p) H:=by
 simp only [S5,Nu,Cv,B8];cases hu:(hget H id).get p <;> simp [hu,BG]
theorem Xh (sz id:Nat) (p:List Stp) (o l id':Nat) (p':List Stp) (o' n sz':Nat) (H:Hp):S5 sz (.sl id p o l sz) (.sl id' p' o' n sz') H=Nu sz id p o l (GY o' n sz' ((hget H id').get p')) (Af H id'=true∧(hget H id').solid=true∧(hget H id').ok p'∧FC o' n sz' ((hget H id').get p')) ((hget H id).get p) H:=by
 simp only [S5,Nu,Qk,KS]
 cases GY o' n sz' ((hget H id').get p') with
 | none=>rfl
 | some q =>
   obtain ⟨a,b,c⟩:=q
   cases hu:(hget H id).get p <;> simp [hu,BG]
theorem Y7 (sz id:Nat) (p:List Stp) (o l sz' m:Nat) (g:Nat→V) (ok:Prop) (s l':Nat) (f:Nat→V) (H:Hp):Nu sz id p o l (some (sz',m,g)) ok (.ar s l' f) H =
 ⟨(sz'=sz∧s=sz)∧(Af H id=true∧(hget H id).solid=true∧(hget H id).ok p∧Gx p=true∧o + l≤l')∧ok,.int .i64 (min m l:Nat),
  BU H id (V.set (.ar sz l' (fun i=>if o≤i∧i < o + min m l then g (i - o) else f i)) p (hget H id))⟩:=rfl
end Mv
