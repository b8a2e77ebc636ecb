/- A part. -/
import Derived.Test.YtlfkjfonpacelaaGreatDoorIB
set_option linter.all false
namespace Mv
open Go
inductive ES where
 | int
 | bool
 | str
 | ptr
 | iface (ts:List Nat)
 | nils (k:Nat)
 | nil
 | cons (off sz:Nat) (agg:Bool) (s:ES) (r:ES)
 | st (fs:ES)
 | ar (n sz:Nat) (agg:Bool) (s:ES)
inductive LO where
 | mv (x:X)
 | pick (c a b:X)
 | ari (op:BinOp) (x y:X)
 | eq (neg c:Bool) (s:ES) (x y:X)
 | un (op:UnOp) (x:X)
 | conv (k:IntKind) (x:X)
 | alloc (z:Z)
 | box (x:X)
 | build (z:Z) (ps:List (Stp × Nat × X))
 | bsl (sz n:Nat) (z:Z) (ps:List (Stp × Nat × X))
 | load (agg:Bool) (sz:Nat) (x:X)
 | store (sz:Nat) (x y:X)
 | nilc (x:X)
 | fadr (off:Nat) (x:X)
 | iarr (n sz:Nat) (x i:X)
 | isl (sz:Nat) (x i:X)
 | idx (n sz:Nat) (agg:Bool) (x i:X)
 | fld (off sz:Nat) (agg:Bool) (x:X)
 | slarr (n sz:Nat) (x:X) (lo hi:Option X)
 | slsl (sz:Nat) (x:X) (lo hi:Option X)
 | s2a (n sz:Nat) (x:X)
 | mkif (t:Nat) (x:X)
 | ext (x:X) (i:Nat)
 | len (k:Nat) (x:X)
 | app (sz bytes:Nat) (x y:X)
 | copy (sz:Nat) (x y:X)
 | mm (max:Bool) (x y:X)
 | mksl (sz bytes:Nat) (z:Z) (l c:X)
 | mkfn (f:Nat) (caps:List X)
 | mkmap (zk zv:Z)
 | mlook (s:ES) (z:Z) (ok:Bool) (m k:X)
 | mupd (s:ES) (m k x:X)
 | sidx (x i:X)
 | add64 (x y c:X)
 | mkmth (k:Nat) (x:X)
 | nilm (k:Nat) (ts:List Nat) (x:X)
 | mclone (x:X)
 | tas (t:Nat) (x:X)
 | b2s (x:X)
 | mm4 (max:Bool) (x y z w:X)
 | rng (x:X)
 | nxt (x:X)
 | nope
structure Out where
 pre:Prop
 v:V
 H:Hp
def Ci (H:Hp):Out:=⟨False,.junk,H⟩
def G7 (b:Bool) (x y:V):V :=
 match x,y with
 | .bool p,.bool q=>.bool (bif b then p else q)
 | x,y=>bif b then x else y
def Bm (op:BinOp) (x y:V) (H:Hp):Out :=
 match x,y with
 | .int k a, .int k' b =>
   match op with
   | .add=>⟨k=k',.int k (k.wrap (a + b)),H⟩
   | .sub=>⟨k=k',.int k (k.wrap (a - b)),H⟩
   | .mul=>⟨k=k',.int k (k.wrap (a * b)),H⟩
   | .quo=>⟨k=k'∧b ≠ 0,.int k (k.wrap (a.tdiv b)),H⟩
   | .rem=>⟨k=k'∧b ≠ 0,.int k (a.tmod b),H⟩
   | .and=>⟨k=k',.int k (k.wrap ((BitVec.ofInt k.bits a &&& BitVec.ofInt k.bits b).toNat)),H⟩
   | .or=>⟨k=k',.int k (k.wrap ((BitVec.ofInt k.bits a ||| BitVec.ofInt k.bits b).toNat)),H⟩
   | .xor=>⟨k=k',.int k (k.wrap ((BitVec.ofInt k.bits a ^^^ BitVec.ofInt k.bits b).toNat)),H⟩
   | .andNot=>⟨k=k',.int k (k.wrap ((BitVec.ofInt k.bits a &&& ~~~BitVec.ofInt k.bits b).toNat)),H⟩
   | .shl=>⟨0≤b,.int k (k.wrap (a * 2 ^ min b.toNat k.bits)),H⟩
   | .shr=>⟨0≤b,.int k (a.fdiv (2 ^ min b.toNat k.bits)),H⟩
   | .lss=>⟨k=k',.bool (decide (a < b)),H⟩
   | .leq=>⟨k=k',.bool (decide (a≤b)),H⟩
   | .gtr=>⟨k=k',.bool (decide (b < a)),H⟩
   | .geq=>⟨k=k',.bool (decide (b≤a)),H⟩
   | .eql=>⟨k=k',.bool (decide (a=b)),H⟩
   | .neq=>⟨k=k',.bool (!decide (a=b)),H⟩
 | _,_=>Ci H
def XB (op:UnOp) (x:V) (H:Hp):Out :=
 match op,x with
 | .not,.bool b=>⟨True,.bool (!b),H⟩
 | .neg,.int k n=>⟨True,.int k (k.wrap (0 - n)),H⟩
 | .xor,.int k n=>⟨True,.int k (k.wrap ((BitVec.ofInt k.bits (if k.signed then -1 else k.max) ^^^ BitVec.ofInt k.bits n).toNat)),H⟩
 | _,_=>Ci H
def CK (c:V) (A:List V):List (Stp × Nat × X)→V
 | []=>c
 | (s,_,x) :: r=>CK (V.set (x.ev A) [s] c) A r
def BT (c:V) (A:List V):List (Stp × Nat × X)→Prop
 | []=>True
 | (s,sz,x) :: r=>((x.ev A).solid=true∧c.ok [s]∧(x.ev A).size=sz∧(c.get [s]).size=sz)∧BT (V.set (x.ev A) [s] c) A r
def EG (A:List V):List X→Nat→V
 | [],_=>.fnil
 | x :: r,n=>.fcons n (x.ev A) (EG A r (n + 1))
def Dq (A:List V):List X→Prop
 | []=>True
 | x :: r=>((x.ev A).solid=true∧(x.ev A).isAgg=false)∧Dq A r
def Dy (H:Hp) (x:V):Option (Nat × Nat × (Nat→V)) :=
 match x with
 | .lst sz n f=>some (sz,n,f)
 | .sl id p o n sz => match (hget H id).get p with
   | .ar _ _ f=>some (sz,n,fun i=>f (o + i))
   | _=>none
 | .nils=>none
 | _=>none
def Cu (H:Hp) (x:V):Prop :=
 match x with
 | .sl id p o n sz=>Ag H id=true∧(hget H id).solid=true∧(hget H id).ok p∧(match (hget H id).get p with | .ar sz' m _=>sz'=sz∧o + n≤m | _=>False)
 | _=>True
def vI:V→Int
 | .int _ n=>n
 | _=>0
def Ss (max:Bool) (a b:Int):Int:=if max then (if a < b then b else a) else (if b < a then b else a)
def Auz:V→Prop
 | .int .u8 _=>True
 | _=>False
def Al5 (m:Nat) (g:Nat→V):ByteArray:=⟨((List.range m).map fun i=>UInt8.ofNat (vI (g i)).toNat).toArray⟩
def AN (A:List V) (d:Int):Option X→Int
 | none=>d
 | some x=>match x.ev A with | .int _ n=>n | _=>-1
def PS:V→Prop
 | .int _ _=>True
 | _=>False
def Cf (A:List V):Option X→Prop
 | none=>True
 | some x=>PS (x.ev A)
def AR (c:Bool):ES→V→V→Prop
 | .int,a,b=>(match a,b with | .int k _,.int k' _=>k=k' | _,_=>False)
 | .bool,a,b=>(match a,b with | .bool _,.bool _=>True | _,_=>False)
 | .str,a,b=>(match a,b with | .str _,.str _=>True | _,_=>False)
 | .ptr,a,b=>(match a,b with | .nilp,.nilp | .nilp,.ptr _ _ | .ptr _ _,.nilp | .nilp,.imm _ | .imm _,.nilp=>True | _,_=>False)
 | .iface ts, a, b => (match a, b with
   | .nili,.nili=>c=true
   | .nili,.ifc _ _ | .ifc _ _,.nili=>True
   | .ifc t (.int k _),.ifc t' (.int k' _)=>t ∈ ts∧t' ∈ ts∧k=k'
   | _,_=>False)
 | .nils k, a, b => (match k, a, b with
   | 0,.nils,.nils | 1,.nilm,.nilm | 1,.nilm,.map _ | 1,.map _,.nilm | 2,.nilf,.nilf | 2,.nilf,.fn _ _ | 2,.fn _ _,.nilf=>True
   | 0,.nils,.sl _ _ _ n _ | 0,.sl _ _ _ n _,.nils | 0,.nils,.lst _ n _ | 0,.lst _ n _,.nils=>0 < n
   | 1,.fm _ _ _,.nilm=>True
   | _,_,_=>False)
 | .nil,_,_=>True
 | .cons o sz agg s r,a,b=>((a.fhas o=true∧b.fhas o=true)∧((a.fget o).solid=true∧(a.fget o).size=sz∧(a.fget o).isAgg=agg)∧((b.fget o).solid=true∧(b.fget o).size=sz∧(b.fget o).isAgg=agg)∧AR c s (a.fget o) (b.fget o))∧AR c r a b
 | .st fs,a,b=>(match a,b with | .st _ x,.st _ y=>AR c fs x y | _,_=>False)
 | .ar n sz agg s,a,b=>(match a,b with | .ar sz' n' f,.ar sz'' n'' g=>(sz'=sz∧sz''=sz∧n'=n∧n''=n)∧∀ i,i < n→(f i).isAgg=agg∧(g i).isAgg=agg∧AR c s (f i) (g i) | _,_=>False)
def AX:ES→V→V→Bool
 | .int,a,b=>(match a,b with | .int _ x,.int _ y=>decide (x=y) | _,_=>false)
 | .bool,a,b=>(match a,b with | .bool x,.bool y=>decide (x=y) | _,_=>false)
 | .str,a,b=>(match a,b with | .str x,.str y=>x == y | _,_=>false)
 | .ptr,a,b=>(match a,b with | .nilp,.nilp=>true | _,_=>false)
 | .iface _, a, b => (match a, b with
   | .nili,.nili=>true
   | .ifc t (.int _ x),.ifc t' (.int _ y)=>t == t' && decide (x=y)
   | _,_=>false)
 | .nils _,a,b=>(match a,b with | .nils,.nils | .nilm,.nilm | .nilf,.nilf=>true | _,_=>false)
 | .nil,_,_=>true
 | .cons o _ _ s r,a,b=>AX s (a.fget o) (b.fget o) && AX r a b
 | .st fs,a,b=>(match a,b with | .st _ x,.st _ y=>AX fs x y | _,_=>false)
 | .ar n _ _ s,a,b=>(match a,b with | .ar _ _ f,.ar _ _ g=>(List.range n).all (fun i=>AX s (f i) (g i)) | _,_=>false)
def HS (s:ES) (k:V) (ks:Nat→V):Nat→Nat→Option Nat
 | _,0=>none
 | i,c + 1=>if AX s k (ks i) then some i else HS s k ks (i + 1) c
def Np (s:ES) (z:Z) (ok:Bool) (m k:V) (H:Hp):Out:=match m with
 | .map id => match hget H id with
   | .mp n ks vs=>⟨Ag H id=true∧k.solid=true∧AR true s k k∧∀ i,i < n→AR true s k (ks i),
    (match HS s k ks 0 n with
    | some i=>if ok then .tup (.fcons 0 (vs i) (.fcons 1 (.bool true) .fnil)) else vs i
    | none=>if ok then .tup (.fcons 0 (z.v 0) (.fcons 1 (.bool false) .fnil)) else z.v 0),H⟩
   | _=>Ci H
 | _=>Ci H
def Aam (s:ES) (m k x:V) (H:Hp):Out:=match m with
 | .map id => match hget H id with
   | .mp n ks vs=>⟨Ag H id=true∧k.solid=true∧x.solid=true∧AR true s k k∧∀ i,i < n→AR true s k (ks i),.tup .fnil,
    CA H id (.mp (match HS s k ks 0 n with | some _=>n | none=>n + 1) (fun j=>if j=(HS s k ks 0 n).getD n then k else ks j) (fun j=>if j=(HS s k ks 0 n).getD n then x else vs j))⟩
   | _=>Ci H
 | _=>Ci H
def Af (A:List V) (H:Hp) (n:Nat):LO→Out
 | .mv x=>⟨True,x.ev A,H⟩
 | .pick c a b => match c.ev A with
   | .bool t=>⟨True,G7 t (a.ev A) (b.ev A),H⟩
   | _=>Ci H
 | .ari op x y=>Bm op (x.ev A) (y.ev A) H
 | .eq neg c s x y=>⟨AR c s (x.ev A) (y.ev A),.bool (neg ^^ AX s (x.ev A) (y.ev A)),H⟩
 | .un op x=>XB op (x.ev A) H
 | .conv k x => match x.ev A with
   | .int _ a=>⟨True,.int k (k.wrap a),H⟩
   | _=>Ci H
 | .alloc z=>⟨True,.ptr n [],(n,z.v 0) :: H⟩
 | .box x=>⟨(x.ev A).solid=true,.ptr n [],(n,x.ev A) :: H⟩
 | .build z ps=>⟨BT (z.v 0) A ps,CK (z.v 0) A ps,H⟩
 | .bsl sz m z ps=>⟨BT (.ar sz m (fun _=>z.v 0)) A ps,.sl n [] 0 m sz,(n,CK (.ar sz m (fun _=>z.v 0)) A ps) :: H⟩
 | .load agg sz x => match x.ev A with
   | .ptr id p=>⟨(Ag H id=true∧(hget H id).solid=true∧(hget H id).ok p)∧((hget H id).get p).solid=true∧((hget H id).get p).size=sz∧((hget H id).get p).isAgg=agg,(hget H id).get p,H⟩
   | .imm v=>⟨v.solid=true∧v.size=sz∧v.isAgg=agg,v,H⟩
   | _=>Ci H
 | .store sz x y => match x.ev A with
   | .ptr id p=>⟨(Ag H id=true∧(hget H id).solid=true∧(hget H id).ok p∧HV p=true)∧(y.ev A).solid=true∧(y.ev A).size=sz∧((hget H id).get p).size=sz,.tup .fnil,CA H id (V.set (y.ev A) p (hget H id))⟩
   | _=>Ci H
 | .nilc x => match x.ev A with
   | .ptr id p=>⟨True,.ptr id p,H⟩
   | .imm v=>⟨True,.imm v,H⟩
   | .fn f c=>⟨f < 1000000,.fn f c,H⟩
   | .ifc t v=>⟨True,.ifc t v,H⟩
   | _=>Ci H
 | .fadr off x => match x.ev A with
   | .ptr id p=>⟨True,.ptr id (D9 p (.f off)),H⟩
   | .imm v=>⟨v.solid=true∧v.ok [.f off],.imm (v.get [.f off]),H⟩
   | _=>Ci H
 | .iarr m sz x i => match x.ev A, i.ev A with
   | .ptr id p,.int _ a=>⟨0≤a∧a < m,.ptr id (D9 p (.i sz a.toNat)),H⟩
   | .imm v,.int _ a=>⟨(0≤a∧a < m)∧v.solid=true∧v.ok [.i sz a.toNat],.imm (v.get [.i sz a.toNat]),H⟩
   | _,_=>Ci H
 | .isl sz x i => match x.ev A, i.ev A with
   | .sl id p o m sz',.int _ a=>⟨(0≤a∧a < m)∧sz'=sz,.ptr id (D9 p (.i sz (o + a.toNat))),H⟩
   | .lst sz' m f,.int _ a=>⟨(0≤a∧a < m)∧sz'=sz,.imm (f a.toNat),H⟩
   | _,_=>Ci H
 | .idx m sz agg x i => match x.ev A, i.ev A with
   | .ar sz' m' f,.int _ a=>⟨(0≤a∧a < m)∧sz'=sz∧m'=m∧(f a.toNat).isAgg=agg,f a.toNat,H⟩
   | _,_=>Ci H
 | .fld off sz agg x => match x.ev A with
   | .st m fs=>⟨fs.fhas off=true∧(fs.fget off).solid=true∧(fs.fget off).size=sz∧(fs.fget off).isAgg=agg,fs.fget off,H⟩
   | _=>Ci H
 | .slarr m sz x lo hi => match x.ev A with
   | .ptr id p=>⟨(Cf A lo∧Cf A hi∧0≤AN A 0 lo∧AN A 0 lo≤AN A m hi∧AN A m hi≤m)∧Ag H id=true∧(hget H id).solid=true∧(hget H id).ok p∧(match (hget H id).get p with | .ar sz' m' _=>sz'=sz∧m'=m | _=>False),
    .sl id p (AN A 0 lo).toNat ((AN A m hi).toNat - (AN A 0 lo).toNat) sz,H⟩
   | .imm v => match v with
     | .ar sz' m' f=>⟨(Cf A lo∧Cf A hi∧0≤AN A 0 lo∧AN A 0 lo≤AN A m hi∧AN A m hi≤m)∧sz'=sz∧m'=m,.lst sz ((AN A m hi).toNat - (AN A 0 lo).toNat) (fun i=>f ((AN A 0 lo).toNat + i)),H⟩
     | _=>Ci H
   | _=>Ci H
 | .slsl sz x lo hi => match x.ev A with
   | .sl id p o m sz'=>⟨(Cf A lo∧Cf A hi∧0≤AN A 0 lo∧AN A 0 lo≤AN A m hi∧AN A m hi≤m)∧sz'=sz,.sl id p (o + (AN A 0 lo).toNat) ((AN A m hi).toNat - (AN A 0 lo).toNat) sz,H⟩
   | .lst sz' m f=>⟨(Cf A lo∧Cf A hi∧0≤AN A 0 lo∧AN A 0 lo≤AN A m hi∧AN A m hi≤m)∧sz'=sz,.lst sz ((AN A m hi).toNat - (AN A 0 lo).toNat) (fun i=>f ((AN A 0 lo).toNat + i)),H⟩
   | .nils=>⟨Cf A lo∧Cf A hi∧AN A 0 lo=0∧AN A 0 hi=0,.nils,H⟩
   | _=>Ci H
 | .s2a m sz x => match x.ev A with
   | .sl id p o l sz'=>⟨(sz'=sz∧m≤l∧0 < m),.ptr id (D9 p (.r sz o m)),H⟩
   | .lst sz' l f=>⟨sz'=sz∧m≤l∧0 < m,.imm (.ar sz m f),H⟩
   | _=>Ci H
 | .mkif t x=>⟨(x.ev A).solid=true,.ifc t (x.ev A),H⟩
 | .ext x i => match x.ev A with
   | .tup fs=>⟨fs.fhas i=true,fs.fget i,H⟩
   | _=>Ci H
 | .len k x => match k, x.ev A with
   | 0,.sl _ _ _ m _=>⟨True,.int .i64 m,H⟩
   | 0,.lst _ m _=>⟨True,.int .i64 m,H⟩
   | 0,.nils=>⟨True,.int .i64 0,H⟩
   | 1,.str s=>⟨True,.int .i64 s.size,H⟩
   | 2,.nilm=>⟨True,.int .i64 0,H⟩
   | 2, .map id => match hget H id with
     | .mp m _ _=>⟨Ag H id=true,.int .i64 m,H⟩
     | _=>Ci H
   | _,_=>Ci H
 | .app sz bytes x y =>
   match x.ev A,Dy H (y.ev A) with
   | .nils,some (sz',m,g)=>⟨sz'=sz∧Cu H (y.ev A)∧0 < m∧m * bytes≤2 ^ 47,.sl n [] 0 m sz,(n,.ar sz m g) :: H⟩
   | .sl id p o l sz'', some (sz', m, g) =>
     match hget H id with
     | .ar _ l' f=>⟨(sz'=sz∧sz''=sz∧p=[]∧o=0)∧(Ag H id=true∧(hget H id).solid=true∧(match hget H id with | .ar s _ _=>s=sz | _=>False)∧l≤l')∧Cu H (y.ev A)∧(l + m) * bytes≤2 ^ 47,
      .sl n [] 0 (l + m) sz,(n,.ar sz (l + m) (fun i=>if i < l then f i else g (i - l))) :: BZ H id⟩
     | _=>Ci H
   | _,_=>Ci H
 | .copy sz x y =>
   match x.ev A,Dy H (y.ev A) with
   | .sl id p o l sz'', some (sz', m, g) =>
     match (hget H id).get p with
     | .ar s l' f=>⟨(sz'=sz∧sz''=sz∧s=sz)∧(Ag H id=true∧(hget H id).solid=true∧(hget H id).ok p∧HV p=true∧o + l≤l')∧Cu H (y.ev A),.int .i64 (min m l:Nat),
      CA H id (V.set (.ar sz l' (fun i=>if o≤i∧i < o + min m l then g (i - o) else f i)) p (hget H id))⟩
     | _=>Ci H
   | .sl _ _ _ _ _,none=>⟨match y.ev A with | .nils=>True | _=>False,.int .i64 0,H⟩
   | _,_=>Ci H
 | .mm max x y => match x.ev A, y.ev A with
   | .int k a,.int k' b=>⟨k=k',.int k (if max then (if a < b then b else a) else (if b < a then b else a)),H⟩
   | _,_=>Ci H
 | .mksl sz bytes z l c => match l.ev A, c.ev A with
   | .int k a,.int k' b=>⟨k = .i64∧k' = .i64∧0≤a∧a≤b∧b * bytes≤2 ^ 47∧b < 2 ^ 47,.sl n [] 0 a.toNat sz,(n,.ar sz b.toNat (fun _=>z.v 0)) :: H⟩
   | _,_=>Ci H
 | .mkmap zk zv=>⟨True,.map n,(n,.mp 0 (fun _=>zk.v 0) (fun _=>zv.v 0)) :: H⟩
 | .mlook s z ok m k=>Np s z ok (m.ev A) (k.ev A) H
 | .mupd s m k x=>Aam s (m.ev A) (k.ev A) (x.ev A) H
 | .mkfn f caps=>⟨Dq A caps,.fn f (.st caps.length (EG A caps 0)),H⟩
 | .sidx x i => match x.ev A, i.ev A with
   | .str s,.int _ a=>⟨0≤a∧a < s.size,.int .u8 ((s[a.toNat]?).getD 0).toNat,H⟩
   | _,_=>Ci H
 | .add64 x y z => match x.ev A, y.ev A, z.ev A with
   | .int .u64 a,.int .u64 b,.int .u64 c=>⟨0≤a∧0≤b∧0≤c∧c≤1,.tup (.fcons 0 (.int .u64 ((a + b + c) % 18446744073709551616)) (.fcons 1 (.int .u64 ((a + b + c) / 18446744073709551616)) .fnil)),H⟩
   | _,_,_=>Ci H
 | .mkmth k x => match x.ev A with
   | .ifc t v=>⟨True,.fn (1000000 + k) (.st 1 (.fcons 0 (.ifc t v) .fnil)),H⟩
   | _=>Ci H
 | .nilm k ts x => match x.ev A with
   | .fn f (.st m (.fcons j (.ifc t v) r))=>⟨f=1000000 + k∧t ∈ ts∧m=1∧j=0,.fn f (.st m (.fcons j (.ifc t v) r)),H⟩
   | _=>Ci H
 | .mclone x => match x.ev A with
   | .ifc t (.map id) => match hget H id with
     | .mp m ks vs=>⟨Ag H id=true,.ifc t (.map n),(n,.mp m ks vs) :: H⟩
     | _=>Ci H
   | .ifc t (.fm m ks vs)=>⟨True,.ifc t (.map n),(n,.mp m ks vs) :: H⟩
   | _=>Ci H
 | .tas t x => match x.ev A with
   | .ifc t' v=>⟨t'=t,v,H⟩
   | _=>Ci H
 | .b2s x => match Dy H (x.ev A) with
   | some (sz,m,g)=>⟨sz=1∧Cu H (x.ev A)∧0 < m∧∀ i,i < m→Auz (g i),.str (Al5 m g),H⟩
   | none=>Ci H
 | .mm4 max x y z w => match x.ev A, y.ev A, z.ev A, w.ev A with
   | .int k a,.int k1 b,.int k2 c,.int k3 d=>⟨k=k1∧k=k2∧k=k3,.int k (Ss max (Ss max (Ss max a b) c) d),H⟩
   | _,_,_,_=>Ci H
 | .rng x => match x.ev A with
   | .map id => match hget H id with
     | .mp _ _ _=>⟨Ag H id=true,.ptr n [],(n,.tup (.map id)) :: H⟩
     | _=>Ci H
   | _=>Ci H
 | .nxt x => match x.ev A with
   | .ptr id [] => match hget H id with
     | .tup (.map j) => match hget H j with
       | .mp m _ _=>⟨m=0∧Ag H id=true∧Ag H j=true,.tup (.fcons 0 (.bool false) .fnil),H⟩
       | _=>Ci H
     | _=>Ci H
   | _=>Ci H
 | .nope=>Ci H
variable {M:Seat}
def An9 (_M:Seat) (v:Value) (u:V):Bool :=
 match v,u with
 | .int k n,.int k' n'=>decide (k=k') && decide (n=n')
 | .bool b,.bool b'=>b == b'
 | .string s,.str s'=>s.data == s'.data
 | .pointer none,.nilp=>true
 | .slice none 0 0,.nils=>true
 | .map none,.nilm=>true
 | .nilFunc,.nilf=>true
 | .nilIface,.nili=>true
 | _,_=>false
def A8 (M:Seat) (x:Operand) (y:X):Bool :=
 match x,y with
 | .tmp t,.t t'=>t == t'
 | .const v,.c u=>An9 M v u
 | .global g,.g g'=>M.γ g' == g && M.gl.contains g'
 | .func f,.fn f'=>M.φ f' == f && decide (f' < 1000000)
 | _,_=>false
theorem Aj0 {e:Env} {v:Value} {u:V} (h:An9 M v u=true):RV e u v:=by
 unfold An9 at h;split at h
 ·simp only [Bool.and_eq_true,decide_eq_true_eq] at h;obtain ⟨rfl,rfl⟩:=h;simp [RV,RS,V.isAgg,R]
 ·simp only [beq_iff_eq] at h;subst h;simp [RV,RS,V.isAgg,R]
 ·rename_i s s';have:s=s':=by
   cases s;cases s';simp only [beq_iff_eq] at h;simp_all
  subst this;simp [RV,RS,V.isAgg,R]
 all_goals first
  | (cases h;done)
  | simp [RV,RS,V.isAgg,R]
structure FR (e:Env) (A:List V) (tmps:Array Value):Prop where
 len:tmps.size=A.length
 val:∀ t,RV e (A.getD t .junk) (tmps.getD t undef)
def DE (M:Seat) (e:Env):X→Prop
 | .g g=>R e (.imm (Wk g)) [.pointer (some ⟨M.γ g,0,none⟩)]
 | _=>True
theorem A9 {e:Env} (hφ:e.φ=M.φ) {A:List V} {a:Act} (hA:FR e A a.tmps) {x:Operand} {y:X} (h:A8 M x y=true) (hg:DE M e y):RV e (y.ev A) (a.eval x):=by
 unfold A8 at h;split at h
 ·simp only [beq_iff_eq] at h;subst h;exact hA.val _
 ·exact Aj0 h
 ·simp only [Bool.and_eq_true,beq_iff_eq] at h;obtain ⟨rfl,_⟩:=h;simpa [X.ev,RV,RS,V.isAgg,Act.eval,DE] using hg
 ·simp only [Bool.and_eq_true,beq_iff_eq,decide_eq_true_eq] at h;obtain ⟨rfl,hlt⟩:=h;simp only [X.ev,RV,RS,V.isAgg,Act.eval,R];exact ⟨[],by rw [hφ,Sa,if_pos hlt],by simp [V.chain]⟩
 ·cases h
theorem Dd {c:Ctx} {e:Env} {H:Hp} (hI:Inv M c e H) {x:Operand} {y:X} (h:A8 M x y=true):DE M e y:=by
 cases y <;> try trivial
 cases x <;> simp only [A8,Bool.false_eq_true,Bool.and_eq_true,List.contains_iff_mem] at h;exact hI.gs.1 _ h.2
def Gl (M:Seat) (t:TypeId):Option Nat:=(M.P.info? t).map (·.size)
def I4 (M:Seat) (t:TypeId):Option Bool:=(M.P.underlying t).map (fun d=>match d with | .struct _ | .array _ _=>true | _=>false)
theorem BU {t:TypeId} {n:Nat} (h:Gl M t=some n) (w:World):(Go.sizeOf t).run M.P w=Result.ok n w:=by
 unfold Gl at h;cases hi:M.P.info? t with
 | none=>simp [hi] at h
 | some i=>simp [hi] at h;subst h;simp [Go.sizeOf,typeInfo,hi]
theorem QJ {t:TypeId} {b:Bool} (h:I4 M t=some b) (w:World):(Go.isAgg t).run M.P w=Result.ok b w:=by
 unfold I4 at h;cases hu:M.P.underlying t with
 | none=>simp [hu] at h
 | some d =>
   simp only [hu,Option.map_some,Option.some.injEq] at h;unfold Go.isAgg;rw [Sem.run_bind,run_underlying hu];simp only [Result.andThen_ok];subst h;cases d <;> rfl
def BO (M:Seat) (c:Ctx) (e:Env) (n:Nat) (out:Out) (r:Result Next):Prop :=
 ∃ x e',(r = .ok (.value x) e'.w ∨ (r = .ok .skip e'.w∧x=undef))∧e.le e'∧Inv M c e' out.H∧RV e' out.v x∧(∀ id,e'.D id→e.D id ∨ id=n)
theorem An {c:Ctx} {e:Env} {H:Hp} {n:Nat} {out:Out} {r:Result Next} {x:Value} (hI:Inv M c e H) (hr:r = .ok (.value x) e.w) (hH:out.H=H) (hv:RV e out.v x):BO M c e n out r :=
 ⟨x,e,.inl hr,Env.le_refl e,hH ▸ hI,hv,fun _ h=>.inl h⟩
theorem LQ {w:World} {b o n:Nat} {c:Array Value} {el:TypeId} {fz:Nat × Nat} (hb:w.heap[b]?=some (.cells c el fz)) (_hl:o + n≤c.size) :
 ∀ j v,((c.toList.drop o).take n)[j]?=some v→w.cell? ((⟨b,o,none⟩:Addr).add j)=some v:=by
 intro j v hj;rw [List.getElem?_take] at hj;split at hj
 ·rw [List.getElem?_drop] at hj;unfold Addr.add;split
  ·rename_i h0;subst h0;simpa [World.cell?,hb] using hj
  ·simpa [World.cell?,hb] using hj
 ·cases hj
theorem Gu {t:TypeId} {agg:Bool} {n:Nat} (hs:Gl M t=some n) (ha:I4 M t=some agg) {w:World} {b o:Nat} {c:Array Value} {el:TypeId} {fz:Nat × Nat} (hb:w.heap[b]?=some (.cells c el fz)) (hl:o + n≤c.size) (h1:agg=false→n=1) :
 (Instr.loadAt t (.pointer (some ⟨b,o,none⟩))).run M.P w = .ok (if agg then .agg ((c.toList.drop o).take n).toArray else c.getD o undef) w:=by
 have hlen:((c.toList.drop o).take n).length=n:=FY;unfold Instr.loadAt Instr.sureAddr loadVar;simp only [FW,QJ ha,BU hs];cases agg with
 | true =>
   simp only [if_true,Vc,BU hs];have:=run_loadCells_list (P:=M.P) w ⟨b,o,none⟩ _ (LQ hb hl);rw [hlen] at this;simp [this]
 | false =>
   have hn:=h1 rfl;subst hn;have hc:w.cell? ⟨b,o,none⟩=some (c.getD o undef):=by
    have:o < c.size:=Aa;simp [World.cell?,hb,this]
   simp [hc]
theorem Aaw {c:Array Value} {o:Nat} (h:o < c.size):(c.toList.drop o).take 1=[c.getD o undef]:=by
 apply List.ext_getElem?;intro i;rw [List.getElem?_take];cases i with
 | zero=>simp [h]
 | succ i=>simp
theorem E5 {e:Env} {v:V} {agg:Bool} {c:Array Value} {o n:Nat} (hs:v.solid=true) (hsz:v.size=n) (ha:v.isAgg=agg) (hl:o + n≤c.size) (h:R e v ((c.toList.drop o).take n)) :
 (agg=false→n=1)∧RV e v (if agg then .agg ((c.toList.drop o).take n).toArray else c.getD o undef):=by
 have h1:agg=false→n=1:=fun hf=>by
  subst hf;cases v <;> simp_all [V.isAgg,V.size]
 refine ⟨h1,?_⟩;rw [Bh hs];unfold RS;rw [ha];cases agg with
 | true=>exact ⟨_,rfl,h⟩
 | false =>
   have hn:=h1 rfl;subst hn;rw [Aaw Aa] at h;simpa using h
theorem Wn {c:Ctx} {e:Env} {H:Hp} {A:List V} {a:Act} (hI:Inv M c e H) (hA:FR e A a.tmps) (n:Nat) {t:TypeId} {x:Operand} {agg:Bool} {sz:Nat} {y:X}
 (hs:Gl M t=some sz) (ha:I4 M t=some agg) (hx:A8 M x y=true) (hg:DE M e y) (hp:(Af A H n (.load agg sz y)).pre) :
 BO M c e n (Af A H n (.load agg sz y)) (Sem.run M.P (do pure (Next.value (← Instr.loadAt t (a.eval x)))) e.w):=by
 have hv:=A9 hI.φ hA hx hg;simp only [Af] at hp ⊢;split at hp
 ·rename_i id p hy;simp only [hy] at *
  obtain ⟨⟨h1,h2,h3⟩,h4,h5,h6⟩:=hp;obtain ⟨cells,el,hc,hsz,hR⟩:=hI.cells h1 h2;have hlen:(cells.toList.take (hget H id).size).length=(hget H id).size:=FY;obtain ⟨g1,g2⟩:=E7 hR hlen h3;rw [hlen] at g1;have g3:R e ((hget H id).get p) ((cells.toList.drop (Az p)).take sz):=by
   rw [List.drop_take,List.take_take,Nat.min_eq_left Aa,h5] at g2;exact g2
  have hle:Az p + sz≤cells.size:=Aa;obtain ⟨k1,k2⟩:=E5 (o:=Az p) h4 h5 h6 hle g3;simp only [RV,RS,V.isAgg,R,Gd] at hv;refine An hI ?_ rfl k2;rw [hv.2];rw [Sem.run_bind,Gu hs ha hc hle k1];rfl
 ·rename_i v hy;simp only [hy] at *
  obtain ⟨h4,h5,h6⟩:=hp;simp only [RV,RS,V.isAgg,R,Gd] at hv;obtain ⟨b,o,cells,el,fz,hc,hi,hb,hl,hR⟩:=hv;rw [h5] at hl hR;obtain ⟨k1,k2⟩:=E5 h4 h5 h6 hl hR;refine An hI ?_ rfl k2;rw [hc];rw [Sem.run_bind,Gu hs ha hb hl k1];rfl
 ·exact hp.elim
theorem Ty {c:Ctx} {e:Env} {H:Hp} {A:List V} {a:Act} (hI:Inv M c e H) (hA:FR e A a.tmps) (n:Nat) {t:TypeId} {x x':Operand} {sz:Nat} {y y':X}
 (hs:Gl M t=some sz) (hx:A8 M x y=true) (hg:DE M e y) (hx':A8 M x' y'=true) (hg':DE M e y') (hp:(Af A H n (.store sz y y')).pre) :
 BO M c e n (Af A H n (.store sz y y')) (Sem.run M.P (do Instr.storeAt t (a.eval x) (a.eval x');pure Next.skip) e.w):=by
 have hv:=A9 hI.φ hA hx hg;have hv':=A9 hI.φ hA hx' hg';simp only [Af] at hp ⊢;split at hp
 ·rename_i id p hy;simp only [hy] at *
  obtain ⟨⟨h1,h2,h3,h4⟩,h5,h6,h7⟩:=hp;obtain ⟨cells,el,hc,hsz,hR⟩:=hI.cells h1 h2;have hlen:(cells.toList.take (hget H id).size).length=(hget H id).size:=FY;obtain ⟨g1,g2⟩:=E7 hR hlen h3;rw [hlen] at g1;rw [Bh h5] at hv';have hRy:=L9 h5 hv';have hyl:=Nz h5 hRy;have h1c:=Lq h5 hRy;generalize a.eval x'=xv at *
  simp only [RV,RS,V.isAgg,R,Gd] at hv;have hoff:Az p + xv.cells.toList.length≤cells.size:=Aa;have hst:=run_storeCells_at M.P (e.ρ id) (Az p) el xv.cells.toList 0 cells e.w hc (by simpa using hoff) h1c;simp only [Nat.add_zero] at hst;have hnew:(cells.toList.take (Az p) ++ xv.cells.toList ++ cells.toList.drop (Az p + xv.cells.toList.length))=A7 cells.toList (Az p) xv.cells.toList:=rfl;rw [hnew] at hst;have hsp:(A7 cells.toList (Az p) xv.cells.toList).length=cells.toList.length:=Bc (by simpa using hoff);have hszn:(A7 cells.toList (Az p) xv.cells.toList).toArray.size=cells.size:=by simpa using hsp
  have CA:=QM h5 hRy hyl hR hlen h4 h3 Aa;have hzz:=V.set_size (y'.ev A) p (hget H id) h4 h3 Aa;have hzs:=V.set_solid h5 p (hget H id) h4 h3 h2;have hRn:R e (V.set (y'.ev A) p (hget H id)) ((A7 cells.toList (Az p) xv.cells.toList).toArray.toList.take (V.set (y'.ev A) p (hget H id)).size):=by
   rw [hzz];have:(A7 cells.toList (Az p) xv.cells.toList).take (hget H id).size=A7 (cells.toList.take (hget H id).size) (Az p) xv.cells.toList:=by
    have:=Fo (cs:=cells.toList) (ys:=xv.cells.toList) (o:=Az p) (a:=0) (n:=(hget H id).size) (b:=Az p) (by simpa using hoff) Aa Aa FY;simpa using this
   simp only [this];exact CA
  obtain ⟨r1,r2⟩:=hI.row h1 hc hszn hzs (by rw [hzz,hszn];exact hsz) hRn;refine ⟨undef,_,.inr ⟨?_,rfl⟩,r1,r2,?_,fun _ h=>.inl h⟩
  ·rw [hv.2];have hcs:¬ (xv.cells.size ≠ sz):=by
    have:xv.cells.toList.length=xv.cells.size:=B9;omega
   simp only [Instr.storeAt,Instr.sureAddr,storeVar,FW,BU hs,hcs,if_false,hst]
  ·exact ⟨#[],rfl,trivial⟩
 ·exact hp.elim
variable {M:Seat}
theorem AP {P:Program} {s:Sem Value} {w w':World} {x:Value} (h:s.run P w = .ok x w'):(do pure (Next.value (← s)):Sem Next).run P w = .ok (.value x) w':=by
 rw [Sem.run_bind,h];rfl
theorem GA {t:TypeId} {x:Value} (h:(M.P.info? t).bind (·.zero)=some x) (w:World):(zeroValue t).run M.P w = .ok x w:=by
 cases hi:M.P.info? t with
 | none=>simp [hi] at h
 | some i=>simp [hi] at h;simp [zeroValue,typeInfo,hi,h]
theorem Inv.newCells {c:Ctx} {e:Env} {H:Hp} (hI:Inv M c e H) {n:Nat} (hn:¬ e.D n) (hk:c.k≤n) {cells:Array Value} {el:TypeId} {z:V} (hs:z.solid=true) (hsz:z.size≤cells.size) (hR:R e z (cells.toList.take z.size)) :
 e.le (e.new n (.cells cells el))∧Inv M c (e.new n (.cells cells el)) ((n,z) :: H)∧(e.new n (.cells cells el)).ρ n=e.w.heap.size∧(e.new n (.cells cells el)).D n∧Da (e.new n (.cells cells el)).w e.w.heap.size=cells.size:=by
 have hle:=Env.le_new (.cells cells el) hn hI.imlt;have hρ:(e.new n (.cells cells el)).ρ n=e.w.heap.size:=Wr;have hh:(e.new n (.cells cells el)).w.heap[e.w.heap.size]?=some (.cells cells el):=CW _ _;refine ⟨hle,hI.new hn hk ((CT hs).2 ⟨cells,el,by rw [hρ];exact hh,hsz,Cw hle hR⟩),hρ,.inl rfl,?_⟩;unfold Da;rw [hh]
theorem Hy {e:Env} {n:Nat} {o:Obj}:∀ id,(e.new n o).D id→e.D id ∨ id=n:=fun _ h=>h.elim .inr .inl
theorem Nu {e:Env} {n:Nat} (hD:e.D n) {b:Nat} (hρ:e.ρ n=b):RV e (.ptr n []) (.pointer (some ⟨b,0,none⟩)):=by
 subst hρ;simp [RV,RS,V.isAgg,R,Az,hD]
theorem Ul {c:Ctx} {e:Env} {H:Hp} {A:List V} (hI:Inv M c e H) {n:Nat} (hn:¬ e.D n) (hk:c.k≤n) {t:TypeId} {z:Z} {x:Value} (hz:(M.P.info? t).bind (·.zero)=some x) (hzc:z.chk x=true) :
 BO M c e n (Af A H n (.alloc z)) (Sem.run M.P (do pure (Next.value (← Instr.alloc t true (.tuple #[])))) e.w):=by
 obtain ⟨h1,h2,h3,h4⟩:=Z.chk_R e hzc;obtain ⟨r1,r2,r3,r4,_⟩:=hI.newCells hn hk (cells:=x.cells) (el:=t) h3 Aa (by rw [h4,List.take_of_length_le FY];exact h2);refine ⟨_,_,.inl (AP ?_),r1,r2,Nu r4 r3,Hy⟩;simp only [Instr.alloc,FW,GA hz,newVar,newRow,run_newObj];rfl
theorem Yw {c:Ctx} {e:Env} {H:Hp} {A:List V} {a:Act} (hI:Inv M c e H) (hA:FR e A a.tmps) {n:Nat} (hn:¬ e.D n) (hk:c.k≤n) {t:TypeId} {x:Operand} {y:X}
 (hx:A8 M x y=true) (hg:DE M e y) (hp:(Af A H n (.box y)).pre) :
 BO M c e n (Af A H n (.box y)) (Sem.run M.P (do pure (Next.value (← Instr.box t (a.eval x)))) e.w):=by
 have hv:=A9 hI.φ hA hx hg;simp only [Af] at hp ⊢;rw [Bh hp] at hv;have hRy:=L9 hp hv;have hyl:=Nz hp hRy;generalize a.eval x=xv at *
 have hyl':xv.cells.size=(y.ev A).size:=by simpa using hyl
 obtain ⟨r1,r2,r3,r4,_⟩:=hI.newCells hn hk (cells:=xv.cells) (el:=t) hp Aa (by rw [List.take_of_length_le Aa];exact hRy);refine ⟨_,_,.inl (AP ?_),r1,r2,Nu r4 r3,Hy⟩;simp only [Instr.box,newVar,newRow,FW,run_newObj];rfl
theorem Vj {c:Ctx} {e:Env} {H:Hp} {A:List V} {a:Act} (hI:Inv M c e H) (hA:FR e A a.tmps) {n:Nat} {x:Operand} {y:X} (hx:A8 M x y=true) (hg:DE M e y) :
 BO M c e n (Af A H n (.mv y)) (Sem.run M.P (pure (Next.value (a.eval x))) e.w) :=
 An hI rfl rfl (A9 hI.φ hA hx hg)
theorem FL {e:Env} {b:Bool} {x:Value} (h:RV e (.bool b) x):x = .bool b:=TD
theorem Ce {e:Env} {k:IntKind} {i:Int} {x:Value} (h:RV e (.int k i) x):x = .int k i:=TD
theorem CY {e:Env} (b:Bool):RV e (.bool b) (.bool b):=by simp [RV,RS,V.isAgg,R]
theorem BH {e:Env} (k:IntKind) (i:Int):RV e (.int k i) (.int k i):=by simp [RV,RS,V.isAgg,R]
theorem VE {c:Ctx} {e:Env} {H:Hp} {A:List V} {a:Act} (hI:Inv M c e H) (hA:FR e A a.tmps) {n:Nat} {x1 x2 x3:Operand} {y1 y2 y3:X}
 (h1:A8 M x1 y1=true) (g1:DE M e y1) (h2:A8 M x2 y2=true) (g2:DE M e y2) (h3:A8 M x3 y3=true) (g3:DE M e y3) (hp:(Af A H n (.pick y1 y2 y3)).pre) :
 BO M c e n (Af A H n (.pick y1 y2 y3)) (Sem.run M.P (do pure (.value (if ← asBool (a.eval x1) then a.eval x2 else a.eval x3))) e.w):=by
 have v1:=A9 hI.φ hA h1 g1;have v2:=A9 hI.φ hA h2 g2;have v3:=A9 hI.φ hA h3 g3;simp only [Af] at hp ⊢;split at hp
 ·rename_i t hy;simp only [hy] at *
  have e1:=FL v1;refine An hI (x:=if t then a.eval x2 else a.eval x3) ?_ rfl ?_
  ·rw [e1];simp only [asBool,FW]
  ·simp only [G7];split
   ·rename_i p q hp' hq';rw [hp'] at v2;rw [hq'] at v3;rw [FL v2,FL v3];cases t <;> simp [CY]
   ·cases t
    ·exact v3
    ·exact v2
 ·exact hp.elim
theorem Kc {P:Program} {w:World} (op:BinOp) (t:TypeId) (x y:Operand) (k k':IntKind) (i j:Int):(eqGuard op t x y (.int k i) (.int k' j)).run P w = .ok () w:=by
 unfold eqGuard;cases op <;> rfl
theorem Abf {c:Ctx} {e:Env} {H:Hp} {A:List V} {a:Act} (hI:Inv M c e H) (hA:FR e A a.tmps) {n:Nat} {t:TypeId} {op:BinOp} {x1 x2:Operand} {y1 y2:X}
 (h1:A8 M x1 y1=true) (g1:DE M e y1) (h2:A8 M x2 y2=true) (g2:DE M e y2) (hp:(Af A H n (.ari op y1 y2)).pre) :
 BO M c e n (Af A H n (.ari op y1 y2)) (Sem.run M.P (do pure (Next.value (← (do eqGuard op t x1 x2 (a.eval x1) (a.eval x2);binOp op t (a.eval x1) (a.eval x2))))) e.w):=by
 have v1:=A9 hI.φ hA h1 g1;have v2:=A9 hI.φ hA h2 g2;simp only [Af,Bm] at hp ⊢;split at hp
 ·rename_i k i k' j hy1 hy2;rw [hy1] at v1;rw [hy2] at v2;have e1:=Ce v1;have e2:=Ce v2;rw [e1,e2];have hguard:=Kc (P:=M.P) (w:=e.w) op t x1 x2 k k' i j;cases op <;> simp only at hp ⊢;case shl =>
   refine An hI (x:=.int k (k.wrap (i * 2 ^ min j.toNat k.bits))) (AP ?_) rfl (BH _ _);rw [Sem.run_bind,hguard];have:¬ j < 0:=Aa;simp [binOp,Op.shift,this]
  case shr =>
   refine An hI (x:=.int k (i.fdiv (2 ^ min j.toNat k.bits))) (AP ?_) rfl (BH _ _);rw [Sem.run_bind,hguard];have:¬ j < 0:=Aa;simp [binOp,Op.shift,this]
  case quo =>
   obtain ⟨rfl,hj⟩:=hp;refine An hI (x:=.int k (k.wrap (i.tdiv j))) (AP ?_) rfl (BH _ _);rw [Sem.run_bind,hguard];simp [binOp,Op.intDiv,hj]
  case rem =>
   obtain ⟨rfl,hj⟩:=hp;refine An hI (x:=.int k (i.tmod j)) (AP ?_) rfl (BH _ _);rw [Sem.run_bind,hguard];simp [binOp,Op.intDiv,hj]
  case lss=>subst hp;exact An hI (x:=.bool (decide (i < j))) (AP zq9) rfl (CY _)
  case leq=>subst hp;exact An hI (x:=.bool (decide (i≤j))) (AP zq9) rfl (CY _)
  case gtr=>subst hp;exact An hI (x:=.bool (decide (j < i))) (AP zq9) rfl (CY _)
  case geq=>subst hp;exact An hI (x:=.bool (decide (j≤i))) (AP zq9) rfl (CY _)
  case eql=>subst hp;exact An hI (x:=.bool (decide (i=j))) (AP (by rw [Sem.run_bind,hguard];simp [binOp,Op.intCmp,BEq.beq])) rfl (CY _)
  case neq=>subst hp;exact An hI (x:=.bool (!decide (i=j))) (AP (by rw [Sem.run_bind,hguard];simp [binOp,Op.intCmp,bne,BEq.beq])) rfl (CY _)
  all_goals
   subst hp;refine An hI (AP ?_) rfl (BH _ _);rw [Sem.run_bind,hguard];simp [binOp,Op.intArith,Op.intBits];try rfl
 ·exact hp.elim
theorem Ady {c:Ctx} {e:Env} {H:Hp} {A:List V} {a:Act} (hI:Inv M c e H) (hA:FR e A a.tmps) {n:Nat} {op:UnOp} {x1:Operand} {y1:X}
 (h1:A8 M x1 y1=true) (g1:DE M e y1) (hp:(Af A H n (.un op y1)).pre) :
 BO M c e n (Af A H n (.un op y1)) (Sem.run M.P (do pure (Next.value (← Op.unary op (a.eval x1)))) e.w):=by
 have v1:=A9 hI.φ hA h1 g1;simp only [Af,XB] at hp ⊢;split at hp
 ·rename_i b hy;rw [hy] at v1;rw [FL v1];exact An hI (x:=.bool (!b)) (AP rfl) rfl (CY _)
 ·rename_i k i hy;rw [hy] at v1;rw [Ce v1];exact An hI (x:=.int k (k.wrap (0 - i))) (AP rfl) rfl (BH _ _)
 ·rename_i k i hy;rw [hy] at v1;rw [Ce v1];refine An hI (AP ?_) rfl (BH _ _);simp [Op.unary,Op.intBits];try rfl
 ·exact hp.elim
theorem W2 {c:Ctx} {e:Env} {H:Hp} {A:List V} {a:Act} (hI:Inv M c e H) (hA:FR e A a.tmps) {n:Nat} {s d:TypeId} {k:IntKind} {ds:TypeDesc} {x1:Operand} {y1:X}
 (hd:M.P.underlying d=some (.int k)) (hs:M.P.underlying s=some ds) (h1:A8 M x1 y1=true) (g1:DE M e y1) (hp:(Af A H n (.conv k y1)).pre) :
 BO M c e n (Af A H n (.conv k y1)) (Sem.run M.P (do pure (Next.value (← convert s d (a.eval x1)))) e.w):=by
 have v1:=A9 hI.φ hA h1 g1;simp only [Af] at hp ⊢;split at hp
 ·rename_i k' i hy;rw [hy] at v1;rw [Ce v1];refine An hI (x:=.int k (k.wrap i)) (AP ?_) rfl (BH _ _);simp only [convert,Vc,run_underlying hs,run_underlying hd];cases ds <;> rfl
 ·exact hp.elim
end Mv
