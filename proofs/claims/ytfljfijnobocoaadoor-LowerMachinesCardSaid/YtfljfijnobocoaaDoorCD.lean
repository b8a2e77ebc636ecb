/- A part. -/
import Derived.Test.YtfljfijnobocoaaDoorCC
set_option linter.all false
namespace Mv
open Go
inductive ES where
 | int
 | bool
 | str
 | ptr
 | iface (ts:List Nat)
 | nils (k:Nat)
 | nil
 | cons (off sz:Nat) (agg:Bool) (s:ES) (r:ES)
 | st (fs:ES)
 | ar (n sz:Nat) (agg:Bool) (s:ES)
inductive LO where
 | mv (x:X)
 | pick (c a b:X)
 | ari (op:BinOp) (x y:X)
 | eq (neg c:Bool) (s:ES) (x y:X)
 | un (op:UnOp) (x:X)
 | conv (k:IntKind) (x:X)
 | alloc (z:Z)
 | box (x:X)
 | build (z:Z) (ps:List (Stp × Nat × X))
 | bsl (sz n:Nat) (z:Z) (ps:List (Stp × Nat × X))
 | load (agg:Bool) (sz:Nat) (x:X)
 | store (sz:Nat) (x y:X)
 | nilc (x:X)
 | fadr (off:Nat) (x:X)
 | iarr (n sz:Nat) (x i:X)
 | isl (sz:Nat) (x i:X)
 | idx (n sz:Nat) (agg:Bool) (x i:X)
 | fld (off sz:Nat) (agg:Bool) (x:X)
 | slarr (n sz:Nat) (x:X) (lo hi:Option X)
 | slsl (sz:Nat) (x:X) (lo hi:Option X)
 | s2a (n sz:Nat) (x:X)
 | mkif (t:Nat) (x:X)
 | ext (x:X) (i:Nat)
 | len (k:Nat) (x:X)
 | app (sz bytes:Nat) (x y:X)
 | copy (sz:Nat) (x y:X)
 | mm (max:Bool) (x y:X)
 | mksl (sz bytes:Nat) (z:Z) (l c:X)
 | mkfn (f:Nat) (caps:List X)
 | mkmap (zk zv:Z)
 | mlook (s:ES) (z:Z) (ok:Bool) (m k:X)
 | mupd (s:ES) (m k x:X)
 | sidx (x i:X)
 | add64 (x y c:X)
 | mkmth (k:Nat) (x:X)
 | nilm (k:Nat) (ts:List Nat) (x:X)
 | mclone (x:X)
 | tas (t:Nat) (x:X)
 | b2s (x:X)
 | mm4 (max:Bool) (x y z w:X)
 | rng (x:X)
 | nxt (x:X)
 | nope
structure Out where
 pre:Prop
 v:V
 H:Hp
def BG (H:Hp):Out:=⟨False,.junk,H⟩
def EV (b:Bool) (x y:V):V :=
 match x,y with
 | .bool p,.bool q=>.bool (bif b then p else q)
 | x,y=>bif b then x else y
def AP (op:BinOp) (x y:V) (H:Hp):Out :=
 match x,y with
 | .int k a, .int k' b =>
   match op with
   | .add=>⟨k=k',.int k (k.wrap (a + b)),H⟩
   | .sub=>⟨k=k',.int k (k.wrap (a - b)),H⟩
   | .mul=>⟨k=k',.int k (k.wrap (a * b)),H⟩
   | .quo=>⟨k=k'∧b ≠ 0,.int k (k.wrap (a.tdiv b)),H⟩
   | .rem=>⟨k=k'∧b ≠ 0,.int k (a.tmod b),H⟩
   | .and=>⟨k=k',.int k (k.wrap ((BitVec.ofInt k.bits a &&& BitVec.ofInt k.bits b).toNat)),H⟩
   | .or=>⟨k=k',.int k (k.wrap ((BitVec.ofInt k.bits a ||| BitVec.ofInt k.bits b).toNat)),H⟩
   | .xor=>⟨k=k',.int k (k.wrap ((BitVec.ofInt k.bits a ^^^ BitVec.ofInt k.bits b).toNat)),H⟩
   | .andNot=>⟨k=k',.int k (k.wrap ((BitVec.ofInt k.bits a &&& ~~~BitVec.ofInt k.bits b).toNat)),H⟩
   | .shl=>⟨0≤b,.int k (k.wrap (a * 2 ^ min b.toNat k.bits)),H⟩
   | .shr=>⟨0≤b,.int k (a.fdiv (2 ^ min b.toNat k.bits)),H⟩
   | .lss=>⟨k=k',.bool (decide (a < b)),H⟩
   | .leq=>⟨k=k',.bool (decide (a≤b)),H⟩
   | .gtr=>⟨k=k',.bool (decide (b < a)),H⟩
   | .geq=>⟨k=k',.bool (decide (b≤a)),H⟩
   | .eql=>⟨k=k',.bool (decide (a=b)),H⟩
   | .neq=>⟨k=k',.bool (!decide (a=b)),H⟩
 | _,_=>BG H
def ST (op:UnOp) (x:V) (H:Hp):Out :=
 match op,x with
 | .not,.bool b=>⟨True,.bool (!b),H⟩
 | .neg,.int k n=>⟨True,.int k (k.wrap (0 - n)),H⟩
 | .xor,.int k n=>⟨True,.int k (k.wrap ((BitVec.ofInt k.bits (if k.signed then -1 else k.max) ^^^ BitVec.ofInt k.bits n).toNat)),H⟩
 | _,_=>BG H
def BP (c:V) (A:List V):List (Stp × Nat × X)→V
 | []=>c
 | (s,_,x) :: r=>BP (V.set (x.ev A) [s] c) A r
def Bv (c:V) (A:List V):List (Stp × Nat × X)→Prop
 | []=>True
 | (s,sz,x) :: r=>((x.ev A).solid=true∧c.ok [s]∧(x.ev A).size=sz∧(c.get [s]).size=sz)∧Bv (V.set (x.ev A) [s] c) A r
def Dl (A:List V):List X→Nat→V
 | [],_=>.fnil
 | x :: r,n=>.fcons n (x.ev A) (Dl A r (n + 1))
def Cp (A:List V):List X→Prop
 | []=>True
 | x :: r=>((x.ev A).solid=true∧(x.ev A).isAgg=false)∧Cp A r
def Cv (H:Hp) (x:V):Option (Nat × Nat × (Nat→V)) :=
 match x with
 | .lst sz n f=>some (sz,n,f)
 | .sl id p o n sz => match (hget H id).get p with
   | .ar _ _ f=>some (sz,n,fun i=>f (o + i))
   | _=>none
 | .nils=>none
 | _=>none
def B8 (H:Hp) (x:V):Prop :=
 match x with
 | .sl id p o n sz=>Af H id=true∧(hget H id).solid=true∧(hget H id).ok p∧(match (hget H id).get p with | .ar sz' m _=>sz'=sz∧o + n≤m | _=>False)
 | _=>True
def vI:V→Int
 | .int _ n=>n
 | _=>0
def OU (max:Bool) (a b:Int):Int:=if max then (if a < b then b else a) else (if b < a then b else a)
def Aja:V→Prop
 | .int .u8 _=>True
 | _=>False
def Ac2 (m:Nat) (g:Nat→V):ByteArray:=⟨((List.range m).map fun i=>UInt8.ofNat (vI (g i)).toNat).toArray⟩
def A8 (A:List V) (d:Int):Option X→Int
 | none=>d
 | some x=>match x.ev A with | .int _ n=>n | _=>-1
def Nj:V→Prop
 | .int _ _=>True
 | _=>False
def B1 (A:List V):Option X→Prop
 | none=>True
 | some x=>Nj (x.ev A)
def AD (c:Bool):ES→V→V→Prop
 | .int,a,b=>(match a,b with | .int k _,.int k' _=>k=k' | _,_=>False)
 | .bool,a,b=>(match a,b with | .bool _,.bool _=>True | _,_=>False)
 | .str,a,b=>(match a,b with | .str _,.str _=>True | _,_=>False)
 | .ptr,a,b=>(match a,b with | .nilp,.nilp | .nilp,.ptr _ _ | .ptr _ _,.nilp | .nilp,.imm _ | .imm _,.nilp=>True | _,_=>False)
 | .iface ts, a, b => (match a, b with
   | .nili,.nili=>c=true
   | .nili,.ifc _ _ | .ifc _ _,.nili=>True
   | .ifc t (.int k _),.ifc t' (.int k' _)=>t ∈ ts∧t' ∈ ts∧k=k'
   | _,_=>False)
 | .nils k, a, b => (match k, a, b with
   | 0,.nils,.nils | 1,.nilm,.nilm | 1,.nilm,.map _ | 1,.map _,.nilm | 2,.nilf,.nilf | 2,.nilf,.fn _ _ | 2,.fn _ _,.nilf=>True
   | 0,.nils,.sl _ _ _ n _ | 0,.sl _ _ _ n _,.nils | 0,.nils,.lst _ n _ | 0,.lst _ n _,.nils=>0 < n
   | 1,.fm _ _ _,.nilm=>True
   | _,_,_=>False)
 | .nil,_,_=>True
 | .cons o sz agg s r,a,b=>((a.fhas o=true∧b.fhas o=true)∧((a.fget o).solid=true∧(a.fget o).size=sz∧(a.fget o).isAgg=agg)∧((b.fget o).solid=true∧(b.fget o).size=sz∧(b.fget o).isAgg=agg)∧AD c s (a.fget o) (b.fget o))∧AD c r a b
 | .st fs,a,b=>(match a,b with | .st _ x,.st _ y=>AD c fs x y | _,_=>False)
 | .ar n sz agg s,a,b=>(match a,b with | .ar sz' n' f,.ar sz'' n'' g=>(sz'=sz∧sz''=sz∧n'=n∧n''=n)∧∀ i,i < n→(f i).isAgg=agg∧(g i).isAgg=agg∧AD c s (f i) (g i) | _,_=>False)
def AK:ES→V→V→Bool
 | .int,a,b=>(match a,b with | .int _ x,.int _ y=>decide (x=y) | _,_=>false)
 | .bool,a,b=>(match a,b with | .bool x,.bool y=>decide (x=y) | _,_=>false)
 | .str,a,b=>(match a,b with | .str x,.str y=>x == y | _,_=>false)
 | .ptr,a,b=>(match a,b with | .nilp,.nilp=>true | _,_=>false)
 | .iface _, a, b => (match a, b with
   | .nili,.nili=>true
   | .ifc t (.int _ x),.ifc t' (.int _ y)=>t == t' && decide (x=y)
   | _,_=>false)
 | .nils _,a,b=>(match a,b with | .nils,.nils | .nilm,.nilm | .nilf,.nilf=>true | _,_=>false)
 | .nil,_,_=>true
 | .cons o _ _ s r,a,b=>AK s (a.fget o) (b.fget o) && AK r a b
 | .st fs,a,b=>(match a,b with | .st _ x,.st _ y=>AK fs x y | _,_=>false)
 | .ar n _ _ s,a,b=>(match a,b with | .ar _ _ f,.ar _ _ g=>(List.range n).all (fun i=>AK s (f i) (g i)) | _,_=>false)
def Kk (s:ES) (k:V) (ks:Nat→V):Nat→Nat→Option Nat
 | _,0=>none
 | i,c + 1=>if AK s k (ks i) then some i else Kk s k ks (i + 1) c
def KN (s:ES) (z:Z) (ok:Bool) (m k:V) (H:Hp):Out:=match m with
 | .map id => match hget H id with
   | .mp n ks vs=>⟨Af H id=true∧k.solid=true∧AD true s k k∧∀ i,i < n→AD true s k (ks i),
    (match Kk s k ks 0 n with
    | some i=>if ok then .tup (.fcons 0 (vs i) (.fcons 1 (.bool true) .fnil)) else vs i
    | none=>if ok then .tup (.fcons 0 (z.v 0) (.fcons 1 (.bool false) .fnil)) else z.v 0),H⟩
   | _=>BG H
 | _=>BG H
def Vo (s:ES) (m k x:V) (H:Hp):Out:=match m with
 | .map id => match hget H id with
   | .mp n ks vs=>⟨Af H id=true∧k.solid=true∧x.solid=true∧AD true s k k∧∀ i,i < n→AD true s k (ks i),.tup .fnil,
    BU H id (.mp (match Kk s k ks 0 n with | some _=>n | none=>n + 1) (fun j=>if j=(Kk s k ks 0 n).getD n then k else ks j) (fun j=>if j=(Kk s k ks 0 n).getD n then x else vs j))⟩
   | _=>BG H
 | _=>BG H
def Ae (A:List V) (H:Hp) (n:Nat):LO→Out
 | .mv x=>⟨True,x.ev A,H⟩
 | .pick c a b => match c.ev A with
   | .bool t=>⟨True,EV t (a.ev A) (b.ev A),H⟩
   | _=>BG H
 | .ari op x y=>AP op (x.ev A) (y.ev A) H
 | .eq neg c s x y=>⟨AD c s (x.ev A) (y.ev A),.bool (neg ^^ AK s (x.ev A) (y.ev A)),H⟩
 | .un op x=>ST op (x.ev A) H
 | .conv k x => match x.ev A with
   | .int _ a=>⟨True,.int k (k.wrap a),H⟩
   | _=>BG H
 | .alloc z=>⟨True,.ptr n [],(n,z.v 0) :: H⟩
 | .box x=>⟨(x.ev A).solid=true,.ptr n [],(n,x.ev A) :: H⟩
 | .build z ps=>⟨Bv (z.v 0) A ps,BP (z.v 0) A ps,H⟩
 | .bsl sz m z ps=>⟨Bv (.ar sz m (fun _=>z.v 0)) A ps,.sl n [] 0 m sz,(n,BP (.ar sz m (fun _=>z.v 0)) A ps) :: H⟩
 | .load agg sz x => match x.ev A with
   | .ptr id p=>⟨(Af H id=true∧(hget H id).solid=true∧(hget H id).ok p)∧((hget H id).get p).solid=true∧((hget H id).get p).size=sz∧((hget H id).get p).isAgg=agg,(hget H id).get p,H⟩
   | .imm v=>⟨v.solid=true∧v.size=sz∧v.isAgg=agg,v,H⟩
   | _=>BG H
 | .store sz x y => match x.ev A with
   | .ptr id p=>⟨(Af H id=true∧(hget H id).solid=true∧(hget H id).ok p∧Gx p=true)∧(y.ev A).solid=true∧(y.ev A).size=sz∧((hget H id).get p).size=sz,.tup .fnil,BU H id (V.set (y.ev A) p (hget H id))⟩
   | _=>BG H
 | .nilc x => match x.ev A with
   | .ptr id p=>⟨True,.ptr id p,H⟩
   | .imm v=>⟨True,.imm v,H⟩
   | .fn f c=>⟨f < 1000000,.fn f c,H⟩
   | .ifc t v=>⟨True,.ifc t v,H⟩
   | _=>BG H
 | .fadr off x => match x.ev A with
   | .ptr id p=>⟨True,.ptr id (C0 p (.f off)),H⟩
   | .imm v=>⟨v.solid=true∧v.ok [.f off],.imm (v.get [.f off]),H⟩
   | _=>BG H
 | .iarr m sz x i => match x.ev A, i.ev A with
   | .ptr id p,.int _ a=>⟨0≤a∧a < m,.ptr id (C0 p (.i sz a.toNat)),H⟩
   | .imm v,.int _ a=>⟨(0≤a∧a < m)∧v.solid=true∧v.ok [.i sz a.toNat],.imm (v.get [.i sz a.toNat]),H⟩
   | _,_=>BG H
 | .isl sz x i => match x.ev A, i.ev A with
   | .sl id p o m sz',.int _ a=>⟨(0≤a∧a < m)∧sz'=sz,.ptr id (C0 p (.i sz (o + a.toNat))),H⟩
   | .lst sz' m f,.int _ a=>⟨(0≤a∧a < m)∧sz'=sz,.imm (f a.toNat),H⟩
   | _,_=>BG H
 | .idx m sz agg x i => match x.ev A, i.ev A with
   | .ar sz' m' f,.int _ a=>⟨(0≤a∧a < m)∧sz'=sz∧m'=m∧(f a.toNat).isAgg=agg,f a.toNat,H⟩
   | _,_=>BG H
 | .fld off sz agg x => match x.ev A with
   | .st m fs=>⟨fs.fhas off=true∧(fs.fget off).solid=true∧(fs.fget off).size=sz∧(fs.fget off).isAgg=agg,fs.fget off,H⟩
   | _=>BG H
 | .slarr m sz x lo hi => match x.ev A with
   | .ptr id p=>⟨(B1 A lo∧B1 A hi∧0≤A8 A 0 lo∧A8 A 0 lo≤A8 A m hi∧A8 A m hi≤m)∧Af H id=true∧(hget H id).solid=true∧(hget H id).ok p∧(match (hget H id).get p with | .ar sz' m' _=>sz'=sz∧m'=m | _=>False),
    .sl id p (A8 A 0 lo).toNat ((A8 A m hi).toNat - (A8 A 0 lo).toNat) sz,H⟩
   | .imm v => match v with
     | .ar sz' m' f=>⟨(B1 A lo∧B1 A hi∧0≤A8 A 0 lo∧A8 A 0 lo≤A8 A m hi∧A8 A m hi≤m)∧sz'=sz∧m'=m,.lst sz ((A8 A m hi).toNat - (A8 A 0 lo).toNat) (fun i=>f ((A8 A 0 lo).toNat + i)),H⟩
     | _=>BG H
   | _=>BG H
 | .slsl sz x lo hi => match x.ev A with
   | .sl id p o m sz'=>⟨(B1 A lo∧B1 A hi∧0≤A8 A 0 lo∧A8 A 0 lo≤A8 A m hi∧A8 A m hi≤m)∧sz'=sz,.sl id p (o + (A8 A 0 lo).toNat) ((A8 A m hi).toNat - (A8 A 0 lo).toNat) sz,H⟩
   | .lst sz' m f=>⟨(B1 A lo∧B1 A hi∧0≤A8 A 0 lo∧A8 A 0 lo≤A8 A m hi∧A8 A m hi≤m)∧sz'=sz,.lst sz ((A8 A m hi).toNat - (A8 A 0 lo).toNat) (fun i=>f ((A8 A 0 lo).toNat + i)),H⟩
   | .nils=>⟨B1 A lo∧B1 A hi∧A8 A 0 lo=0∧A8 A 0 hi=0,.nils,H⟩
   | _=>BG H
 | .s2a m sz x => match x.ev A with
   | .sl id p o l sz'=>⟨(sz'=sz∧m≤l∧0 < m),.ptr id (C0 p (.r sz o m)),H⟩
   | .lst sz' l f=>⟨sz'=sz∧m≤l∧0 < m,.imm (.ar sz m f),H⟩
   | _=>BG H
 | .mkif t x=>⟨(x.ev A).solid=true,.ifc t (x.ev A),H⟩
 | .ext x i => match x.ev A with
   | .tup fs=>⟨fs.fhas i=true,fs.fget i,H⟩
   | _=>BG H
 | .len k x => match k, x.ev A with
   | 0,.sl _ _ _ m _=>⟨True,.int .i64 m,H⟩
   | 0,.lst _ m _=>⟨True,.int .i64 m,H⟩
   | 0,.nils=>⟨True,.int .i64 0,H⟩
   | 1,.str s=>⟨True,.int .i64 s.size,H⟩
   | 2,.nilm=>⟨True,.int .i64 0,H⟩
   | 2, .map id => match hget H id with
     | .mp m _ _=>⟨Af H id=true,.int .i64 m,H⟩
     | _=>BG H
   | _,_=>BG H
 | .app sz bytes x y =>
   match x.ev A,Cv H (y.ev A) with
   | .nils,some (sz',m,g)=>⟨sz'=sz∧B8 H (y.ev A)∧0 < m∧m * bytes≤2 ^ 47,.sl n [] 0 m sz,(n,.ar sz m g) :: H⟩
   | .sl id p o l sz'', some (sz', m, g) =>
     match hget H id with
     | .ar _ l' f=>⟨(sz'=sz∧sz''=sz∧p=[]∧o=0)∧(Af H id=true∧(hget H id).solid=true∧(match hget H id with | .ar s _ _=>s=sz | _=>False)∧l≤l')∧B8 H (y.ev A)∧(l + m) * bytes≤2 ^ 47,
      .sl n [] 0 (l + m) sz,(n,.ar sz (l + m) (fun i=>if i < l then f i else g (i - l))) :: BS H id⟩
     | _=>BG H
   | _,_=>BG H
 | .copy sz x y =>
   match x.ev A,Cv H (y.ev A) with
   | .sl id p o l sz'', some (sz', m, g) =>
     match (hget H id).get p with
     | .ar s l' f=>⟨(sz'=sz∧sz''=sz∧s=sz)∧(Af H id=true∧(hget H id).solid=true∧(hget H id).ok p∧Gx p=true∧o + l≤l')∧B8 H (y.ev A),.int .i64 (min m l:Nat),
      BU H id (V.set (.ar sz l' (fun i=>if o≤i∧i < o + min m l then g (i - o) else f i)) p (hget H id))⟩
     | _=>BG H
   | .sl _ _ _ _ _,none=>⟨match y.ev A with | .nils=>True | _=>False,.int .i64 0,H⟩
   | _,_=>BG H
 | .mm max x y => match x.ev A, y.ev A with
   | .int k a,.int k' b=>⟨k=k',.int k (if max then (if a < b then b else a) else (if b < a then b else a)),H⟩
   | _,_=>BG H
 | .mksl sz bytes z l c => match l.ev A, c.ev A with
   | .int k a,.int k' b=>⟨k = .i64∧k' = .i64∧0≤a∧a≤b∧b * bytes≤2 ^ 47∧b < 2 ^ 47,.sl n [] 0 a.toNat sz,(n,.ar sz b.toNat (fun _=>z.v 0)) :: H⟩
   | _,_=>BG H
 | .mkmap zk zv=>⟨True,.map n,(n,.mp 0 (fun _=>zk.v 0) (fun _=>zv.v 0)) :: H⟩
 | .mlook s z ok m k=>KN s z ok (m.ev A) (k.ev A) H
 | .mupd s m k x=>Vo s (m.ev A) (k.ev A) (x.ev A) H
 | .mkfn f caps=>⟨Cp A caps,.fn f (.st caps.length (Dl A caps 0)),H⟩
 | .sidx x i => match x.ev A, i.ev A with
   | .str s,.int _ a=>⟨0≤a∧a < s.size,.int .u8 ((s[a.toNat]?).getD 0).toNat,H⟩
   | _,_=>BG H
 | .add64 x y z => match x.ev A, y.ev A, z.ev A with
   | .int .u64 a,.int .u64 b,.int .u64 c=>⟨0≤a∧0≤b∧0≤c∧c≤1,.tup (.fcons 0 (.int .u64 ((a + b + c) % 18446744073709551616)) (.fcons 1 (.int .u64 ((a + b + c) / 18446744073709551616)) .fnil)),H⟩
   | _,_,_=>BG H
 | .mkmth k x => match x.ev A with
   | .ifc t v=>⟨True,.fn (1000000 + k) (.st 1 (.fcons 0 (.ifc t v) .fnil)),H⟩
   | _=>BG H
 | .nilm k ts x => match x.ev A with
   | .fn f (.st m (.fcons j (.ifc t v) r))=>⟨f=1000000 + k∧t ∈ ts∧m=1∧j=0,.fn f (.st m (.fcons j (.ifc t v) r)),H⟩
   | _=>BG H
 | .mclone x => match x.ev A with
   | .ifc t (.map id) => match hget H id with
     | .mp m ks vs=>⟨Af H id=true,.ifc t (.map n),(n,.mp m ks vs) :: H⟩
     | _=>BG H
   | .ifc t (.fm m ks vs)=>⟨True,.ifc t (.map n),(n,.mp m ks vs) :: H⟩
   | _=>BG H
 | .tas t x => match x.ev A with
   | .ifc t' v=>⟨t'=t,v,H⟩
   | _=>BG H
 | .b2s x => match Cv H (x.ev A) with
   | some (sz,m,g)=>⟨sz=1∧B8 H (x.ev A)∧0 < m∧∀ i,i < m→Aja (g i),.str (Ac2 m g),H⟩
   | none=>BG H
 | .mm4 max x y z w => match x.ev A, y.ev A, z.ev A, w.ev A with
   | .int k a,.int k1 b,.int k2 c,.int k3 d=>⟨k=k1∧k=k2∧k=k3,.int k (OU max (OU max (OU max a b) c) d),H⟩
   | _,_,_,_=>BG H
 | .rng x => match x.ev A with
   | .map id => match hget H id with
     | .mp _ _ _=>⟨Af H id=true,.ptr n [],(n,.tup (.map id)) :: H⟩
     | _=>BG H
   | _=>BG H
 | .nxt x => match x.ev A with
   | .ptr id [] => match hget H id with
     | .tup (.map j) => match hget H j with
       | .mp m _ _=>⟨m=0∧Af H id=true∧Af H j=true,.tup (.fcons 0 (.bool false) .fnil),H⟩
       | _=>BG H
     | _=>BG H
   | _=>BG H
 | .nope=>BG H
end Mv
