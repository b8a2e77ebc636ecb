/- A part. -/
import Derived.Test.YtgeionenpaopaaaGreatDoorAB
set_option linter.all false
namespace Mv
open Go
inductive ES where
 | int
 | bool
 | str
 | ptr
 | iface (ts:List Nat)
 | nils (k:Nat)
 | nil
 | cons (off sz:Nat) (agg:Bool) (s:ES) (r:ES)
 | st (fs:ES)
 | ar (n sz:Nat) (agg:Bool) (s:ES)
inductive LO where
 | mv (x:X)
 | pick (c a b:X)
 | ari (op:BinOp) (x y:X)
 | eq (neg c:Bool) (s:ES) (x y:X)
 | un (op:UnOp) (x:X)
 | conv (k:IntKind) (x:X)
 | alloc (z:Z)
 | box (x:X)
 | build (z:Z) (ps:List (Stp × Nat × X))
 | bsl (sz n:Nat) (z:Z) (ps:List (Stp × Nat × X))
 | load (agg:Bool) (sz:Nat) (x:X)
 | store (sz:Nat) (x y:X)
 | nilc (x:X)
 | fadr (off:Nat) (x:X)
 | iarr (n sz:Nat) (x i:X)
 | isl (sz:Nat) (x i:X)
 | idx (n sz:Nat) (agg:Bool) (x i:X)
 | fld (off sz:Nat) (agg:Bool) (x:X)
 | slarr (n sz:Nat) (x:X) (lo hi:Option X)
 | slsl (sz:Nat) (x:X) (lo hi:Option X)
 | s2a (n sz:Nat) (x:X)
 | mkif (t:Nat) (x:X)
 | ext (x:X) (i:Nat)
 | len (k:Nat) (x:X)
 | app (sz bytes:Nat) (x y:X)
 | copy (sz:Nat) (x y:X)
 | mm (max:Bool) (x y:X)
 | mksl (sz bytes:Nat) (z:Z) (l c:X)
 | mkfn (f:Nat) (caps:List X)
 | mkmap (zk zv:Z)
 | mlook (s:ES) (z:Z) (ok:Bool) (m k:X)
 | mupd (s:ES) (m k x:X)
 | sidx (x i:X)
 | add64 (x y c:X)
 | mkmth (k:Nat) (x:X)
 | nilm (k:Nat) (ts:List Nat) (x:X)
 | mclone (x:X)
 | tas (t:Nat) (x:X)
 | b2s (x:X)
 | mm4 (max:Bool) (x y z w:X)
 | rng (x:X)
 | nxt (x:X)
 | ent (x:X)
 | nope
structure Out where
 pre:Prop
 v:V
 H:Hp
def bad (H:Hp):Out:=⟨False,.junk,H⟩
def Gd (b:Bool) (x y:V):V :=
 match x,y with
 | .bool p,.bool q=>.bool (bif b then p else q)
 | x,y=>bif b then x else y
def AT (op:BinOp) (x y:V) (H:Hp):Out :=
 match x,y with
 | .int k a, .int k' b =>
   match op with
   | .add=>⟨k=k',.int k (k.wrap (a + b)),H⟩
   | .sub=>⟨k=k',.int k (k.wrap (a - b)),H⟩
   | .mul=>⟨k=k',.int k (k.wrap (a * b)),H⟩
   | .quo=>⟨k=k'∧b ≠ 0,.int k (k.wrap (a.tdiv b)),H⟩
   | .rem=>⟨k=k'∧b ≠ 0,.int k (a.tmod b),H⟩
   | .and=>⟨k=k',.int k (k.wrap ((BitVec.ofInt k.bits a &&& BitVec.ofInt k.bits b).toNat)),H⟩
   | .or=>⟨k=k',.int k (k.wrap ((BitVec.ofInt k.bits a ||| BitVec.ofInt k.bits b).toNat)),H⟩
   | .xor=>⟨k=k',.int k (k.wrap ((BitVec.ofInt k.bits a ^^^ BitVec.ofInt k.bits b).toNat)),H⟩
   | .andNot=>⟨k=k',.int k (k.wrap ((BitVec.ofInt k.bits a &&& ~~~BitVec.ofInt k.bits b).toNat)),H⟩
   | .shl=>⟨0≤b,.int k (k.wrap (a * 2 ^ min b.toNat k.bits)),H⟩
   | .shr=>⟨0≤b,.int k (a.fdiv (2 ^ min b.toNat k.bits)),H⟩
   | .lss=>⟨k=k',.bool (decide (a < b)),H⟩
   | .leq=>⟨k=k',.bool (decide (a≤b)),H⟩
   | .gtr=>⟨k=k',.bool (decide (b < a)),H⟩
   | .geq=>⟨k=k',.bool (decide (b≤a)),H⟩
   | .eql=>⟨k=k',.bool (decide (a=b)),H⟩
   | .neq=>⟨k=k',.bool (!decide (a=b)),H⟩
 | _,_=>bad H
def V8 (op:UnOp) (x:V) (H:Hp):Out :=
 match op,x with
 | .not,.bool b=>⟨True,.bool (!b),H⟩
 | .neg,.int k n=>⟨True,.int k (k.wrap (0 - n)),H⟩
 | .xor,.int k n=>⟨True,.int k (k.wrap ((BitVec.ofInt k.bits (if k.signed then -1 else k.max) ^^^ BitVec.ofInt k.bits n).toNat)),H⟩
 | _,_=>bad H
def BY (c:V) (A:List V):List (Stp × Nat × X)→V
 | []=>c
 | (s,_,x) :: r=>BY (V.set (x.ev A) [s] c) A r
def Bu (c:V) (A:List V):List (Stp × Nat × X)→Prop
 | []=>True
 | (s,sz,x) :: r=>((x.ev A).solid=true∧c.ok [s]∧(x.ev A).size=sz∧(c.get [s]).size=sz)∧Bu (V.set (x.ev A) [s] c) A r
def DN (A:List V):List X→Nat→V
 | [],_=>.fnil
 | x :: r,n=>.fcons n (x.ev A) (DN A r (n + 1))
def C5 (A:List V):List X→Prop
 | []=>True
 | x :: r=>((x.ev A).solid=true∧(x.ev A).isAgg=false)∧C5 A r
def Cv (H:Hp) (x:V):Option (Nat × Nat × (Nat→V)) :=
 match x with
 | .lst sz n f=>some (sz,n,f)
 | .sl id p o n sz => match (hget H id).get p with
   | .ar _ _ f=>some (sz,n,fun i=>f (o + i))
   | _=>none
 | .nils=>none
 | _=>none
def B4 (H:Hp) (x:V):Prop :=
 match x with
 | .sl id p o n sz=>Af H id=true∧(hget H id).solid=true∧(hget H id).ok p∧(match (hget H id).get p with | .ar sz' m _=>sz'=sz∧o + n≤m | _=>False)
 | _=>True
def vI:V→Int
 | .int _ n=>n
 | _=>0
def mm2 (max:Bool) (a b:Int):Int:=if max then (if a < b then b else a) else (if b < a then b else a)
def Aqx:V→Prop
 | .int .u8 _=>True
 | _=>False
def Ahq (m:Nat) (g:Nat→V):ByteArray:=⟨((List.range m).map fun i=>UInt8.ofNat (vI (g i)).toNat).toArray⟩
def AC (A:List V) (d:Int):Option X→Int
 | none=>d
 | some x=>match x.ev A with | .int _ n=>n | _=>-1
def NW:V→Prop
 | .int _ _=>True
 | _=>False
def B1 (A:List V):Option X→Prop
 | none=>True
 | some x=>NW (x.ev A)
def AQ (c:Bool):ES→V→V→Prop
 | .int,a,b=>(match a,b with | .int k _,.int k' _=>k=k' | _,_=>False)
 | .bool,a,b=>(match a,b with | .bool _,.bool _=>True | _,_=>False)
 | .str,a,b=>(match a,b with | .str _,.str _=>True | _,_=>False)
 | .ptr,a,b=>(match a,b with | .nilp,.nilp | .nilp,.ptr _ _ | .ptr _ _,.nilp | .nilp,.imm _ | .imm _,.nilp=>True | _,_=>False)
 | .iface ts, a, b => (match a, b with
   | .nili,.nili=>c=true
   | .nili,.ifc _ _ | .ifc _ _,.nili=>True
   | .ifc t (.int k _),.ifc t' (.int k' _)=>t ∈ ts∧t' ∈ ts∧k=k'
   | _,_=>False)
 | .nils k, a, b => (match k, a, b with
   | 0,.nils,.nils | 1,.nilm,.nilm | 1,.nilm,.map _ | 1,.map _,.nilm | 2,.nilf,.nilf | 2,.nilf,.fn _ _ | 2,.fn _ _,.nilf=>True
   | 0,.nils,.sl _ _ _ n _ | 0,.sl _ _ _ n _,.nils | 0,.nils,.lst _ n _ | 0,.lst _ n _,.nils=>0 < n
   | 1,.fm _ _ _,.nilm=>True
   | _,_,_=>False)
 | .nil,_,_=>True
 | .cons o sz agg s r,a,b=>((a.fhas o=true∧b.fhas o=true)∧((a.fget o).solid=true∧(a.fget o).size=sz∧(a.fget o).isAgg=agg)∧((b.fget o).solid=true∧(b.fget o).size=sz∧(b.fget o).isAgg=agg)∧AQ c s (a.fget o) (b.fget o))∧AQ c r a b
 | .st fs,a,b=>(match a,b with | .st _ x,.st _ y=>AQ c fs x y | _,_=>False)
 | .ar n sz agg s,a,b=>(match a,b with | .ar sz' n' f,.ar sz'' n'' g=>(sz'=sz∧sz''=sz∧n'=n∧n''=n)∧∀ i,i < n→(f i).isAgg=agg∧(g i).isAgg=agg∧AQ c s (f i) (g i) | _,_=>False)
def AX:ES→V→V→Bool
 | .int,a,b=>(match a,b with | .int _ x,.int _ y=>decide (x=y) | _,_=>false)
 | .bool,a,b=>(match a,b with | .bool x,.bool y=>decide (x=y) | _,_=>false)
 | .str,a,b=>(match a,b with | .str x,.str y=>x == y | _,_=>false)
 | .ptr,a,b=>(match a,b with | .nilp,.nilp=>true | _,_=>false)
 | .iface _, a, b => (match a, b with
   | .nili,.nili=>true
   | .ifc t (.int _ x),.ifc t' (.int _ y)=>t == t' && decide (x=y)
   | _,_=>false)
 | .nils _,a,b=>(match a,b with | .nils,.nils | .nilm,.nilm | .nilf,.nilf=>true | _,_=>false)
 | .nil,_,_=>true
 | .cons o _ _ s r,a,b=>AX s (a.fget o) (b.fget o) && AX r a b
 | .st fs,a,b=>(match a,b with | .st _ x,.st _ y=>AX fs x y | _,_=>false)
 | .ar n _ _ s,a,b=>(match a,b with | .ar _ _ f,.ar _ _ g=>(List.range n).all (fun i=>AX s (f i) (g i)) | _,_=>false)
def KD (s:ES) (k:V) (ks:Nat→V):Nat→Nat→Option Nat
 | _,0=>none
 | i,c + 1=>if AX s k (ks i) then some i else KD s k ks (i + 1) c
def Lw (s:ES) (z:Z) (ok:Bool) (m k:V) (H:Hp):Out:=match m with
 | .map id => match hget H id with
   | .mp n ks vs=>⟨Af H id=true∧k.solid=true∧AQ true s k k∧∀ i,i < n→AQ true s k (ks i),
    (match KD s k ks 0 n with
    | some i=>if ok then .tup (.fcons 0 (vs i) (.fcons 1 (.bool true) .fnil)) else vs i
    | none=>if ok then .tup (.fcons 0 (z.v 0) (.fcons 1 (.bool false) .fnil)) else z.v 0),H⟩
   | _=>bad H
 | _=>bad H
def WF (s:ES) (m k x:V) (H:Hp):Out:=match m with
 | .map id => match hget H id with
   | .mp n ks vs=>⟨Af H id=true∧k.solid=true∧x.solid=true∧AQ true s k k∧∀ i,i < n→AQ true s k (ks i),.tup .fnil,
    BC H id (.mp (match KD s k ks 0 n with | some _=>n | none=>n + 1) (fun j=>if j=(KD s k ks 0 n).getD n then k else ks j) (fun j=>if j=(KD s k ks 0 n).getD n then x else vs j))⟩
   | _=>bad H
 | _=>bad H
def Ag (A:List V) (H:Hp) (n:Nat):LO→Out
 | .mv x=>⟨True,x.ev A,H⟩
 | .pick c a b => match c.ev A with
   | .bool t=>⟨True,Gd t (a.ev A) (b.ev A),H⟩
   | _=>bad H
 | .ari op x y=>AT op (x.ev A) (y.ev A) H
 | .eq neg c s x y=>⟨AQ c s (x.ev A) (y.ev A),.bool (neg ^^ AX s (x.ev A) (y.ev A)),H⟩
 | .un op x=>V8 op (x.ev A) H
 | .conv k x => match x.ev A with
   | .int _ a=>⟨True,.int k (k.wrap a),H⟩
   | _=>bad H
 | .alloc z=>⟨True,.ptr n [],(n,z.v 0) :: H⟩
 | .box x=>⟨(x.ev A).solid=true,.ptr n [],(n,x.ev A) :: H⟩
 | .build z ps=>⟨Bu (z.v 0) A ps,BY (z.v 0) A ps,H⟩
 | .bsl sz m z ps=>⟨Bu (.ar sz m (fun _=>z.v 0)) A ps,.sl n [] 0 m sz,(n,BY (.ar sz m (fun _=>z.v 0)) A ps) :: H⟩
 | .load agg sz x => match x.ev A with
   | .ptr id p=>⟨(Af H id=true∧(hget H id).solid=true∧(hget H id).ok p)∧((hget H id).get p).solid=true∧((hget H id).get p).size=sz∧((hget H id).get p).isAgg=agg,(hget H id).get p,H⟩
   | .imm v=>⟨v.solid=true∧v.size=sz∧v.isAgg=agg,v,H⟩
   | _=>bad H
 | .store sz x y => match x.ev A with
   | .ptr id p=>⟨(Af H id=true∧(hget H id).solid=true∧(hget H id).ok p∧H2 p=true)∧(y.ev A).solid=true∧(y.ev A).size=sz∧((hget H id).get p).size=sz,.tup .fnil,BC H id (V.set (y.ev A) p (hget H id))⟩
   | _=>bad H
 | .nilc x => match x.ev A with
   | .ptr id p=>⟨True,.ptr id p,H⟩
   | .imm v=>⟨True,.imm v,H⟩
   | .fn f c=>⟨f < 1000000,.fn f c,H⟩
   | .ifc t v=>⟨True,.ifc t v,H⟩
   | _=>bad H
 | .fadr off x => match x.ev A with
   | .ptr id p=>⟨True,.ptr id (CQ p (.f off)),H⟩
   | .imm v=>⟨v.solid=true∧v.ok [.f off],.imm (v.get [.f off]),H⟩
   | _=>bad H
 | .iarr m sz x i => match x.ev A, i.ev A with
   | .ptr id p,.int _ a=>⟨0≤a∧a < m,.ptr id (CQ p (.i sz a.toNat)),H⟩
   | .imm v,.int _ a=>⟨(0≤a∧a < m)∧v.solid=true∧v.ok [.i sz a.toNat],.imm (v.get [.i sz a.toNat]),H⟩
   | _,_=>bad H
 | .isl sz x i => match x.ev A, i.ev A with
   | .sl id p o m sz',.int _ a=>⟨(0≤a∧a < m)∧sz'=sz,.ptr id (CQ p (.i sz (o + a.toNat))),H⟩
   | .lst sz' m f,.int _ a=>⟨(0≤a∧a < m)∧sz'=sz,.imm (f a.toNat),H⟩
   | _,_=>bad H
 | .idx m sz agg x i => match x.ev A, i.ev A with
   | .ar sz' m' f,.int _ a=>⟨(0≤a∧a < m)∧sz'=sz∧m'=m∧(f a.toNat).isAgg=agg,f a.toNat,H⟩
   | _,_=>bad H
 | .fld off sz agg x => match x.ev A with
   | .st m fs=>⟨fs.fhas off=true∧(fs.fget off).solid=true∧(fs.fget off).size=sz∧(fs.fget off).isAgg=agg,fs.fget off,H⟩
   | _=>bad H
 | .slarr m sz x lo hi => match x.ev A with
   | .ptr id p=>⟨(B1 A lo∧B1 A hi∧0≤AC A 0 lo∧AC A 0 lo≤AC A m hi∧AC A m hi≤m)∧Af H id=true∧(hget H id).solid=true∧(hget H id).ok p∧(match (hget H id).get p with | .ar sz' m' _=>sz'=sz∧m'=m | _=>False),
    .sl id p (AC A 0 lo).toNat ((AC A m hi).toNat - (AC A 0 lo).toNat) sz,H⟩
   | .imm v => match v with
     | .ar sz' m' f=>⟨(B1 A lo∧B1 A hi∧0≤AC A 0 lo∧AC A 0 lo≤AC A m hi∧AC A m hi≤m)∧sz'=sz∧m'=m,.lst sz ((AC A m hi).toNat - (AC A 0 lo).toNat) (fun i=>f ((AC A 0 lo).toNat + i)),H⟩
     | _=>bad H
   | _=>bad H
 | .slsl sz x lo hi => match x.ev A with
   | .sl id p o m sz'=>⟨(B1 A lo∧B1 A hi∧0≤AC A 0 lo∧AC A 0 lo≤AC A m hi∧AC A m hi≤m)∧sz'=sz,.sl id p (o + (AC A 0 lo).toNat) ((AC A m hi).toNat - (AC A 0 lo).toNat) sz,H⟩
   | .lst sz' m f=>⟨(B1 A lo∧B1 A hi∧0≤AC A 0 lo∧AC A 0 lo≤AC A m hi∧AC A m hi≤m)∧sz'=sz,.lst sz ((AC A m hi).toNat - (AC A 0 lo).toNat) (fun i=>f ((AC A 0 lo).toNat + i)),H⟩
   | .nils=>⟨B1 A lo∧B1 A hi∧AC A 0 lo=0∧AC A 0 hi=0,.nils,H⟩
   | _=>bad H
 | .s2a m sz x => match x.ev A with
   | .sl id p o l sz'=>⟨(sz'=sz∧m≤l∧0 < m),.ptr id (CQ p (.r sz o m)),H⟩
   | .lst sz' l f=>⟨sz'=sz∧m≤l∧0 < m,.imm (.ar sz m f),H⟩
   | _=>bad H
 | .mkif t x=>⟨(x.ev A).solid=true,.ifc t (x.ev A),H⟩
 | .ext x i => match x.ev A with
   | .tup fs=>⟨fs.fhas i=true,fs.fget i,H⟩
   | _=>bad H
 | .len k x => match k, x.ev A with
   | 0,.sl _ _ _ m _=>⟨True,.int .i64 m,H⟩
   | 0,.lst _ m _=>⟨True,.int .i64 m,H⟩
   | 0,.nils=>⟨True,.int .i64 0,H⟩
   | 1,.str s=>⟨True,.int .i64 s.size,H⟩
   | 2,.nilm=>⟨True,.int .i64 0,H⟩
   | 2, .map id => match hget H id with
     | .mp m _ _=>⟨Af H id=true,.int .i64 m,H⟩
     | _=>bad H
   | _,_=>bad H
 | .app sz bytes x y =>
   match x.ev A,Cv H (y.ev A) with
   | .nils,some (sz',m,g)=>⟨sz'=sz∧B4 H (y.ev A)∧0 < m∧m * bytes≤2 ^ 47,.sl n [] 0 m sz,(n,.ar sz m g) :: H⟩
   | .sl id p o l sz'', some (sz', m, g) =>
     match hget H id with
     | .ar _ l' f=>⟨(sz'=sz∧sz''=sz∧p=[]∧o=0)∧(Af H id=true∧(hget H id).solid=true∧(match hget H id with | .ar s _ _=>s=sz | _=>False)∧l≤l')∧B4 H (y.ev A)∧(l + m) * bytes≤2 ^ 47,
      .sl n [] 0 (l + m) sz,(n,.ar sz (l + m) (fun i=>if i < l then f i else g (i - l))) :: CT H id⟩
     | _=>bad H
   | _,_=>bad H
 | .copy sz x y =>
   match x.ev A,Cv H (y.ev A) with
   | .sl id p o l sz'', some (sz', m, g) =>
     match (hget H id).get p with
     | .ar s l' f=>⟨(sz'=sz∧sz''=sz∧s=sz)∧(Af H id=true∧(hget H id).solid=true∧(hget H id).ok p∧H2 p=true∧o + l≤l')∧B4 H (y.ev A),.int .i64 (min m l:Nat),
      BC H id (V.set (.ar sz l' (fun i=>if o≤i∧i < o + min m l then g (i - o) else f i)) p (hget H id))⟩
     | _=>bad H
   | .sl _ _ _ _ _,none=>⟨match y.ev A with | .nils=>True | _=>False,.int .i64 0,H⟩
   | _,_=>bad H
 | .mm max x y => match x.ev A, y.ev A with
   | .int k a,.int k' b=>⟨k=k',.int k (if max then (if a < b then b else a) else (if b < a then b else a)),H⟩
   | _,_=>bad H
 | .mksl sz bytes z l c => match l.ev A, c.ev A with
   | .int k a,.int k' b=>⟨k = .i64∧k' = .i64∧0≤a∧a≤b∧b * bytes≤2 ^ 47∧b < 2 ^ 47,.sl n [] 0 a.toNat sz,(n,.ar sz b.toNat (fun _=>z.v 0)) :: H⟩
   | _,_=>bad H
 | .mkmap zk zv=>⟨True,.map n,(n,.mp 0 (fun _=>zk.v 0) (fun _=>zv.v 0)) :: H⟩
 | .mlook s z ok m k=>Lw s z ok (m.ev A) (k.ev A) H
 | .mupd s m k x=>WF s (m.ev A) (k.ev A) (x.ev A) H
 | .mkfn f caps=>⟨C5 A caps,.fn f (.st caps.length (DN A caps 0)),H⟩
 | .sidx x i => match x.ev A, i.ev A with
   | .str s,.int _ a=>⟨0≤a∧a < s.size,.int .u8 ((s[a.toNat]?).getD 0).toNat,H⟩
   | _,_=>bad H
 | .add64 x y z => match x.ev A, y.ev A, z.ev A with
   | .int .u64 a,.int .u64 b,.int .u64 c=>⟨0≤a∧0≤b∧0≤c∧c≤1,.tup (.fcons 0 (.int .u64 ((a + b + c) % 18446744073709551616)) (.fcons 1 (.int .u64 ((a + b + c) / 18446744073709551616)) .fnil)),H⟩
   | _,_,_=>bad H
 | .mkmth k x => match x.ev A with
   | .ifc t v=>⟨True,.fn (1000000 + k) (.st 1 (.fcons 0 (.ifc t v) .fnil)),H⟩
   | _=>bad H
 | .nilm k ts x => match x.ev A with
   | .fn f (.st m (.fcons j (.ifc t v) r))=>⟨f=1000000 + k∧t ∈ ts∧m=1∧j=0,.fn f (.st m (.fcons j (.ifc t v) r)),H⟩
   | _=>bad H
 | .mclone x => match x.ev A with
   | .ifc t (.map id) => match hget H id with
     | .mp m ks vs=>⟨Af H id=true,.ifc t (.map n),(n,.mp m ks vs) :: H⟩
     | _=>bad H
   | .ifc t (.fm m ks vs)=>⟨True,.ifc t (.map n),(n,.mp m ks vs) :: H⟩
   | _=>bad H
 | .tas t x => match x.ev A with
   | .ifc t' v=>⟨t'=t,v,H⟩
   | _=>bad H
 | .b2s x => match Cv H (x.ev A) with
   | some (sz,m,g)=>⟨sz=1∧B4 H (x.ev A)∧0 < m∧∀ i,i < m→Aqx (g i),.str (Ahq m g),H⟩
   | none=>bad H
 | .mm4 max x y z w => match x.ev A, y.ev A, z.ev A, w.ev A with
   | .int k a,.int k1 b,.int k2 c,.int k3 d=>⟨k=k1∧k=k2∧k=k3,.int k (mm2 max (mm2 max (mm2 max a b) c) d),H⟩
   | _,_,_,_=>bad H
 | .rng x => match x.ev A with
   | .map id => match hget H id with
     | .mp _ _ _=>⟨Af H id=true,.ptr n [],(n,.tup (.map id)) :: H⟩
     | _=>bad H
   | .fm m ks vs=>⟨True,.ptr n [],(n,.tup (.fcons 0 (.fm m ks vs) (.ar 1 m fun _=>.bool false))) :: H⟩
   | _=>bad H
 | .nxt x => match x.ev A with
   | .ptr id [] => match hget H id with
     | .tup (.map j) => match hget H j with
       | .mp m _ _=>⟨m=0∧Af H id=true∧Af H j=true,.tup (.fcons 0 (.bool false) .fnil),H⟩
       | _=>bad H
     | _=>bad H
   | _=>bad H
 | .ent x => match x.ev A with
   | .ptr id [] => match hget H id with
     | .tup (.fcons o (.fm m ks vs) (.ar _ _ _))=>⟨Af H id=true∧0 < o∧o≤m,.tup (.fcons 0 (ks (o - 1)) (.fcons 1 (vs (o - 1)) .fnil)),H⟩
     | _=>bad H
   | _=>bad H
 | .nope=>bad H
variable {M:Seat}
def Akg (_M:Seat) (v:Value) (u:V):Bool :=
 match v,u with
 | .int k n,.int k' n'=>decide (k=k') && decide (n=n')
 | .bool b,.bool b'=>b == b'
 | .string s,.str s'=>s.data == s'.data
 | .pointer none,.nilp=>true
 | .slice none 0 0,.nils=>true
 | .map none,.nilm=>true
 | .nilFunc,.nilf=>true
 | .nilIface,.nili=>true
 | _,_=>false
def A3 (M:Seat) (x:Operand) (y:X):Bool :=
 match x,y with
 | .tmp t,.t t'=>t == t'
 | .const v,.c u=>Akg M v u
 | .global g,.g g'=>M.γ g' == g && M.gl.contains g'
 | .func f,.fn f'=>M.φ f' == f && decide (f' < 1000000)
 | _,_=>false
theorem Age {e:Env} {v:Value} {u:V} (h:Akg M v u=true):RV e u v:=by
 unfold Akg at h;split at h
 ·simp only [Bool.and_eq_true,decide_eq_true_eq] at h;obtain ⟨rfl,rfl⟩:=h;simp [RV,RS,V.isAgg,R]
 ·simp only [beq_iff_eq] at h;subst h;simp [RV,RS,V.isAgg,R]
 ·rename_i s s';have:s=s':=by
   cases s;cases s';simp only [beq_iff_eq] at h;simp_all
  subst this;simp [RV,RS,V.isAgg,R]
 all_goals first
  | (cases h;done)
  | simp [RV,RS,V.isAgg,R]
structure FR (e:Env) (A:List V) (tmps:Array Value):Prop where
 len:tmps.size=A.length
 val:∀ t,RV e (A.getD t .junk) (tmps.getD t undef)
def CJ (M:Seat) (e:Env):X→Prop
 | .g g=>R e (.imm (U8 g)) [.pointer (some ⟨M.γ g,0,none⟩)]
 | _=>True
theorem Az {e:Env} (hφ:e.φ=M.φ) {A:List V} {a:Act} (hA:FR e A a.tmps) {x:Operand} {y:X} (h:A3 M x y=true) (hg:CJ M e y):RV e (y.ev A) (a.eval x):=by
 unfold A3 at h;split at h
 ·simp only [beq_iff_eq] at h;subst h;exact hA.val _
 ·exact Age h
 ·simp only [Bool.and_eq_true,beq_iff_eq] at h;obtain ⟨rfl,_⟩:=h;simpa [X.ev,RV,RS,V.isAgg,Act.eval,CJ] using hg
 ·simp only [Bool.and_eq_true,beq_iff_eq,decide_eq_true_eq] at h;obtain ⟨rfl,hlt⟩:=h;simp only [X.ev,RV,RS,V.isAgg,Act.eval,R];exact ⟨[],by rw [hφ,P7,if_pos hlt],by simp [V.chain]⟩
 ·cases h
theorem Ct {c:Ctx} {e:Env} {H:Hp} (hI:Inv M c e H) {x:Operand} {y:X} (h:A3 M x y=true):CJ M e y:=by
 cases y <;> try trivial
 cases x <;> simp only [A3,Bool.false_eq_true,Bool.and_eq_true,List.contains_iff_mem] at h;exact hI.gs.1 _ h.2
def FD (M:Seat) (t:TypeId):Option Nat:=(M.P.info? t).map (·.size)
def H3 (M:Seat) (t:TypeId):Option Bool:=(M.P.underlying t).map (fun d=>match d with | .struct _ | .array _ _=>true | _=>false)
theorem Bv {t:TypeId} {n:Nat} (h:FD M t=some n) (w:World):(Go.sizeOf t).run M.P w=Result.ok n w:=by
 unfold FD at h;cases hi:M.P.info? t with
 | none=>simp [hi] at h
 | some i=>simp [hi] at h;subst h;simp [Go.sizeOf,typeInfo,hi]
theorem OD {t:TypeId} {b:Bool} (h:H3 M t=some b) (w:World):(Go.isAgg t).run M.P w=Result.ok b w:=by
 unfold H3 at h;cases hu:M.P.underlying t with
 | none=>simp [hu] at h
 | some d =>
   simp only [hu,Option.map_some,Option.some.injEq] at h;unfold Go.isAgg;rw [Sem.run_bind,run_underlying hu];simp only [Result.andThen_ok];subst h;cases d <;> rfl
def Bm (M:Seat) (c:Ctx) (e:Env) (n:Nat) (out:Out) (r:Result Next):Prop :=
 ∃ x e',(r = .ok (.value x) e'.w ∨ (r = .ok .skip e'.w∧x=undef))∧e.le e'∧Inv M c e' out.H∧RV e' out.v x∧(∀ id,e'.D id→e.D id ∨ id=n)
theorem Ao {c:Ctx} {e:Env} {H:Hp} {n:Nat} {out:Out} {r:Result Next} {x:Value} (hI:Inv M c e H) (hr:r = .ok (.value x) e.w) (hH:out.H=H) (hv:RV e out.v x):Bm M c e n out r :=
 ⟨x,e,.inl hr,Env.le_refl e,hH ▸ hI,hv,fun _ h=>.inl h⟩
theorem JT {w:World} {b o n:Nat} {c:Array Value} {el:TypeId} {fz:Nat × Nat} (hb:w.heap[b]?=some (.cells c el fz)) (_hl:o + n≤c.size) :
 ∀ j v,((c.toList.drop o).take n)[j]?=some v→w.cell? ((⟨b,o,none⟩:Addr).add j)=some v:=by
 intro j v hj;rw [List.getElem?_take] at hj;split at hj
 ·rw [List.getElem?_drop] at hj;unfold Addr.add;split
  ·rename_i h0;subst h0;simpa [World.cell?,hb] using hj
  ·simpa [World.cell?,hb] using hj
 ·cases hj
theorem FO {t:TypeId} {agg:Bool} {n:Nat} (hs:FD M t=some n) (ha:H3 M t=some agg) {w:World} {b o:Nat} {c:Array Value} {el:TypeId} {fz:Nat × Nat} (hb:w.heap[b]?=some (.cells c el fz)) (hl:o + n≤c.size) (h1:agg=false→n=1) :
 (Instr.loadAt t (.pointer (some ⟨b,o,none⟩))).run M.P w = .ok (if agg then .agg ((c.toList.drop o).take n).toArray else c.getD o undef) w:=by
 have hlen:((c.toList.drop o).take n).length=n:=F6;unfold Instr.loadAt Instr.sureAddr loadVar;simp only [EP,OD ha,Bv hs];cases agg with
 | true =>
   simp only [if_true,QP,Bv hs];have:=run_loadCells_list (P:=M.P) w ⟨b,o,none⟩ _ (JT hb hl);rw [hlen] at this;simp [this]
 | false =>
   have hn:=h1 rfl;subst hn;have hc:w.cell? ⟨b,o,none⟩=some (c.getD o undef):=by
    have:o < c.size:=Aa;simp [World.cell?,hb,this]
   simp [hc]
theorem Yv {c:Array Value} {o:Nat} (h:o < c.size):(c.toList.drop o).take 1=[c.getD o undef]:=by
 apply List.ext_getElem?;intro i;rw [List.getElem?_take];cases i with
 | zero=>simp [h]
 | succ i=>simp
theorem DH {e:Env} {v:V} {agg:Bool} {c:Array Value} {o n:Nat} (hs:v.solid=true) (hsz:v.size=n) (ha:v.isAgg=agg) (hl:o + n≤c.size) (h:R e v ((c.toList.drop o).take n)) :
 (agg=false→n=1)∧RV e v (if agg then .agg ((c.toList.drop o).take n).toArray else c.getD o undef):=by
 have h1:agg=false→n=1:=fun hf=>by
  subst hf;cases v <;> simp_all [V.isAgg,V.size]
 refine ⟨h1,?_⟩;rw [Bb hs];unfold RS;rw [ha];cases agg with
 | true=>exact ⟨_,rfl,h⟩
 | false =>
   have hn:=h1 rfl;subst hn;rw [Yv Aa] at h;simpa using h
theorem Ue {c:Ctx} {e:Env} {H:Hp} {A:List V} {a:Act} (hI:Inv M c e H) (hA:FR e A a.tmps) (n:Nat) {t:TypeId} {x:Operand} {agg:Bool} {sz:Nat} {y:X}
 (hs:FD M t=some sz) (ha:H3 M t=some agg) (hx:A3 M x y=true) (hg:CJ M e y) (hp:(Ag A H n (.load agg sz y)).pre) :
 Bm M c e n (Ag A H n (.load agg sz y)) (Sem.run M.P (do pure (Next.value (← Instr.loadAt t (a.eval x)))) e.w):=by
 have hv:=Az hI.φ hA hx hg;simp only [Ag] at hp ⊢;split at hp
 ·rename_i id p hy;simp only [hy] at *
  obtain ⟨⟨h1,h2,h3⟩,h4,h5,h6⟩:=hp;obtain ⟨cells,el,hc,hsz,hR⟩:=hI.cells h1 h2;have hlen:(cells.toList.take (hget H id).size).length=(hget H id).size:=F6;obtain ⟨g1,g2⟩:=DP hR hlen h3;rw [hlen] at g1;have g3:R e ((hget H id).get p) ((cells.toList.drop (At p)).take sz):=by
   rw [List.drop_take,List.take_take,Nat.min_eq_left Aa,h5] at g2;exact g2
  have hle:At p + sz≤cells.size:=Aa;obtain ⟨k1,k2⟩:=DH (o:=At p) h4 h5 h6 hle g3;simp only [RV,RS,V.isAgg,R,E0] at hv;refine Ao hI ?_ rfl k2;rw [hv.2];rw [Sem.run_bind,FO hs ha hc hle k1];rfl
 ·rename_i v hy;simp only [hy] at *
  obtain ⟨h4,h5,h6⟩:=hp;simp only [RV,RS,V.isAgg,R,E0] at hv;obtain ⟨b,o,cells,el,fz,hc,hi,hb,hl,hR⟩:=hv;rw [h5] at hl hR;obtain ⟨k1,k2⟩:=DH h4 h5 h6 hl hR;refine Ao hI ?_ rfl k2;rw [hc];rw [Sem.run_bind,FO hs ha hb hl k1];rfl
 ·exact hp.elim
theorem QA {c:Ctx} {e:Env} {H:Hp} {A:List V} {a:Act} (hI:Inv M c e H) (hA:FR e A a.tmps) (n:Nat) {t:TypeId} {x x':Operand} {sz:Nat} {y y':X}
 (hs:FD M t=some sz) (hx:A3 M x y=true) (hg:CJ M e y) (hx':A3 M x' y'=true) (hg':CJ M e y') (hp:(Ag A H n (.store sz y y')).pre) :
 Bm M c e n (Ag A H n (.store sz y y')) (Sem.run M.P (do Instr.storeAt t (a.eval x) (a.eval x');pure Next.skip) e.w):=by
 have hv:=Az hI.φ hA hx hg;have hv':=Az hI.φ hA hx' hg';simp only [Ag] at hp ⊢;split at hp
 ·rename_i id p hy;simp only [hy] at *
  obtain ⟨⟨h1,h2,h3,h4⟩,h5,h6,h7⟩:=hp;obtain ⟨cells,el,hc,hsz,hR⟩:=hI.cells h1 h2;have hlen:(cells.toList.take (hget H id).size).length=(hget H id).size:=F6;obtain ⟨g1,g2⟩:=DP hR hlen h3;rw [hlen] at g1;rw [Bb h5] at hv';have hRy:=Jx h5 hv';have hyl:=Mm h5 hRy;have h1c:=JA h5 hRy;generalize a.eval x'=xv at *
  simp only [RV,RS,V.isAgg,R,E0] at hv;have hoff:At p + xv.cells.toList.length≤cells.size:=Aa;have hst:=run_storeCells_at M.P (e.ρ id) (At p) el xv.cells.toList 0 cells e.w hc (by simpa using hoff) h1c;simp only [Nat.add_zero] at hst;have hnew:(cells.toList.take (At p) ++ xv.cells.toList ++ cells.toList.drop (At p + xv.cells.toList.length))=A4 cells.toList (At p) xv.cells.toList:=rfl;rw [hnew] at hst;have hsp:(A4 cells.toList (At p) xv.cells.toList).length=cells.toList.length:=AN (by simpa using hoff);have hszn:(A4 cells.toList (At p) xv.cells.toList).toArray.size=cells.size:=by simpa using hsp
  have BC:=O6 h5 hRy hyl hR hlen h4 h3 Aa;have hzz:=V.set_size (y'.ev A) p (hget H id) h4 h3 Aa;have hzs:=V.set_solid h5 p (hget H id) h4 h3 h2;have hRn:R e (V.set (y'.ev A) p (hget H id)) ((A4 cells.toList (At p) xv.cells.toList).toArray.toList.take (V.set (y'.ev A) p (hget H id)).size):=by
   rw [hzz];have:(A4 cells.toList (At p) xv.cells.toList).take (hget H id).size=A4 (cells.toList.take (hget H id).size) (At p) xv.cells.toList:=by
    have:=EK (cs:=cells.toList) (ys:=xv.cells.toList) (o:=At p) (a:=0) (n:=(hget H id).size) (b:=At p) (by simpa using hoff) Aa Aa F6;simpa using this
   simp only [this];exact BC
  obtain ⟨r1,r2⟩:=hI.row h1 hc hszn hzs (by rw [hzz,hszn];exact hsz) hRn;refine ⟨undef,_,.inr ⟨?_,rfl⟩,r1,r2,?_,fun _ h=>.inl h⟩
  ·rw [hv.2];have hcs:¬ (xv.cells.size ≠ sz):=by
    have:xv.cells.toList.length=xv.cells.size:=BF;omega
   simp only [Instr.storeAt,Instr.sureAddr,storeVar,EP,Bv hs,hcs,if_false,hst]
  ·exact ⟨#[],rfl,trivial⟩
 ·exact hp.elim
end Mv
