/- A part. -/
import Derived.Test.YtgeionenpaopaaaGreatDoorAH
set_option linter.all false
namespace Mv
open Go
variable {M:Seat}
theorem Abn {c:Ctx} {e:Env} {H:Hp} {A:List V} {a:Act} (hI:Inv M c e H) (hA:FR e A a.tmps) {n:Nat} {max:Bool} {ts:Array TypeId} {ty:TypeId} {x1 x2:Operand} {y1 y2:X}
 (hx:A3 M x1 y1=true) (hx2:A3 M x2 y2=true) (hp:(Ag A H n (.mm max y1 y2)).pre) :
 Bm M c e n (Ag A H n (.mm max y1 y2)) (Sem.run M.P (do pure (Next.value (← (if max then Builtin.max_ ts ty #[a.eval x1,a.eval x2] else Builtin.min_ ts ty #[a.eval x1,a.eval x2])))) e.w):=by
 have v1:=Az hI.φ hA hx (Ct hI hx);have v2:=Az hI.φ hA hx2 (Ct hI hx2);simp only [Ag] at hp ⊢;split at hp
 ·rename_i k i k' j hy1 hy2;rw [hy1] at v1;rw [hy2] at v2;have hp':k=k':=hp;subst hp';rw [B2 v1,B2 v2];refine Ao hI (x:=.int k (if max then (if i < j then j else i) else (if j < i then j else i))) (AB ?_) rfl (Br _ _);cases max <;> simp [Builtin.min_,Builtin.max_,Builtin.min2,Builtin.max2]
 ·exact hp.elim
theorem VK {c:Ctx} {e:Env} {H:Hp} {A:List V} {a:Act} (hI:Inv M c e H) (hA:FR e A a.tmps) {n:Nat} {max:Bool} {ts:Array TypeId} {ty:TypeId} {x1 x2 x3 x4:Operand} {y1 y2 y3 y4:X}
 (hx:A3 M x1 y1=true) (hx2:A3 M x2 y2=true) (hx3:A3 M x3 y3=true) (hx4:A3 M x4 y4=true) (hp:(Ag A H n (.mm4 max y1 y2 y3 y4)).pre) :
 Bm M c e n (Ag A H n (.mm4 max y1 y2 y3 y4)) (Sem.run M.P (do pure (Next.value (← (if max then Builtin.max_ ts ty #[a.eval x1,a.eval x2,a.eval x3,a.eval x4] else Builtin.min_ ts ty #[a.eval x1,a.eval x2,a.eval x3,a.eval x4])))) e.w):=by
 have v1:=Az hI.φ hA hx (Ct hI hx);have v2:=Az hI.φ hA hx2 (Ct hI hx2);have v3:=Az hI.φ hA hx3 (Ct hI hx3);have v4:=Az hI.φ hA hx4 (Ct hI hx4);simp only [Ag] at hp ⊢;split at hp
 ·rename_i k i k1 j k2 l k3 m hy1 hy2 hy3 hy4;rw [hy1] at v1;rw [hy2] at v2;rw [hy3] at v3;rw [hy4] at v4;obtain ⟨rfl,rfl,rfl⟩:k=k1∧k=k2∧k=k3:=hp;rw [B2 v1,B2 v2,B2 v3,B2 v4];refine Ao hI (x:=.int k (mm2 max (mm2 max (mm2 max i j) l) m)) (AB ?_) rfl (Br _ _);cases max <;> simp [Builtin.min_,Builtin.max_,Builtin.min2,Builtin.max2,mm2]
 ·exact hp.elim
theorem PJ {e:Env} {A:List V} {a:Act} (hφ:e.φ=M.φ) (hA:FR e A a.tmps):∀ (xs:List Operand) (ys:List X) (front:List Value),(xs.length=ys.length∧∀ q ∈ xs.zip ys,A3 M q.1 q.2=true∧CJ M e q.2)→C5 A ys →
 R e (DN A ys front.length) (front ++ xs.map a.eval)∧(∀ x ∈ xs.map a.eval,x.oneCell'=true)
 | [],[],front,_,_=>⟨trivial,by simp⟩
 | x :: xs, y :: ys, front, hc, hok => by
   simp only [C5] at hok;obtain ⟨⟨h1,h2⟩,hok'⟩:=hok;obtain ⟨hx,hg⟩:=hc.2 (x,y) BF;have hv:=Az hφ hA hx hg;rw [Bb h1] at hv;unfold RS at hv;rw [h2] at hv;simp only at hv;have h1c:=JA h1 hv;have hsz:(y.ev A).size=1:=by
    have:=Mm h1 hv;simpa using this.symm
   obtain ⟨r1,r2⟩:=PJ hφ hA xs ys (front ++ [a.eval x]) ⟨by simpa using hc.1,fun q hq=>hc.2 q (by simp [hq])⟩ hok';simp only [Lc4,Nat.zero_add,List.append_assoc,List.singleton_append] at r1;refine ⟨?_,fun v hv'=>?_⟩
   ·simp only [DN,R,List.map_cons];have hch:(DN A ys (front.length + 1)).chain=true:=by cases ys <;> rfl
    refine ⟨hch,?_,?_,?_,r1⟩
    ·rw [hsz];cases ys with
     | nil=>simp [DN,V.flo]
     | cons y' ys'=>simp [DN,V.flo]
    ·rw [hsz];simp
    ·rw [hsz];simpa using hv
   ·simp only [List.map_cons,List.mem_cons] at hv';rcases hv' with rfl | hv'
    ·exact h1c _ BF
    ·exact r2 v hv'
 | [],_ :: _,_,hc,_=>by simp at hc
 | _ :: _,[],_,hc,_=>by simp at hc
theorem UO {c:Ctx} {e:Env} {H:Hp} {A:List V} {a:Act} (hI:Inv M c e H) (hA:FR e A a.tmps) {n:Nat} {f:Nat} {xs:Array Operand} {ys:List X}
 (hlt:f < 1000000) (hc:xs.size=ys.length∧∀ q ∈ xs.toList.zip ys,A3 M q.1 q.2=true) (hp:(Ag A H n (.mkfn f ys)).pre) :
 Bm M c e n (Ag A H n (.mkfn f ys)) (Sem.run M.P (do pure (Next.value (← Instr.makeFunc (.func (M.φ f)) ((#[]:Array Operand).map a.eval) (xs.map a.eval)))) e.w):=by
 simp only [Ag] at hp ⊢;obtain ⟨r1,r2⟩:=PJ hI.φ hA xs.toList ys [] ⟨by simpa using hc.1,fun q hq=>⟨hc.2 q hq,Ct hI (hc.2 q hq)⟩⟩ hp;refine Ao hI (x:=.func (.func (M.φ f)) #[] (xs.map a.eval)) (AB (by simp [Instr.makeFunc])) rfl ?_;simp only [RV,RS,V.isAgg,R];refine ⟨xs.toList.map a.eval,by rw [hI.φ,P7,if_pos hlt];congr 2;apply Array.ext';simp,by simp [hc.1],⟨by cases ys <;> rfl,r2⟩,by simpa using r1⟩
theorem Vn {c:Ctx} {e:Env} {H:Hp} {A:List V} {a:Act} (hI:Inv M c e H) (hA:FR e A a.tmps) {n:Nat} {f:Nat} {xs:Array Operand} {ys:List X}
 (hlt:¬ f < 2000000) (hc:xs.size=ys.length∧∀ q ∈ xs.toList.zip ys,A3 M q.1 q.2=true) (hp:(Ag A H n (.mkfn f ys)).pre) :
 Bm M c e n (Ag A H n (.mkfn f ys)) (Sem.run M.P (do pure (Next.value (← Instr.makeFunc (.func (M.φ (f - 2000000))) (xs.map a.eval) ((#[]:Array Operand).map a.eval)))) e.w):=by
 simp only [Ag] at hp ⊢;obtain ⟨r1,r2⟩:=PJ hI.φ hA xs.toList ys [] ⟨by simpa using hc.1,fun q hq=>⟨hc.2 q hq,Ct hI (hc.2 q hq)⟩⟩ hp;refine Ao hI (x:=.func (.func (M.φ (f - 2000000))) (xs.map a.eval) #[]) (AB (by simp [Instr.makeFunc])) rfl ?_;simp only [RV,RS,V.isAgg,R];refine ⟨xs.toList.map a.eval,by rw [hI.φ,P7,if_neg Aa,if_neg hlt];congr 2;apply Array.ext';simp,by simp [hc.1],⟨by cases ys <;> rfl,r2⟩,by simpa using r1⟩
def PK (M:Seat) (t k:Nat):Bool :=
 match M.P.info? (M.τ t) with
 | some i => (match i.methods.find? (·.name == JE k) with
   | some m=>m.path.isEmpty && (match m.func with | some (_,true)=>true | _=>false)
   | none=>false)
 | none=>false
theorem MZ {P:Program} {t:TypeId} {nm:String} {i:TypeInfo} {m:Method} {f:FuncId} (hi:P.info? t=some i) (hm:i.methods.find? (·.name == nm)=some m) (hp:m.path = #[]) (hf:m.func=some (f,true)) (v:Value) (w:World) (d:Nat) :
 (nilAhead (d + 1) t v nm).run P w = .ok (some false) w:=by
 simp only [nilAhead,typeInfo,EP,hi,hm,hp,hf,followBlind];simp [hi,hm,hp,hf,followBlind]
theorem Rf {c:Ctx} {e:Env} {H:Hp} {A:List V} {a:Act} (hI:Inv M c e H) (hA:FR e A a.tmps) {n:Nat} {k:Nat} {nm:String} {first xs:Array Operand} {x:Operand} {y:X}
 (hk:JE k=nm) (hk6:k < 1000000) (hf:first = #[x]) (hxs:xs = #[]) (hx:A3 M x y=true) (hg:CJ M e y) (hp:(Ag A H n (.mkmth k y)).pre) :
 Bm M c e n (Ag A H n (.mkmth k y)) (Sem.run M.P (do pure (Next.value (← Instr.makeFunc (.method nm) (first.map a.eval) (xs.map a.eval)))) e.w):=by
 subst hf hxs hk;have hv:=Az hI.φ hA hx hg;simp only [Ag] at hp ⊢;split at hp;case h_2=>exact hp.elim
 rename_i t v hy;rw [hy] at hv;refine Ao hI (x:=.func (.method (JE k)) #[a.eval x] #[]) (AB (by simp [Instr.makeFunc])) rfl ?_;simp only [RV,RS,V.isAgg] at hv ⊢;have hl:=Mm (v:=.ifc t v) rfl hv;have ho:=JA (v:=.ifc t v) rfl hv;refine R.eq_def .. ▸ ⟨[a.eval x],?_,?_⟩
 ·rw [P7,if_neg Aa,if_pos Aa,show 1000000 + k - 1000000=k by omega]
 ·refine R.eq_def .. ▸ ⟨rfl,⟨rfl,fun z hz=>ho z hz⟩,?_⟩;refine R.eq_def .. ▸ ⟨rfl,by simp [V.size,V.flo],by simp [V.size],by simpa [V.size] using hv,trivial⟩
theorem TJ {c:Ctx} {e:Env} {H:Hp} {A:List V} {a:Act} (hI:Inv M c e H) (hA:FR e A a.tmps) {n:Nat} {o:Oper} {k:Nat} {ts:List Nat} {x:Operand} {y:X} (ho:o.op = .nilCheck x) (hk6:k < 1000000)
 (hx:A3 M x y=true) (hg:CJ M e y) (hts:ts.all (fun t=>PK M t k)=true) (hp:(Ag A H n (.nilm k ts y)).pre) :
 Bm M c e n (Ag A H n (.nilm k ts y)) (Sem.run M.P (execOp a.eval o) e.w):=by
 have hv:=Az hI.φ hA hx hg;simp only [execOp,ho];simp only [Ag] at hp ⊢;split at hp;case h_2=>exact hp.elim
 rename_i f m j t v r hy;rw [hy] at hv;obtain ⟨rfl,hmem,rfl,rfl⟩:=hp;refine Ao hI (x:=a.eval x) ?_ rfl hv;simp only [RV,RS,V.isAgg,R,E0] at hv;obtain ⟨xs,hx',hlen,_,_,_,_,⟨z,hz,_⟩,_⟩:=hv;have hc:=List.all_eq_true.1 hts t hmem;unfold PK at hc;split at hc;case h_2=>cases hc
 rename_i i hi;split at hc;case h_2=>cases hc
 rename_i mr hmr;simp only [Bool.and_eq_true,Array.isEmpty_iff] at hc;obtain ⟨hpath,hc⟩:=hc;split at hc;case h_2=>cases hc
 rename_i g hfn;have hxs:xs=[.iface (M.τ t) z]:=by
  match xs,hlen with
  | [q], _ =>
    have:[q]=[Value.iface (e.τ t) z]:=by simpa [V.size] using hz
    rw [this,hI.τ]
 rw [hx',P7,if_neg Aa,if_pos Aa,hxs,show 1000000 + k - 1000000=k by omega];have hn:=MZ hi hmr hpath hfn z e.w (M.P.types.size + Made.depth - 1);have hd:M.P.types.size + Made.depth - 1 + 1=M.P.types.size + Made.depth:=by
  have:0 < Made.depth:=Ab;omega
 rw [hd] at hn;simp [Sem.run_bind,hn]
def W4 (M:Seat) (t:TypeId) (z:Z):Bool:=match (M.P.info? t).bind (·.zero) with | some x=>z.chk x | none=>false
def J1 (M:Seat) (t:TypeId) (m sz:Nat):Bool:=match M.P.underlying t with | some (.array m' el)=>m == m' && FD M el == some sz | _=>false
def M4 (M:Seat) (t:TypeId) (sz:Nat):Bool:=match M.P.underlying t with | some (.slice el)=>FD M el == some sz | _=>false
def Oh (M:Seat) (s d:TypeId) (k:IntKind):Bool:=match M.P.underlying d,M.P.underlying s with | some (.int k'),some _=>decide (k=k') | _,_=>false
def Lv (M:Seat) (t:TypeId) (parts:Array (Nat × Operand)) (ps:List (Stp × Nat × X)):Bool :=
 match M.P.underlying t with
 | some (.struct fs)=>(match sfs M fs.toList with | some pl=>B8 M (fun i=>pl[i]?) parts.toList ps | none=>false)
 | some (.array _ el)=>(match FD M el with | some sz=>B8 M (fun i=>some (i * sz,sz)) parts.toList ps | none=>false)
 | _=>false
def Sv (M:Seat) (t:TypeId) (z:Z) (parts:Array (Nat × Operand)) (ps:List (Stp × Nat × X)):Bool :=
 match M.P.underlying t with
 | some (.slice el)=>W4 M el z && FD M el == some z.sz && B8 M (fun i=>some (i * z.sz,z.sz)) parts.toList ps
 | _=>false
def Px (M:Seat) (s:TypeId) (i off:Nat):Bool :=
 match M.P.underlying s with
 | some (.struct fs)=>(match fs[i]? with | some f=>f.offset == off && (match FD M f.type with | some sz=>sz != 0 | none=>false) | none=>false)
 | _=>false
def S8 (M:Seat) (s:TypeId) (i off sz:Nat) (agg:Bool):Bool :=
 match M.P.underlying s with
 | some (.struct fs)=>(match fs[i]? with | some f=>f.offset == off && FD M f.type == some sz && H3 M f.type == some agg | none=>false)
 | _=>false
def Sq (M:Seat) (t:TypeId) (m sz:Nat) (agg:Bool):Bool:=match M.P.underlying t with | some (.array m' el)=>m == m' && FD M el == some sz && H3 M el == some agg | _=>false
def M6 (M:Seat) (t:TypeId):Bool:=match M.P.underlying t with | some (.interface _) | none=>false | _=>true
def Nl (M:Seat) (ts:Array TypeId) (k:Nat):Bool:=match ts[0]? with | some t=>(match M.P.underlying t with | some d=>ST k d | none=>false) | none=>false
def NI (M:Seat) (sT xT:TypeId) (sz bytes:Nat):Bool :=
 match M.P.underlying sT,M.P.underlying xT with
 | some (.slice el),some (.slice _)=>(match M.P.info? el with | some i=>i.size == sz && i.bytes == bytes && decide (0 < bytes) && (match i.zero with | some z=>z.cells.size == sz | none=>false) | none=>false)
 | _,_=>false
def K9 (M:Seat) (ts:Array TypeId) (sz:Nat):Bool:=match ts[0]? with | some sT=>M4 M sT sz | none=>false
def Ow (M:Seat) (t:TypeId) (sz bytes:Nat) (z:Z):Bool :=
 match M.P.underlying t with
 | some (.slice el)=>(match M.P.info? el with | some i=>i.size == z.sz && i.bytes == bytes && sz == z.sz && decide (0 < z.sz) && (match i.zero with | some x=>z.chk x | none=>false) | none=>false)
 | _=>false
def V7 (b:Builtin):Callee→Bool
 | .builtin b'=>decide (b=b')
 | _=>false
def IM (M:Seat) (xs:Array Operand) (y1 y2:X):Bool :=
 match xs.toList with
 | [x1,x2]=>A3 M x1 y1 && A3 M x2 y2
 | _=>false
def VN (M:Seat) (xs:Array Operand) (y1 y2 y3 y4:X):Bool :=
 match xs.toList with
 | [x1,x2,x3,x4]=>A3 M x1 y1 && A3 M x2 y2 && A3 M x3 y3 && A3 M x4 y4
 | _=>false
def Afq (M:Seat) (xs:Array Operand) (y1 y2 y3:X):Bool :=
 match xs.toList with
 | [x1,x2,x3]=>A3 M x1 y1 && A3 M x2 y2 && A3 M x3 y3
 | _=>false
def S9 (M:Seat) (t:TypeId) (s:ES):Bool:=FG s && (match M.P.underlying t with | some (.map kt _)=>BE M s kt [] | _=>false)
def Ss (M:Seat) (t:TypeId) (s:ES) (z:Z):Bool:=FG s && (match M.P.underlying t with
 | some (.map kt vt)=>BE M s kt [] && (match (M.P.info? vt).bind (·.zero) with | some x=>z.chk x && Aac x == (z.v 0).isAgg | none=>false)
 | _=>false)
def R8 (M:Seat) (op:Op) (lo:LO):Bool :=
 match lo with
 | .mv y=>(match op with | .move x=>A3 M x y | .assign x=>A3 M x y | _=>false)
 | .pick y1 y2 y3=>(match op with | .pick x1 x2 x3=>A3 M x1 y1 && A3 M x2 y2 && A3 M x3 y3 | _=>false)
 | .ari op' y1 y2=>(match op with | .binOp op _ x1 x2 _=>decide (op=op') && A3 M x1 y1 && A3 M x2 y2 | _=>false)
 | .eq neg c s y1 y2=>(match op with | .binOp op t x1 x2 _=>decide (op=if neg then .neq else .eql) && XC M c s t x1 x2 && (H5 s || MB s) && A3 M x1 y1 && A3 M x2 y2 | _=>false)
 | .un op' y1=>(match op with | .unOp op _ x1=>decide (op=op') && A3 M x1 y1 | _=>false)
 | .conv k y1=>(match op with | .convert s d x1=>Oh M s d k && A3 M x1 y1 | _=>false)
 | .alloc z=>(match op with | .alloc t=>W4 M t z | _=>false)
 | .box y1=>(match op with | .box _ x1=>A3 M x1 y1 | _=>false)
 | .build z ps=>(match op with | .build t parts=>W4 M t z && (z.v 0).isAgg && ps.all (fun q=>H2 [q.1]) && Lv M t parts ps | _=>false)
 | .bsl sz m' z ps=>(match op with | .buildSlice t m parts=>m == m' && ps.all (fun q=>H2 [q.1]) && sz == z.sz && decide (0 < z.sz) && decide (m * z.sz≤2 ^ 24) && Sv M t z parts ps | _=>false)
 | .load agg sz y1=>(match op with | .load t x1=>FD M t == some sz && H3 M t == some agg && A3 M x1 y1 | _=>false)
 | .store sz y1 y2=>(match op with | .store t x1 x2=>FD M t == some sz && A3 M x1 y1 && A3 M x2 y2 | _=>false)
 | .nilc y1=>(match op with | .nilCheck x1=>A3 M x1 y1 | _=>false)
 | .fadr off y1=>(match op with | .fieldAddr s x1 i=>Px M s i off && A3 M x1 y1 | _=>false)
 | .iarr m sz y1 y2=>(match op with | .indexAddr t x1 x2=>J1 M t m sz && A3 M x1 y1 && A3 M x2 y2 | _=>false)
 | .isl sz y1 y2=>(match op with | .indexAddr t x1 x2=>M4 M t sz && A3 M x1 y1 && A3 M x2 y2 | _=>false)
 | .idx m sz agg y1 y2=>(match op with | .index t x1 x2=>Sq M t m sz agg && A3 M x1 y1 && A3 M x2 y2 | _=>false)
 | .fld off sz agg y1=>(match op with | .field t x1 i=>S8 M t i off sz agg && A3 M x1 y1 | _=>false)
 | .slarr m sz y1 lo' hi'=>(match op with | .slice t x1 lo hi mx=>mx.isNone && J1 M t m sz && A3 M x1 y1 && Lh M lo lo' && Lh M hi hi' | _=>false)
 | .slsl sz y1 lo' hi'=>(match op with | .slice t x1 lo hi mx=>mx.isNone && M4 M t sz && A3 M x1 y1 && Lh M lo lo' && Lh M hi hi' | _=>false)
 | .s2a m sz y1=>(match op with | .sliceToArrayPointer t x1=>J1 M t m sz && A3 M x1 y1 | _=>false)
 | .mkif t' y1=>(match op with | .makeInterface t x1=>M.τ t' == t && M6 M t && A3 M x1 y1 | _=>false)
 | .ext y1 i'=>(match op with | .extract x1 i=>i == i' && A3 M x1 y1 | _=>false)
 | .len k y1=>(match op with | .call c=>V7 .len c.callee && Nl M c.argTypes k && (match c.args.toList with | [x1]=>A3 M x1 y1 | _=>false) | _=>false)
 | .app sz bytes y1 y2=>(match op with | .call c=>V7 .append c.callee && (match c.argTypes.toList with | [sT,xT]=>NI M sT xT sz bytes | _=>false) && IM M c.args y1 y2 | _=>false)
 | .copy sz y1 y2=>(match op with | .call c=>V7 .copy c.callee && K9 M c.argTypes sz && IM M c.args y1 y2 | _=>false)
 | .mm max y1 y2=>(match op with | .call c=>V7 (if max then .max else .min) c.callee && IM M c.args y1 y2 | _=>false)
 | .mksl sz bytes z y1 y2=>(match op with | .makeSlice t x1 x2=>Ow M t sz bytes z && A3 M x1 y1 && A3 M x2 y2 | _=>false)
 | .mkfn f' ys=>(match op with | .makeFunc (.func f) first xs=>if f' < 2000000 then M.φ f' == f && decide (f' < 1000000) && first.isEmpty && xs.size == ys.length && (xs.toList.zip ys).all (fun q=>A3 M q.1 q.2) else M.φ (f' - 2000000) == f && xs.isEmpty && first.size == ys.length && (first.toList.zip ys).all (fun q=>A3 M q.1 q.2) | _=>false)
 | .mkmap _ _=>(match op with | .makeMap _ r=>r.isNone | _=>false)
 | .mlook s z ok y1 y2=>(match op with | .lookup t x1 x2 ok'=>ok' == ok && Ss M t s z && A3 M x1 y1 && A3 M x2 y2 | _=>false)
 | .mupd s y1 y2 y3=>(match op with | .mapUpdate t x1 x2 x3=>S9 M t s && A3 M x1 y1 && A3 M x2 y2 && A3 M x3 y3 | _=>false)
 | .sidx y1 y2=>(match op with | .index t x1 x2=>Rx M t && A3 M x1 y1 && A3 M x2 y2 | _=>false)
 | .add64 y1 y2 y3=>(match op with | .call c=>KE M c.callee && Afq M c.args y1 y2 y3 | _=>false)
 | .mkmth k y=>(match op with | .makeFunc (.method nm) first xs=>JE k == nm && decide (k < 1000000) && xs.isEmpty && (match first.toList with | [x]=>A3 M x y | _=>false) | _=>false)
 | .nilm k ts y=>(match op with | .nilCheck x=>decide (k < 1000000) && A3 M x y && ts.all (fun t=>PK M t k) | _=>false)
 | .rng y1=>(match op with | .range t x1=>(match M.P.underlying t with | some (.map _ _)=>true | _=>false) && A3 M x1 y1 | _=>false)
 | .nxt y1=>(match op with | .next x1 s=>!s && A3 M x1 y1 | _=>false)
 | .mclone y=>(match op with | .call c=>Is M c.callee && (match c.args.toList with | [x]=>A3 M x y | _=>false) | _=>false)
 | .tas t y=>(match op with | .typeAssert x _ a ok=>!ok && M.τ t == a && M6 M a && A3 M x y | _=>false)
 | .b2s y=>(match op with | .convert s d x1=>PO M s d && A3 M x1 y | _=>false)
 | .mm4 max y1 y2 y3 y4=>(match op with | .call c=>V7 (if max then .max else .min) c.callee && VN M c.args y1 y2 y3 y4 | _=>false)
 | .ent y1=>(match op with | .entry x1=>A3 M x1 y1 | _=>false)
 | .nope=>true
end Mv
namespace Mv
open Go
variable {M:Seat}
theorem Dp {ρ:Operand→Value} {b:Builtin} {k:Call} {ty:TypeId} {w:World} (hb:k.callee = .builtin b) :
 Sem.run M.P (do let d ← resolve ρ k ty;invoke d.target d.args) w=(builtin b k.argTypes ty (k.args.map fun | .const _=>true | _=>false) (k.args.map ρ)).run M.P w:=by
 unfold resolve;simp only [hb];rfl
theorem JU {b:Builtin} {k:Callee} (h:V7 b k=true):k = .builtin b:=by
 cases k <;> simp_all [V7]
theorem Xr {xs:Array Operand} {y1 y2:X} (h:IM M xs y1 y2=true):∃ x1 x2,xs = #[x1,x2]∧A3 M x1 y1=true∧A3 M x2 y2=true:=by
 unfold IM at h;split at h
 ·rename_i x1 x2 hx;simp only [Bool.and_eq_true] at h;exact ⟨x1,x2,by apply Array.ext';simpa using hx,h.1,h.2⟩
 ·cases h
theorem Ac8 {c:Ctx} {e:Env} {H:Hp} (hI:Inv M c e H) {x:Option Operand} {y:Option X} (h:Lh M x y=true):T8 M e y:=by
 cases x <;> cases y <;> first | trivial | (cases h;done) | exact Ct hI h
section
variable {M:Seat} {c:Ctx} {e:Env} {H:Hp} {A:List V} {a:Act} (hI:Inv M c e H) (hA:FR e A a.tmps) {n:Nat}
include hI hA
theorem Ac6 {k:Call} {ty:TypeId} {kk:Nat} {y1:X} (hb:V7 .len k.callee=true) (h0:Nl M k.argTypes kk=true) (h1:(match k.args.toList with | [x1]=>A3 M x1 y1 | _=>false)=true) (hp:(Ag A H n (.len kk y1)).pre) :
 Bm M c e n (Ag A H n (.len kk y1)) (Sem.run M.P (do let d ← resolve a.eval k ty;invoke d.target d.args) e.w):=by
 unfold Nl at h0;split at h0;case h_2=>cases h0
 rename_i t hts;split at h0;case h_2=>cases h0
 rename_i d ht;split at h1;case h_2=>cases h1
 rename_i x1 hx;have hx':k.args = #[x1]:=by apply Array.ext';simpa using hx
 rw [Dp (JU hb),hx',show (#[x1]:Array Operand).map a.eval = #[a.eval x1] from by simp];exact WI hI hA ht hts h0 h1 (Ct hI h1) hp
theorem Acp (hn:¬ e.D n) (hk:c.k≤n) {k:Call} {ty:TypeId} {sz bytes:Nat} {y1 y2:X} (hb:V7 .append k.callee=true) (h0:(match k.argTypes.toList with | [sT,xT]=>NI M sT xT sz bytes | _=>false)=true) (h1:IM M k.args y1 y2=true) (hp:(Ag A H n (.app sz bytes y1 y2)).pre) :
 Bm M c e n (Ag A H n (.app sz bytes y1 y2)) (Sem.run M.P (do let d ← resolve a.eval k ty;invoke d.target d.args) e.w):=by
 obtain ⟨x1,x2,hx,h2,h3⟩:=Xr h1;split at h0;case h_2=>cases h0
 rename_i sT xT hts;have hts':k.argTypes = #[sT,xT]:=by apply Array.ext';simpa using hts
 unfold NI at h0;split at h0;case h_2=>cases h0
 rename_i el e2 hs hxT;split at h0;case h_2=>cases h0
 rename_i i hi;simp only [Bool.and_eq_true,beq_iff_eq,decide_eq_true_eq] at h0;obtain ⟨⟨⟨hsz,hby⟩,hbp⟩,h0⟩:=h0;split at h0;case h_2=>cases h0
 rename_i z hz;rw [Dp (JU hb),hx,hts',show (#[x1,x2]:Array Operand).map a.eval = #[a.eval x1,a.eval x2] from by simp];exact VF hI hA hn hk hs hxT hi hsz hby hz (by simpa using h0) hbp h2 (Ct hI h2) h3 (Ct hI h3) hp
theorem ZB {k:Call} {ty:TypeId} {sz:Nat} {y1 y2:X} (hb:V7 .copy k.callee=true) (h0:K9 M k.argTypes sz=true) (h1:IM M k.args y1 y2=true) (hp:(Ag A H n (.copy sz y1 y2)).pre) :
 Bm M c e n (Ag A H n (.copy sz y1 y2)) (Sem.run M.P (do let d ← resolve a.eval k ty;invoke d.target d.args) e.w):=by
 obtain ⟨x1,x2,hx,h2,h3⟩:=Xr h1;unfold K9 M4 at h0;split at h0;case h_2=>cases h0
 rename_i sT hts;split at h0;case h_2=>cases h0
 rename_i el hs;rw [Dp (JU hb),hx,show (#[x1,x2]:Array Operand).map a.eval = #[a.eval x1,a.eval x2] from by simp];exact TN (ty:=ty) hI hA hts hs (by simpa using h0) h2 (Ct hI h2) h3 (Ct hI h3) hp
theorem Ajx {k:Call} {ty:TypeId} {max:Bool} {y1 y2:X} (hb:V7 (if max then .max else .min) k.callee=true) (h1:IM M k.args y1 y2=true) (hp:(Ag A H n (.mm max y1 y2)).pre) :
 Bm M c e n (Ag A H n (.mm max y1 y2)) (Sem.run M.P (do let d ← resolve a.eval k ty;invoke d.target d.args) e.w):=by
 obtain ⟨x1,x2,hx,h2,h3⟩:=Xr h1;have:=Abn (max:=max) (ts:=k.argTypes) (ty:=ty) hI hA h2 h3 hp;rw [Dp (JU hb),hx,show (#[x1,x2]:Array Operand).map a.eval = #[a.eval x1,a.eval x2] from by simp];cases max <;> exact this
theorem Aaq {k:Call} {ty:TypeId} {max:Bool} {y1 y2 y3 y4:X} (hb:V7 (if max then .max else .min) k.callee=true) (h1:VN M k.args y1 y2 y3 y4=true) (hp:(Ag A H n (.mm4 max y1 y2 y3 y4)).pre) :
 Bm M c e n (Ag A H n (.mm4 max y1 y2 y3 y4)) (Sem.run M.P (do let d ← resolve a.eval k ty;invoke d.target d.args) e.w):=by
 unfold VN at h1;split at h1;case h_2=>cases h1
 rename_i x1 x2 x3 x4 hxs;simp only [Bool.and_eq_true] at h1;have hx:k.args = #[x1,x2,x3,x4]:=by apply Array.ext';simpa using hxs
 have:=VK (max:=max) (ts:=k.argTypes) (ty:=ty) hI hA h1.1.1.1 h1.1.1.2 h1.1.2 h1.2 hp;rw [Dp (JU hb),hx,show (#[x1,x2,x3,x4]:Array Operand).map a.eval = #[a.eval x1,a.eval x2,a.eval x3,a.eval x4] from by simp];cases max <;> exact this
theorem XH {f:Nat} {first xs:Array Operand} {ys:List X} (hlt:¬ f < 2000000) (h0:xs.isEmpty=true) (h1:first.size=ys.length) (h2:∀ q ∈ first.toList.zip ys,A3 M q.1 q.2=true) (hp:(Ag A H n (.mkfn f ys)).pre) :
 Bm M c e n (Ag A H n (.mkfn f ys)) (Sem.run M.P (do pure (Next.value (← Instr.makeFunc (.func (M.φ (f - 2000000))) (first.map a.eval) (xs.map a.eval)))) e.w):=by
 have h0':xs = #[]:=by simpa using h0
 subst h0';exact Vn hI hA hlt ⟨h1,h2⟩ hp
theorem Yy {f:Nat} {first xs:Array Operand} {ys:List X} (hlt:f < 1000000) (h0:first.isEmpty=true) (h1:xs.size=ys.length) (h2:∀ q ∈ xs.toList.zip ys,A3 M q.1 q.2=true) (hp:(Ag A H n (.mkfn f ys)).pre) :
 Bm M c e n (Ag A H n (.mkfn f ys)) (Sem.run M.P (do pure (Next.value (← Instr.makeFunc (.func (M.φ f)) (first.map a.eval) (xs.map a.eval)))) e.w):=by
 have h0':first = #[]:=by simpa using h0
 subst h0';exact UO hI hA hlt ⟨h1,h2⟩ hp
end
theorem Qi {c:Ctx} {e:Env} {H:Hp} {A:List V} {a:Act} (hI:Inv M c e H) (hA:FR e A a.tmps) {n:Nat} (hn:¬ e.D n) (hk:c.k≤n) {o:Oper} {lo:LO} (h:R8 M o.op lo=true) (hp:(Ag A H n lo).pre) :
 Bm M c e n (Ag A H n lo) (Sem.run M.P (execOp a.eval o) e.w):=by
 obtain ⟨dst,op,type,pos,after,guard⟩:=o;simp only at h;have hgk:∀ (place:Nat→Option (Nat × Nat)) (l:List (Nat × Operand)) (ps:List (Stp × Nat × X)),B8 M place l ps=true→Mt M e ps:=by
  intro place l;induction l with
  | nil => intro ps hps; cases ps with
    | nil=>trivial
    | cons q r=>simp [B8] at hps
  | cons p l ih => intro ps hps; cases ps with
    | nil=>trivial
    | cons q r =>
      obtain ⟨i,ox⟩:=p;obtain ⟨s,sz,xx⟩:=q;simp only [B8,Bool.and_eq_true] at hps;exact ⟨Ct hI hps.1.2,ih r hps.2⟩
 have hzt:∀ {t:TypeId} {z:Z},W4 M t z=true→∃ x,(M.P.info? t).bind (·.zero)=some x∧z.chk x=true:=by
  intro t z hz;unfold W4 at hz;split at hz
  ·rename_i x hx;exact ⟨x,hx,hz⟩
  ·cases hz
 have hat:∀ {t:TypeId} {m sz:Nat},J1 M t m sz=true→∃ el,M.P.underlying t=some (.array m el)∧FD M el=some sz:=by
  intro t m sz hz;unfold J1 at hz;split at hz
  ·rename_i m' el hx;simp only [Bool.and_eq_true,beq_iff_eq] at hz;obtain ⟨rfl,hz⟩:=hz;exact ⟨el,hx,hz⟩
  ·cases hz
 have hst:∀ {t:TypeId} {sz:Nat},M4 M t sz=true→∃ el,M.P.underlying t=some (.slice el)∧FD M el=some sz:=by
  intro t sz hz;unfold M4 at hz;split at hz
  ·rename_i el hx;exact ⟨el,hx,by simpa using hz⟩
  ·cases hz
 by_cases hany:lo = .nope
 ·subst hany;exact (show False from hp).elim
 cases lo <;> (try (exact absurd rfl hany)) <;> simp only [R8] at h <;> (try (cases h;done)) <;> split at h <;> (try (cases h;done)) <;> (try simp only [Lc6,beq_iff_eq,decide_eq_true_eq,Option.isNone_iff_eq_none] at h)
 ·exact SR hI hA h (Ct hI h)
 ·exact SR hI hA h (Ct hI h)
 ·obtain ⟨⟨h1,h2⟩,h3⟩:=h;exact Tm hI hA h1 (Ct hI h1) h2 (Ct hI h2) h3 (Ct hI h3) hp
 ·obtain ⟨⟨rfl,h1⟩,h2⟩:=h;exact Xp hI hA h1 (Ct hI h1) h2 (Ct hI h2) hp
 ·obtain ⟨⟨⟨⟨rfl,h0⟩,ht⟩,h1⟩,h2⟩:=h;exact Acx hI hA h0 (Aj1 ht) h1 (Ct hI h1) h2 (Ct hI h2) hp
 ·obtain ⟨rfl,h1⟩:=h;exact Aes hI hA h1 (Ct hI h1) hp
 ·obtain ⟨h0,h1⟩:=h;unfold Oh at h0;split at h0
  ·rename_i k' ds hd hs;simp only [decide_eq_true_eq] at h0;subst h0;exact UB hI hA hd hs h1 (Ct hI h1) hp
  ·cases h0
 ·obtain ⟨x,hz,hc⟩:=hzt h;exact Qz hI hn hk hz hc
 ·exact Wr hI hA hn hk h (Ct hI h) hp
 ·obtain ⟨⟨⟨h0,h1⟩,h2⟩,h3⟩:=h;obtain ⟨x,hz,hc⟩:=hzt h0;unfold Lv at h3;split at h3
  ·rename_i fs ht;split at h3
   ·rename_i pl hpl;exact Lo hI hA hz hc h1 ht hpl h3 (hgk _ _ _ h3) h2 hp
   ·cases h3
  ·rename_i m el ht;split at h3
   ·rename_i sz hsz;exact KR hI hA hz hc h1 ht hsz h3 (hgk _ _ _ h3) h2 hp
   ·cases h3
  ·cases h3
 ·obtain ⟨⟨⟨⟨⟨rfl,h2⟩,rfl⟩,h4⟩,h5⟩,h6⟩:=h;unfold Sv at h6;split at h6
  ·rename_i el ht;simp only [Bool.and_eq_true,beq_iff_eq] at h6;obtain ⟨⟨h0,hsz⟩,h3⟩:=h6;obtain ⟨x,hz,hc⟩:=hzt h0;exact YO hI hA hn hk hz hc h4 ht hsz h5 h3 (hgk _ _ _ h3) h2 hp
  ·cases h6
 ·obtain ⟨⟨h1,h2⟩,h3⟩:=h;exact Ue hI hA n h1 h2 h3 (Ct hI h3) hp
 ·obtain ⟨⟨h1,h2⟩,h3⟩:=h;exact QA hI hA n h1 h2 (Ct hI h2) h3 (Ct hI h3) hp
 ·exact Uk hI hA rfl h (Ct hI h) hp
 ·obtain ⟨h0,h1⟩:=h;unfold Px at h0;split at h0;case h_2=>cases h0
  rename_i fs hs;split at h0;case h_2=>cases h0
  rename_i f hf;simp only [Bool.and_eq_true,beq_iff_eq] at h0;obtain ⟨rfl,h0⟩:=h0;split at h0;case h_2=>cases h0
  rename_i sz hz;exact UQ hI hA hs hf hz (by simpa using h0) h1 (Ct hI h1) hp
 ·obtain ⟨⟨h0,h1⟩,h2⟩:=h;obtain ⟨el,ht,hz⟩:=hat h0;exact TD hI hA ht hz h1 (Ct hI h1) h2 (Ct hI h2) hp
 ·obtain ⟨⟨h0,h1⟩,h2⟩:=h;obtain ⟨el,ht,hz⟩:=hst h0;exact W6 hI hA ht hz h1 (Ct hI h1) h2 (Ct hI h2) hp
 ·obtain ⟨⟨h0,h1⟩,h2⟩:=h;unfold Sq at h0;split at h0;case h_2=>cases h0
  rename_i m' el ht;simp only [Bool.and_eq_true,beq_iff_eq] at h0;obtain ⟨⟨rfl,hz⟩,ha⟩:=h0;exact X4 hI hA ht hz ha h1 (Ct hI h1) h2 (Ct hI h2) hp
 ·obtain ⟨h0,h1⟩:=h;unfold S8 at h0;split at h0;case h_2=>cases h0
  rename_i fs ht;split at h0;case h_2=>cases h0
  rename_i f hf;simp only [Bool.and_eq_true,beq_iff_eq] at h0;obtain ⟨⟨rfl,hz⟩,ha⟩:=h0;exact XM hI hA ht hf hz ha h1 (Ct hI h1) hp
 ·obtain ⟨⟨⟨⟨rfl,h0⟩,h1⟩,h2⟩,h3⟩:=h;obtain ⟨el,ht,hz⟩:=hat h0;exact Rj hI hA ht hz h1 (Ct hI h1) h2 (Ac8 hI h2) h3 (Ac8 hI h3) hp
 ·obtain ⟨⟨⟨⟨rfl,h0⟩,h1⟩,h2⟩,h3⟩:=h;obtain ⟨el,ht,hz⟩:=hst h0;exact Tt hI hA ht hz h1 (Ct hI h1) h2 (Ac8 hI h2) h3 (Ac8 hI h3) hp
 ·obtain ⟨h0,h1⟩:=h;obtain ⟨el,ht,hz⟩:=hat h0;exact VT hI hA ht h1 (Ct hI h1) hp
 ·obtain ⟨⟨rfl,h0⟩,h1⟩:=h;unfold M6 at h0;split at h0
  ·cases h0
  ·cases h0
  ·rename_i hd1 hd2;cases hd:M.P.underlying (M.τ _) with
   | none=>exact absurd hd hd2
   | some d=>exact Up hI hA hd (by cases d <;> first | rfl | exact absurd hd (hd1 _)) h1 (Ct hI h1) hp
 ·obtain ⟨rfl,h1⟩:=h;exact WD hI hA h1 (Ct hI h1) hp
 ·exact Ac6 hI hA h.1.1 h.1.2 h.2 hp
 ·exact Acp hI hA hn hk h.1.1 h.1.2 h.2 hp
 ·exact ZB hI hA h.1.1 h.1.2 h.2 hp
 ·exact Ajx hI hA h.1 h.2 hp
 ·obtain ⟨⟨h0,h1⟩,h2⟩:=h;unfold Ow at h0;split at h0;case h_2=>cases h0
  rename_i el ht;split at h0;case h_2=>cases h0
  rename_i i hi;simp only [Bool.and_eq_true,beq_iff_eq,decide_eq_true_eq] at h0;obtain ⟨⟨⟨⟨hsz,hby⟩,rfl⟩,hpos⟩,h0⟩:=h0;split at h0;case h_2=>cases h0
  rename_i x hz;exact Ub hI hA hn hk hi hz h0 hpos ht hsz hby h1 (Ct hI h1) h2 (Ct hI h2) hp
 ·split at h
  ·simp only [Lc6,beq_iff_eq,decide_eq_true_eq] at h;obtain ⟨⟨⟨⟨rfl,hlt⟩,h0⟩,h1⟩,h2⟩:=h;exact Yy hI hA hlt h0 h1 h2 hp
  ·next hlt =>
   simp only [Lc6,beq_iff_eq,decide_eq_true_eq] at h;obtain ⟨⟨⟨rfl,h0⟩,h1⟩,h2⟩:=h;exact XH hI hA hlt h0 h1 h2 hp
 ·rename_i t r;cases r <;> simp at h;exact QO hI hn hk t _ _
 ·obtain ⟨⟨⟨rfl,h0⟩,h1⟩,h2⟩:=h;unfold Ss at h0;simp only [Bool.and_eq_true] at h0;obtain ⟨hs,h0⟩:=h0;split at h0;case h_2=>cases h0
  rename_i kt vt ht;simp only [Bool.and_eq_true] at h0;obtain ⟨hc,h0⟩:=h0;split at h0;case h_2=>cases h0
  rename_i x hz;simp only [Bool.and_eq_true,beq_iff_eq] at h0;exact Qj hI hA ht hs hc hz h0.1 h0.2 h1 (Ct hI h1) h2 (Ct hI h2) hp
 ·obtain ⟨⟨⟨h0,h1⟩,h2⟩,h3⟩:=h;unfold S9 at h0;simp only [Bool.and_eq_true] at h0;obtain ⟨hs,h0⟩:=h0;split at h0;case h_2=>cases h0
  rename_i kt vt ht;exact Uy hI hA ht hs h0 h1 (Ct hI h1) h2 (Ct hI h2) h3 (Ct hI h3) hp
 ·obtain ⟨⟨h0,h1⟩,h2⟩:=h;exact Tr hI hA h0 h1 (Ct hI h1) h2 (Ct hI h2) hp
 ·obtain ⟨h0,h1⟩:=h;unfold Afq at h1;split at h1;case h_2=>cases h1
  rename_i kc _ x1 x2 x3 hxs;simp only [Bool.and_eq_true] at h1;exact Rl hI hA h0 (by apply Array.ext';simpa using hxs) h1.1.1 (Ct hI h1.1.1) h1.1.2 (Ct hI h1.1.2) h1.2 (Ct hI h1.2) hp
 ·obtain ⟨⟨⟨h0,h6⟩,h1⟩,h2⟩:=h;split at h2;case h_2=>cases h2
  rename_i x hfs;have hfs':=Array.ext' (ys:=#[x]) hfs;exact Rf hI hA h0 h6 hfs' Uz h2 (Ct hI h2) hp
 ·exact TJ hI hA rfl h.1.1 h.1.2 (Ct hI h.1.2) (List.all_eq_true.2 h.2) hp
 ·obtain ⟨h0,h1⟩:=h;split at h1;case h_2=>cases h1
  rename_i x hxs;exact NV hI hA hn hk h0 (by apply Array.ext';simpa using hxs) h1 (Ct hI h1) hp
 ·obtain ⟨⟨⟨h0,h1⟩,h2⟩,h3⟩:=h;unfold M6 at h2;rename_i ok;cases ok <;> simp at h0;split at h2
  ·cases h2
  ·cases h2
  ·rename_i hd1 hd2;cases hd:M.P.underlying _ with
   | none=>exact absurd hd hd2
   | some d=>exact Wb hI hA h1 hd (fun ms he=>hd1 ms (he ▸ hd)) h3 (Ct hI h3) hp
 ·exact Zy hI hA h.1 h.2 (Ct hI h.2) hp
 ·exact Aaq hI hA h.1 h.2 hp
 ·obtain ⟨h0,h1⟩:=h;split at h0;case h_2=>cases h0
  rename_i kt vt ht;exact Wi hI hA hn hk ht h1 (Ct hI h1) hp
 ·obtain ⟨h0,h1⟩:=h;simp only [Bool.not_eq_true'] at h0;subst h0;exact Y8 hI hA h1 (Ct hI h1) hp
 ·exact XU hI hA h (Ct hI h) hp
end Mv
