/- A part. -/
import Derived.Test.YtlfkjfonpacelaaGreatDoorGH
set_option linter.all false
namespace Mv
open Go
variable {M:Seat}
theorem Aac {c:Ctx} {e:Env} {H:Hp} {A:List V} {a:Act} (hI:Inv M c e H) (hA:FR e A a.tmps) {n:Nat} {max:Bool} {ts:Array TypeId} {ty:TypeId} {x1 x2:Operand} {y1 y2:X}
 (hx:Ay M x1 y1=true) (hx2:Ay M x2 y2=true) (hp:(Ac A H n (.mm max y1 y2)).pre) :
 B4 M c e n (Ac A H n (.mm max y1 y2)) (Sem.run M.P (do pure (Next.value (← (if max then Builtin.max_ ts ty #[a.eval x1,a.eval x2] else Builtin.min_ ts ty #[a.eval x1,a.eval x2])))) e.w):=by
 have v1:=Az hI.φ hA hx (CL hI hx)
 have v2:=Az hI.φ hA hx2 (CL hI hx2)
 simp only [Ac] at hp ⊢
 split at hp
 ·rename_i k i k' j hy1 hy2
  rw [hy1] at v1
  rw [hy2] at v2
  have hp':k=k':=hp
  subst hp'
  rw [BK v1,BK v2]
  refine Ai hI (x:=.int k (if max then (if i < j then j else i) else (if j < i then j else i))) (AI ?_) rfl (Bx _ _)
  cases max <;> simp [Builtin.min_,Builtin.max_,Builtin.min2,Builtin.max2]
 ·exact hp.elim
theorem VU {c:Ctx} {e:Env} {H:Hp} {A:List V} {a:Act} (hI:Inv M c e H) (hA:FR e A a.tmps) {n:Nat} {max:Bool} {ts:Array TypeId} {ty:TypeId} {x1 x2 x3 x4:Operand} {y1 y2 y3 y4:X}
 (hx:Ay M x1 y1=true) (hx2:Ay M x2 y2=true) (hx3:Ay M x3 y3=true) (hx4:Ay M x4 y4=true) (hp:(Ac A H n (.mm4 max y1 y2 y3 y4)).pre) :
 B4 M c e n (Ac A H n (.mm4 max y1 y2 y3 y4)) (Sem.run M.P (do pure (Next.value (← (if max then Builtin.max_ ts ty #[a.eval x1,a.eval x2,a.eval x3,a.eval x4] else Builtin.min_ ts ty #[a.eval x1,a.eval x2,a.eval x3,a.eval x4])))) e.w):=by
 have v1:=Az hI.φ hA hx (CL hI hx)
 have v2:=Az hI.φ hA hx2 (CL hI hx2)
 have v3:=Az hI.φ hA hx3 (CL hI hx3)
 have v4:=Az hI.φ hA hx4 (CL hI hx4)
 simp only [Ac] at hp ⊢
 split at hp
 ·rename_i k i k1 j k2 l k3 m hy1 hy2 hy3 hy4
  rw [hy1] at v1
  rw [hy2] at v2
  rw [hy3] at v3
  rw [hy4] at v4
  obtain ⟨rfl,rfl,rfl⟩:k=k1∧k=k2∧k=k3:=hp
  rw [BK v1,BK v2,BK v3,BK v4]
  refine Ai hI (x:=.int k (QB max (QB max (QB max i j) l) m)) (AI ?_) rfl (Bx _ _)
  cases max <;> simp [Builtin.min_,Builtin.max_,Builtin.min2,Builtin.max2,QB]
 ·exact hp.elim
theorem RE {e:Env} {A:List V} {a:Act} (hφ:e.φ=M.φ) (hA:FR e A a.tmps):∀ (xs:List Operand) (ys:List X) (front:List Value),(xs.length=ys.length∧∀ q ∈ xs.zip ys,Ay M q.1 q.2=true∧Dj M e q.2)→CS A ys →
 R e (DY A ys front.length) (front ++ xs.map a.eval)∧(∀ x ∈ xs.map a.eval,x.oneCell'=true)
 | [],[],front,_,_=>⟨trivial,by simp⟩
 | x :: xs, y :: ys, front, hc, hok => by
   simp only [CS] at hok
   obtain ⟨⟨h1,h2⟩,hok'⟩:=hok
   obtain ⟨hx,hg⟩:=hc.2 (x,y) BD
   have hv:=Az hφ hA hx hg
   rw [AR h1] at hv
   unfold RS at hv
   rw [h2] at hv
   simp only at hv
   have h1c:=JO h1 hv
   have hsz:(y.ev A).size=1:=by
    have:=LB h1 hv
    simpa using this.symm
   obtain ⟨r1,r2⟩:=RE hφ hA xs ys (front ++ [a.eval x]) ⟨by simpa using hc.1,fun q hq=>hc.2 q (by simp [hq])⟩ hok'
   simp only [Lc4,Nat.zero_add,List.append_assoc,List.singleton_append] at r1
   refine ⟨?_,fun v hv'=>?_⟩
   ·simp only [DY,R,List.map_cons]
    have hch:(DY A ys (front.length + 1)).chain=true:=by cases ys <;> rfl
    refine ⟨hch,?_,?_,?_,r1⟩
    ·rw [hsz]
     cases ys with
     | nil=>simp [DY,V.flo]
     | cons y' ys'=>simp [DY,V.flo]
    ·rw [hsz];simp
    ·rw [hsz];simpa using hv
   ·simp only [List.map_cons,List.mem_cons] at hv'
    rcases hv' with rfl | hv'
    ·exact h1c _ BD
    ·exact r2 v hv'
 | [],_ :: _,_,hc,_=>by simp at hc
 | _ :: _,[],_,hc,_=>by simp at hc
theorem U5 {c:Ctx} {e:Env} {H:Hp} {A:List V} {a:Act} (hI:Inv M c e H) (hA:FR e A a.tmps) {n:Nat} {f:Nat} {xs:Array Operand} {ys:List X}
 (hlt:f < 1000000) (hc:xs.size=ys.length∧∀ q ∈ xs.toList.zip ys,Ay M q.1 q.2=true) (hp:(Ac A H n (.mkfn f ys)).pre) :
 B4 M c e n (Ac A H n (.mkfn f ys)) (Sem.run M.P (do pure (Next.value (← Instr.makeFunc (.func (M.φ f)) ((#[]:Array Operand).map a.eval) (xs.map a.eval)))) e.w):=by
 simp only [Ac] at hp ⊢
 obtain ⟨r1,r2⟩:=RE hI.φ hA xs.toList ys [] ⟨by simpa using hc.1,fun q hq=>⟨hc.2 q hq,CL hI (hc.2 q hq)⟩⟩ hp
 refine Ai hI (x:=.func (.func (M.φ f)) #[] (xs.map a.eval)) (AI (by simp [Instr.makeFunc])) rfl ?_
 simp only [RV,RS,V.isAgg,R]
 refine ⟨xs.toList.map a.eval,by rw [hI.φ,PT,if_pos hlt];congr 2;apply Array.ext';simp,by simp [hc.1],⟨by cases ys <;> rfl,r2⟩,by simpa using r1⟩
theorem UO {c:Ctx} {e:Env} {H:Hp} {A:List V} {a:Act} (hI:Inv M c e H) (hA:FR e A a.tmps) {n:Nat} {f:Nat} {xs:Array Operand} {ys:List X}
 (hlt:¬ f < 2000000) (hc:xs.size=ys.length∧∀ q ∈ xs.toList.zip ys,Ay M q.1 q.2=true) (hp:(Ac A H n (.mkfn f ys)).pre) :
 B4 M c e n (Ac A H n (.mkfn f ys)) (Sem.run M.P (do pure (Next.value (← Instr.makeFunc (.func (M.φ (f - 2000000))) (xs.map a.eval) ((#[]:Array Operand).map a.eval)))) e.w):=by
 simp only [Ac] at hp ⊢
 obtain ⟨r1,r2⟩:=RE hI.φ hA xs.toList ys [] ⟨by simpa using hc.1,fun q hq=>⟨hc.2 q hq,CL hI (hc.2 q hq)⟩⟩ hp
 refine Ai hI (x:=.func (.func (M.φ (f - 2000000))) (xs.map a.eval) #[]) (AI (by simp [Instr.makeFunc])) rfl ?_
 simp only [RV,RS,V.isAgg,R]
 refine ⟨xs.toList.map a.eval,by rw [hI.φ,PT,if_neg Aa,if_neg hlt];congr 2;apply Array.ext';simp,by simp [hc.1],⟨by cases ys <;> rfl,r2⟩,by simpa using r1⟩
def QU (M:Seat) (t k:Nat):Bool :=
 match M.P.info? (M.τ t) with
 | some i => (match i.methods.find? (·.name == Kq k) with
   | some m=>m.path.isEmpty && (match m.func with | some (_,true)=>true | _=>false)
   | none=>false)
 | none=>false
theorem MA {P:Program} {t:TypeId} {nm:String} {i:TypeInfo} {m:Method} {f:FuncId} (hi:P.info? t=some i) (hm:i.methods.find? (·.name == nm)=some m) (hp:m.path = #[]) (hf:m.func=some (f,true)) (v:Value) (w:World) (d:Nat) :
 (nilAhead (d + 1) t v nm).run P w = .ok (some false) w:=by
 simp only [nilAhead,typeInfo,Fq,hi,hm,hp,hf,followBlind]
 simp [hi,hm,hp,hf,followBlind]
theorem R3 {c:Ctx} {e:Env} {H:Hp} {A:List V} {a:Act} (hI:Inv M c e H) (hA:FR e A a.tmps) {n:Nat} {k:Nat} {nm:String} {first xs:Array Operand} {x:Operand} {y:X}
 (hk:Kq k=nm) (hk6:k < 1000000) (hf:first = #[x]) (hxs:xs = #[]) (hx:Ay M x y=true) (hg:Dj M e y) (hp:(Ac A H n (.mkmth k y)).pre) :
 B4 M c e n (Ac A H n (.mkmth k y)) (Sem.run M.P (do pure (Next.value (← Instr.makeFunc (.method nm) (first.map a.eval) (xs.map a.eval)))) e.w):=by
 subst hf hxs hk
 have hv:=Az hI.φ hA hx hg
 simp only [Ac] at hp ⊢
 split at hp
 case h_2=>exact hp.elim
 rename_i t v hy
 rw [hy] at hv
 refine Ai hI (x:=.func (.method (Kq k)) #[a.eval x] #[]) (AI (by simp [Instr.makeFunc])) rfl ?_
 simp only [RV,RS,V.isAgg] at hv ⊢
 have hl:=LB (v:=.ifc t v) rfl hv
 have ho:=JO (v:=.ifc t v) rfl hv
 refine R.eq_def .. ▸ ⟨[a.eval x],?_,?_⟩
 ·rw [PT,if_neg Aa,if_pos Aa,show 1000000 + k - 1000000=k by omega]
 ·refine R.eq_def .. ▸ ⟨rfl,⟨rfl,fun z hz=>ho z hz⟩,?_⟩
  refine R.eq_def .. ▸ ⟨rfl,by simp [V.size,V.flo],by simp [V.size],by simpa [V.size] using hv,trivial⟩
theorem Uq {c:Ctx} {e:Env} {H:Hp} {A:List V} {a:Act} (hI:Inv M c e H) (hA:FR e A a.tmps) {n:Nat} {o:Oper} {k:Nat} {ts:List Nat} {x:Operand} {y:X} (ho:o.op = .nilCheck x) (hk6:k < 1000000)
 (hx:Ay M x y=true) (hg:Dj M e y) (hts:ts.all (fun t=>QU M t k)=true) (hp:(Ac A H n (.nilm k ts y)).pre) :
 B4 M c e n (Ac A H n (.nilm k ts y)) (Sem.run M.P (execOp a.eval o) e.w):=by
 have hv:=Az hI.φ hA hx hg
 simp only [execOp,ho]
 simp only [Ac] at hp ⊢
 split at hp
 case h_2=>exact hp.elim
 rename_i f m j t v r hy
 rw [hy] at hv
 obtain ⟨rfl,hmem,rfl,rfl⟩:=hp
 refine Ai hI (x:=a.eval x) ?_ rfl hv
 simp only [RV,RS,V.isAgg,R,Fw] at hv
 obtain ⟨xs,hx',hlen,_,_,_,_,⟨z,hz,_⟩,_⟩:=hv
 have hc:=List.all_eq_true.1 hts t hmem
 unfold QU at hc
 split at hc
 case h_2=>cases hc
 rename_i i hi
 split at hc
 case h_2=>cases hc
 rename_i mr hmr
 simp only [Bool.and_eq_true,Array.isEmpty_iff] at hc
 obtain ⟨hpath,hc⟩:=hc
 split at hc
 case h_2=>cases hc
 rename_i g hfn
 have hxs:xs=[.iface (M.τ t) z]:=by
  match xs,hlen with
  | [q], _ =>
    have:[q]=[Value.iface (e.τ t) z]:=by simpa [V.size] using hz
    rw [this,hI.τ]
 rw [hx',PT,if_neg Aa,if_pos Aa,hxs,show 1000000 + k - 1000000=k by omega]
 have hn:=MA hi hmr hpath hfn z e.w (M.P.types.size + Made.depth - 1)
 have hd:M.P.types.size + Made.depth - 1 + 1=M.P.types.size + Made.depth:=by
  have:0 < Made.depth:=Am
  omega
 rw [hd] at hn
 simp [Sem.run_bind,hn]
def X6 (M:Seat) (t:TypeId) (z:Z):Bool:=match (M.P.info? t).bind (·.zero) with | some x=>z.chk x | none=>false
def KH (M:Seat) (t:TypeId) (m sz:Nat):Bool:=match M.P.underlying t with | some (.array m' el)=>m == m' && Fx M el == some sz | _=>false
def Mq (M:Seat) (t:TypeId) (sz:Nat):Bool:=match M.P.underlying t with | some (.slice el)=>Fx M el == some sz | _=>false
def Pd (M:Seat) (s d:TypeId) (k:IntKind):Bool:=match M.P.underlying d,M.P.underlying s with | some (.int k'),some _=>decide (k=k') | _,_=>false
def Mo (M:Seat) (t:TypeId) (parts:Array (Nat × Operand)) (ps:List (Stp × Nat × X)):Bool :=
 match M.P.underlying t with
 | some (.struct fs)=>(match sfs M fs.toList with | some pl=>Cb M (fun i=>pl[i]?) parts.toList ps | none=>false)
 | some (.array _ el)=>(match Fx M el with | some sz=>Cb M (fun i=>some (i * sz,sz)) parts.toList ps | none=>false)
 | _=>false
def S1 (M:Seat) (t:TypeId) (z:Z) (parts:Array (Nat × Operand)) (ps:List (Stp × Nat × X)):Bool :=
 match M.P.underlying t with
 | some (.slice el)=>X6 M el z && Fx M el == some z.sz && Cb M (fun i=>some (i * z.sz,z.sz)) parts.toList ps
 | _=>false
def PC (M:Seat) (s:TypeId) (i off:Nat):Bool :=
 match M.P.underlying s with
 | some (.struct fs)=>(match fs[i]? with | some f=>f.offset == off && (match Fx M f.type with | some sz=>sz != 0 | none=>false) | none=>false)
 | _=>false
def S0 (M:Seat) (s:TypeId) (i off sz:Nat) (agg:Bool):Bool :=
 match M.P.underlying s with
 | some (.struct fs)=>(match fs[i]? with | some f=>f.offset == off && Fx M f.type == some sz && HF M f.type == some agg | none=>false)
 | _=>false
def RZ (M:Seat) (t:TypeId) (m sz:Nat) (agg:Bool):Bool:=match M.P.underlying t with | some (.array m' el)=>m == m' && Fx M el == some sz && HF M el == some agg | _=>false
def MH (M:Seat) (t:TypeId):Bool:=match M.P.underlying t with | some (.interface _) | none=>false | _=>true
def Nj (M:Seat) (ts:Array TypeId) (k:Nat):Bool:=match ts[0]? with | some t=>(match M.P.underlying t with | some d=>Tb k d | none=>false) | none=>false
def MT (M:Seat) (sT xT:TypeId) (sz bytes:Nat):Bool :=
 match M.P.underlying sT,M.P.underlying xT with
 | some (.slice el),some (.slice _)=>(match M.P.info? el with | some i=>i.size == sz && i.bytes == bytes && decide (0 < bytes) && (match i.zero with | some z=>z.cells.size == sz | none=>false) | none=>false)
 | _,_=>false
def J0 (M:Seat) (ts:Array TypeId) (sz:Nat):Bool:=match ts[0]? with | some sT=>Mq M sT sz | none=>false
def PG (M:Seat) (t:TypeId) (sz bytes:Nat) (z:Z):Bool :=
 match M.P.underlying t with
 | some (.slice el)=>(match M.P.info? el with | some i=>i.size == z.sz && i.bytes == bytes && sz == z.sz && decide (0 < z.sz) && (match i.zero with | some x=>z.chk x | none=>false) | none=>false)
 | _=>false
def UY (b:Builtin):Callee→Bool
 | .builtin b'=>decide (b=b')
 | _=>false
def IL (M:Seat) (xs:Array Operand) (y1 y2:X):Bool :=
 match xs.toList with
 | [x1,x2]=>Ay M x1 y1 && Ay M x2 y2
 | _=>false
def XV (M:Seat) (xs:Array Operand) (y1 y2 y3 y4:X):Bool :=
 match xs.toList with
 | [x1,x2,x3,x4]=>Ay M x1 y1 && Ay M x2 y2 && Ay M x3 y3 && Ay M x4 y4
 | _=>false
def Acm (M:Seat) (xs:Array Operand) (y1 y2 y3:X):Bool :=
 match xs.toList with
 | [x1,x2,x3]=>Ay M x1 y1 && Ay M x2 y2 && Ay M x3 y3
 | _=>false
def Sb (M:Seat) (t:TypeId) (s:ES):Bool:=F3 s && (match M.P.underlying t with | some (.map kt _)=>Ci M s kt [] | _=>false)
def Se (M:Seat) (t:TypeId) (s:ES) (z:Z):Bool:=F3 s && (match M.P.underlying t with
 | some (.map kt vt)=>Ci M s kt [] && (match (M.P.info? vt).bind (·.zero) with | some x=>z.chk x && ZK x == (z.v 0).isAgg | none=>false)
 | _=>false)
def Xv (M:Seat) (op:Op) (lo:LO):Bool :=
 match lo with
 | .mv y=>(match op with | .move x=>Ay M x y | .assign x=>Ay M x y | _=>false)
 | .pick y1 y2 y3=>(match op with | .pick x1 x2 x3=>Ay M x1 y1 && Ay M x2 y2 && Ay M x3 y3 | _=>false)
 | .ari op' y1 y2=>(match op with | .binOp op _ x1 x2 _=>decide (op=op') && Ay M x1 y1 && Ay M x2 y2 | _=>false)
 | .eq neg c s y1 y2=>(match op with | .binOp op t x1 x2 _=>decide (op=if neg then .neq else .eql) && Vq M c s t x1 x2 && (Hm s || Nr s) && Ay M x1 y1 && Ay M x2 y2 | _=>false)
 | .un op' y1=>(match op with | .unOp op _ x1=>decide (op=op') && Ay M x1 y1 | _=>false)
 | .conv k y1=>(match op with | .convert s d x1=>Pd M s d k && Ay M x1 y1 | _=>false)
 | .alloc z=>(match op with | .alloc t=>X6 M t z | _=>false)
 | .box y1=>(match op with | .box _ x1=>Ay M x1 y1 | _=>false)
 | .build z ps=>(match op with | .build t parts=>X6 M t z && (z.v 0).isAgg && ps.all (fun q=>GZ [q.1]) && Mo M t parts ps | _=>false)
 | .bsl sz m' z ps=>(match op with | .buildSlice t m parts=>m == m' && ps.all (fun q=>GZ [q.1]) && sz == z.sz && decide (0 < z.sz) && decide (m * z.sz≤2 ^ 24) && S1 M t z parts ps | _=>false)
 | .load agg sz y1=>(match op with | .load t x1=>Fx M t == some sz && HF M t == some agg && Ay M x1 y1 | _=>false)
 | .store sz y1 y2=>(match op with | .store t x1 x2=>Fx M t == some sz && Ay M x1 y1 && Ay M x2 y2 | _=>false)
 | .nilc y1=>(match op with | .nilCheck x1=>Ay M x1 y1 | _=>false)
 | .fadr off y1=>(match op with | .fieldAddr s x1 i=>PC M s i off && Ay M x1 y1 | _=>false)
 | .iarr m sz y1 y2=>(match op with | .indexAddr t x1 x2=>KH M t m sz && Ay M x1 y1 && Ay M x2 y2 | _=>false)
 | .isl sz y1 y2=>(match op with | .indexAddr t x1 x2=>Mq M t sz && Ay M x1 y1 && Ay M x2 y2 | _=>false)
 | .idx m sz agg y1 y2=>(match op with | .index t x1 x2=>RZ M t m sz agg && Ay M x1 y1 && Ay M x2 y2 | _=>false)
 | .fld off sz agg y1=>(match op with | .field t x1 i=>S0 M t i off sz agg && Ay M x1 y1 | _=>false)
 | .slarr m sz y1 lo' hi'=>(match op with | .slice t x1 lo hi mx=>mx.isNone && KH M t m sz && Ay M x1 y1 && KS M lo lo' && KS M hi hi' | _=>false)
 | .slsl sz y1 lo' hi'=>(match op with | .slice t x1 lo hi mx=>mx.isNone && Mq M t sz && Ay M x1 y1 && KS M lo lo' && KS M hi hi' | _=>false)
 | .s2a m sz y1=>(match op with | .sliceToArrayPointer t x1=>KH M t m sz && Ay M x1 y1 | _=>false)
 | .mkif t' y1=>(match op with | .makeInterface t x1=>M.τ t' == t && MH M t && Ay M x1 y1 | _=>false)
 | .ext y1 i'=>(match op with | .extract x1 i=>i == i' && Ay M x1 y1 | _=>false)
 | .len k y1=>(match op with | .call c=>UY .len c.callee && Nj M c.argTypes k && (match c.args.toList with | [x1]=>Ay M x1 y1 | _=>false) | _=>false)
 | .app sz bytes y1 y2=>(match op with | .call c=>UY .append c.callee && (match c.argTypes.toList with | [sT,xT]=>MT M sT xT sz bytes | _=>false) && IL M c.args y1 y2 | _=>false)
 | .copy sz y1 y2=>(match op with | .call c=>UY .copy c.callee && J0 M c.argTypes sz && IL M c.args y1 y2 | _=>false)
 | .mm max y1 y2=>(match op with | .call c=>UY (if max then .max else .min) c.callee && IL M c.args y1 y2 | _=>false)
 | .mksl sz bytes z y1 y2=>(match op with | .makeSlice t x1 x2=>PG M t sz bytes z && Ay M x1 y1 && Ay M x2 y2 | _=>false)
 | .mkfn f' ys=>(match op with | .makeFunc (.func f) first xs=>if f' < 2000000 then M.φ f' == f && decide (f' < 1000000) && first.isEmpty && xs.size == ys.length && (xs.toList.zip ys).all (fun q=>Ay M q.1 q.2) else M.φ (f' - 2000000) == f && xs.isEmpty && first.size == ys.length && (first.toList.zip ys).all (fun q=>Ay M q.1 q.2) | _=>false)
 | .mkmap _ _=>(match op with | .makeMap _ r=>r.isNone | _=>false)
 | .mlook s z ok y1 y2=>(match op with | .lookup t x1 x2 ok'=>ok' == ok && Se M t s z && Ay M x1 y1 && Ay M x2 y2 | _=>false)
 | .mupd s y1 y2 y3=>(match op with | .mapUpdate t x1 x2 x3=>Sb M t s && Ay M x1 y1 && Ay M x2 y2 && Ay M x3 y3 | _=>false)
 | .sidx y1 y2=>(match op with | .index t x1 x2=>QX M t && Ay M x1 y1 && Ay M x2 y2 | _=>false)
 | .add64 y1 y2 y3=>(match op with | .call c=>K0 M c.callee && Acm M c.args y1 y2 y3 | _=>false)
 | .mkmth k y=>(match op with | .makeFunc (.method nm) first xs=>Kq k == nm && decide (k < 1000000) && xs.isEmpty && (match first.toList with | [x]=>Ay M x y | _=>false) | _=>false)
 | .nilm k ts y=>(match op with | .nilCheck x=>decide (k < 1000000) && Ay M x y && ts.all (fun t=>QU M t k) | _=>false)
 | .rng y1=>(match op with | .range t x1=>(match M.P.underlying t with | some (.map _ _)=>true | _=>false) && Ay M x1 y1 | _=>false)
 | .nxt y1=>(match op with | .next x1 s=>!s && Ay M x1 y1 | _=>false)
 | .mclone y=>(match op with | .call c=>HU M c.callee && (match c.args.toList with | [x]=>Ay M x y | _=>false) | _=>false)
 | .tas t y=>(match op with | .typeAssert x _ a ok=>!ok && M.τ t == a && MH M a && Ay M x y | _=>false)
 | .b2s y=>(match op with | .convert s d x1=>QF M s d && Ay M x1 y | _=>false)
 | .mm4 max y1 y2 y3 y4=>(match op with | .call c=>UY (if max then .max else .min) c.callee && XV M c.args y1 y2 y3 y4 | _=>false)
 | .nope=>true
variable {M:Seat}
theorem D5 {ρ:Operand→Value} {b:Builtin} {k:Call} {ty:TypeId} {w:World} (hb:k.callee = .builtin b) :
 Sem.run M.P (do let d ← resolve ρ k ty;invoke d.target d.args) w=(builtin b k.argTypes ty (k.args.map fun | .const _=>true | _=>false) (k.args.map ρ)).run M.P w:=by
 unfold resolve
 simp only [hb]
 rfl
theorem Kv {b:Builtin} {k:Callee} (h:UY b k=true):k = .builtin b:=by
 cases k <;> simp_all [UY]
theorem Vp {xs:Array Operand} {y1 y2:X} (h:IL M xs y1 y2=true):∃ x1 x2,xs = #[x1,x2]∧Ay M x1 y1=true∧Ay M x2 y2=true:=by
 unfold IL at h
 split at h
 ·rename_i x1 x2 hx
  simp only [Bool.and_eq_true] at h
  exact ⟨x1,x2,by apply Array.ext';simpa using hx,h.1,h.2⟩
 ·cases h
theorem Aak {c:Ctx} {e:Env} {H:Hp} (hI:Inv M c e H) {x:Option Operand} {y:Option X} (h:KS M x y=true):TQ M e y:=by
 cases x <;> cases y <;> first | trivial | (cases h;done) | exact CL hI h
section
variable {M:Seat} {c:Ctx} {e:Env} {H:Hp} {A:List V} {a:Act} (hI:Inv M c e H) (hA:FR e A a.tmps) {n:Nat}
include hI hA
theorem Ab4 {k:Call} {ty:TypeId} {kk:Nat} {y1:X} (hb:UY .len k.callee=true) (h0:Nj M k.argTypes kk=true) (h1:(match k.args.toList with | [x1]=>Ay M x1 y1 | _=>false)=true) (hp:(Ac A H n (.len kk y1)).pre) :
 B4 M c e n (Ac A H n (.len kk y1)) (Sem.run M.P (do let d ← resolve a.eval k ty;invoke d.target d.args) e.w):=by
 unfold Nj at h0
 split at h0
 case h_2=>cases h0
 rename_i t hts
 split at h0
 case h_2=>cases h0
 rename_i d ht
 split at h1
 case h_2=>cases h1
 rename_i x1 hx
 have hx':k.args = #[x1]:=by apply Array.ext';simpa using hx
 rw [D5 (Kv hb),hx',show (#[x1]:Array Operand).map a.eval = #[a.eval x1] from by simp]
 exact VE hI hA ht hts h0 h1 (CL hI h1) hp
theorem Zl (hn:¬ e.D n) (hk:c.k≤n) {k:Call} {ty:TypeId} {sz bytes:Nat} {y1 y2:X} (hb:UY .append k.callee=true) (h0:(match k.argTypes.toList with | [sT,xT]=>MT M sT xT sz bytes | _=>false)=true) (h1:IL M k.args y1 y2=true) (hp:(Ac A H n (.app sz bytes y1 y2)).pre) :
 B4 M c e n (Ac A H n (.app sz bytes y1 y2)) (Sem.run M.P (do let d ← resolve a.eval k ty;invoke d.target d.args) e.w):=by
 obtain ⟨x1,x2,hx,h2,h3⟩:=Vp h1
 split at h0
 case h_2=>cases h0
 rename_i sT xT hts
 have hts':k.argTypes = #[sT,xT]:=by apply Array.ext';simpa using hts
 unfold MT at h0
 split at h0
 case h_2=>cases h0
 rename_i el e2 hs hxT
 split at h0
 case h_2=>cases h0
 rename_i i hi
 simp only [Bool.and_eq_true,beq_iff_eq,decide_eq_true_eq] at h0
 obtain ⟨⟨⟨hsz,hby⟩,hbp⟩,h0⟩:=h0
 split at h0
 case h_2=>cases h0
 rename_i z hz
 rw [D5 (Kv hb),hx,hts',show (#[x1,x2]:Array Operand).map a.eval = #[a.eval x1,a.eval x2] from by simp]
 exact Ww hI hA hn hk hs hxT hi hsz hby hz (by simpa using h0) hbp h2 (CL hI h2) h3 (CL hI h3) hp
theorem Wx {k:Call} {ty:TypeId} {sz:Nat} {y1 y2:X} (hb:UY .copy k.callee=true) (h0:J0 M k.argTypes sz=true) (h1:IL M k.args y1 y2=true) (hp:(Ac A H n (.copy sz y1 y2)).pre) :
 B4 M c e n (Ac A H n (.copy sz y1 y2)) (Sem.run M.P (do let d ← resolve a.eval k ty;invoke d.target d.args) e.w):=by
 obtain ⟨x1,x2,hx,h2,h3⟩:=Vp h1
 unfold J0 Mq at h0
 split at h0
 case h_2=>cases h0
 rename_i sT hts
 split at h0
 case h_2=>cases h0
 rename_i el hs
 rw [D5 (Kv hb),hx,show (#[x1,x2]:Array Operand).map a.eval = #[a.eval x1,a.eval x2] from by simp]
 exact U8 (ty:=ty) hI hA hts hs (by simpa using h0) h2 (CL hI h2) h3 (CL hI h3) hp
theorem Ahi {k:Call} {ty:TypeId} {max:Bool} {y1 y2:X} (hb:UY (if max then .max else .min) k.callee=true) (h1:IL M k.args y1 y2=true) (hp:(Ac A H n (.mm max y1 y2)).pre) :
 B4 M c e n (Ac A H n (.mm max y1 y2)) (Sem.run M.P (do let d ← resolve a.eval k ty;invoke d.target d.args) e.w):=by
 obtain ⟨x1,x2,hx,h2,h3⟩:=Vp h1
 have:=Aac (max:=max) (ts:=k.argTypes) (ty:=ty) hI hA h2 h3 hp
 rw [D5 (Kv hb),hx,show (#[x1,x2]:Array Operand).map a.eval = #[a.eval x1,a.eval x2] from by simp]
 cases max <;> exact this
theorem Zj {k:Call} {ty:TypeId} {max:Bool} {y1 y2 y3 y4:X} (hb:UY (if max then .max else .min) k.callee=true) (h1:XV M k.args y1 y2 y3 y4=true) (hp:(Ac A H n (.mm4 max y1 y2 y3 y4)).pre) :
 B4 M c e n (Ac A H n (.mm4 max y1 y2 y3 y4)) (Sem.run M.P (do let d ← resolve a.eval k ty;invoke d.target d.args) e.w):=by
 unfold XV at h1
 split at h1
 case h_2=>cases h1
 rename_i x1 x2 x3 x4 hxs
 simp only [Bool.and_eq_true] at h1
 have hx:k.args = #[x1,x2,x3,x4]:=by apply Array.ext';simpa using hxs
 have:=VU (max:=max) (ts:=k.argTypes) (ty:=ty) hI hA h1.1.1.1 h1.1.1.2 h1.1.2 h1.2 hp
 rw [D5 (Kv hb),hx,show (#[x1,x2,x3,x4]:Array Operand).map a.eval = #[a.eval x1,a.eval x2,a.eval x3,a.eval x4] from by simp]
 cases max <;> exact this
theorem X3 {f:Nat} {first xs:Array Operand} {ys:List X} (hlt:¬ f < 2000000) (h0:xs.isEmpty=true) (h1:first.size=ys.length) (h2:∀ q ∈ first.toList.zip ys,Ay M q.1 q.2=true) (hp:(Ac A H n (.mkfn f ys)).pre) :
 B4 M c e n (Ac A H n (.mkfn f ys)) (Sem.run M.P (do pure (Next.value (← Instr.makeFunc (.func (M.φ (f - 2000000))) (first.map a.eval) (xs.map a.eval)))) e.w):=by
 have h0':xs = #[]:=by simpa using h0
 subst h0'
 exact UO hI hA hlt ⟨h1,h2⟩ hp
theorem Vk {f:Nat} {first xs:Array Operand} {ys:List X} (hlt:f < 1000000) (h0:first.isEmpty=true) (h1:xs.size=ys.length) (h2:∀ q ∈ xs.toList.zip ys,Ay M q.1 q.2=true) (hp:(Ac A H n (.mkfn f ys)).pre) :
 B4 M c e n (Ac A H n (.mkfn f ys)) (Sem.run M.P (do pure (Next.value (← Instr.makeFunc (.func (M.φ f)) (first.map a.eval) (xs.map a.eval)))) e.w):=by
 have h0':first = #[]:=by simpa using h0
 subst h0'
 exact U5 hI hA hlt ⟨h1,h2⟩ hp
end
theorem Ri {c:Ctx} {e:Env} {H:Hp} {A:List V} {a:Act} (hI:Inv M c e H) (hA:FR e A a.tmps) {n:Nat} (hn:¬ e.D n) (hk:c.k≤n) {o:Oper} {lo:LO} (h:Xv M o.op lo=true) (hp:(Ac A H n lo).pre) :
 B4 M c e n (Ac A H n lo) (Sem.run M.P (execOp a.eval o) e.w):=by
 obtain ⟨dst,op,type,pos,after,guard⟩:=o
 simp only at h
 have hgk:∀ (place:Nat→Option (Nat × Nat)) (l:List (Nat × Operand)) (ps:List (Stp × Nat × X)),Cb M place l ps=true→LH M e ps:=by
  intro place l
  induction l with
  | nil => intro ps hps; cases ps with
    | nil=>trivial
    | cons q r=>simp [Cb] at hps
  | cons p l ih => intro ps hps; cases ps with
    | nil=>trivial
    | cons q r =>
      obtain ⟨i,ox⟩:=p;obtain ⟨s,sz,xx⟩:=q
      simp only [Cb,Bool.and_eq_true] at hps
      exact ⟨CL hI hps.1.2,ih r hps.2⟩
 have hzt:∀ {t:TypeId} {z:Z},X6 M t z=true→∃ x,(M.P.info? t).bind (·.zero)=some x∧z.chk x=true:=by
  intro t z hz
  unfold X6 at hz
  split at hz
  ·rename_i x hx;exact ⟨x,hx,hz⟩
  ·cases hz
 have hat:∀ {t:TypeId} {m sz:Nat},KH M t m sz=true→∃ el,M.P.underlying t=some (.array m el)∧Fx M el=some sz:=by
  intro t m sz hz
  unfold KH at hz
  split at hz
  ·rename_i m' el hx;simp only [Bool.and_eq_true,beq_iff_eq] at hz;obtain ⟨rfl,hz⟩:=hz;exact ⟨el,hx,hz⟩
  ·cases hz
 have hst:∀ {t:TypeId} {sz:Nat},Mq M t sz=true→∃ el,M.P.underlying t=some (.slice el)∧Fx M el=some sz:=by
  intro t sz hz
  unfold Mq at hz
  split at hz
  ·rename_i el hx;exact ⟨el,hx,by simpa using hz⟩
  ·cases hz
 by_cases hany:lo = .nope
 ·subst hany;exact (show False from hp).elim
 cases lo <;> (try (exact absurd rfl hany)) <;> simp only [Xv] at h <;> (try (cases h;done)) <;> split at h <;> (try (cases h;done)) <;> (try simp only [Lc6,beq_iff_eq,decide_eq_true_eq,Option.isNone_iff_eq_none] at h)
 ·exact SD hI hA h (CL hI h)
 ·exact SD hI hA h (CL hI h)
 ·obtain ⟨⟨h1,h2⟩,h3⟩:=h
  exact TR hI hA h1 (CL hI h1) h2 (CL hI h2) h3 (CL hI h3) hp
 ·obtain ⟨⟨rfl,h1⟩,h2⟩:=h
  exact Y1 hI hA h1 (CL hI h1) h2 (CL hI h2) hp
 ·obtain ⟨⟨⟨⟨rfl,h0⟩,ht⟩,h1⟩,h2⟩:=h
  exact ZC hI hA h0 (Afd ht) h1 (CL hI h1) h2 (CL hI h2) hp
 ·obtain ⟨rfl,h1⟩:=h
  exact Ab6 hI hA h1 (CL hI h1) hp
 ·obtain ⟨h0,h1⟩:=h
  unfold Pd at h0
  split at h0
  ·rename_i k' ds hd hs
   simp only [decide_eq_true_eq] at h0
   subst h0
   exact T7 hI hA hd hs h1 (CL hI h1) hp
  ·cases h0
 ·obtain ⟨x,hz,hc⟩:=hzt h
  exact QZ hI hn hk hz hc
 ·exact VM hI hA hn hk h (CL hI h) hp
 ·obtain ⟨⟨⟨h0,h1⟩,h2⟩,h3⟩:=h
  obtain ⟨x,hz,hc⟩:=hzt h0
  unfold Mo at h3
  split at h3
  ·rename_i fs ht
   split at h3
   ·rename_i pl hpl
    exact KQ hI hA hz hc h1 ht hpl h3 (hgk _ _ _ h3) h2 hp
   ·cases h3
  ·rename_i m el ht
   split at h3
   ·rename_i sz hsz
    exact KV hI hA hz hc h1 ht hsz h3 (hgk _ _ _ h3) h2 hp
   ·cases h3
  ·cases h3
 ·obtain ⟨⟨⟨⟨⟨rfl,h2⟩,rfl⟩,h4⟩,h5⟩,h6⟩:=h
  unfold S1 at h6
  split at h6
  ·rename_i el ht
   simp only [Bool.and_eq_true,beq_iff_eq] at h6
   obtain ⟨⟨h0,hsz⟩,h3⟩:=h6
   obtain ⟨x,hz,hc⟩:=hzt h0
   exact XO hI hA hn hk hz hc h4 ht hsz h5 h3 (hgk _ _ _ h3) h2 hp
  ·cases h6
 ·obtain ⟨⟨h1,h2⟩,h3⟩:=h
  exact Ub hI hA n h1 h2 h3 (CL hI h3) hp
 ·obtain ⟨⟨h1,h2⟩,h3⟩:=h
  exact QY hI hA n h1 h2 (CL hI h2) h3 (CL hI h3) hp
 ·exact TN hI hA rfl h (CL hI h) hp
 ·obtain ⟨h0,h1⟩:=h
  unfold PC at h0
  split at h0
  case h_2=>cases h0
  rename_i fs hs
  split at h0
  case h_2=>cases h0
  rename_i f hf
  simp only [Bool.and_eq_true,beq_iff_eq] at h0
  obtain ⟨rfl,h0⟩:=h0
  split at h0
  case h_2=>cases h0
  rename_i sz hz
  exact U0 hI hA hs hf hz (by simpa using h0) h1 (CL hI h1) hp
 ·obtain ⟨⟨h0,h1⟩,h2⟩:=h
  obtain ⟨el,ht,hz⟩:=hat h0
  exact T3 hI hA ht hz h1 (CL hI h1) h2 (CL hI h2) hp
 ·obtain ⟨⟨h0,h1⟩,h2⟩:=h
  obtain ⟨el,ht,hz⟩:=hst h0
  exact Vl hI hA ht hz h1 (CL hI h1) h2 (CL hI h2) hp
 ·obtain ⟨⟨h0,h1⟩,h2⟩:=h
  unfold RZ at h0
  split at h0
  case h_2=>cases h0
  rename_i m' el ht
  simp only [Bool.and_eq_true,beq_iff_eq] at h0
  obtain ⟨⟨rfl,hz⟩,ha⟩:=h0
  exact W0 hI hA ht hz ha h1 (CL hI h1) h2 (CL hI h2) hp
 ·obtain ⟨h0,h1⟩:=h
  unfold S0 at h0
  split at h0
  case h_2=>cases h0
  rename_i fs ht
  split at h0
  case h_2=>cases h0
  rename_i f hf
  simp only [Bool.and_eq_true,beq_iff_eq] at h0
  obtain ⟨⟨rfl,hz⟩,ha⟩:=h0
  exact VR hI hA ht hf hz ha h1 (CL hI h1) hp
 ·obtain ⟨⟨⟨⟨rfl,h0⟩,h1⟩,h2⟩,h3⟩:=h
  obtain ⟨el,ht,hz⟩:=hat h0
  exact Qj hI hA ht hz h1 (CL hI h1) h2 (Aak hI h2) h3 (Aak hI h3) hp
 ·obtain ⟨⟨⟨⟨rfl,h0⟩,h1⟩,h2⟩,h3⟩:=h
  obtain ⟨el,ht,hz⟩:=hst h0
  exact Uz hI hA ht hz h1 (CL hI h1) h2 (Aak hI h2) h3 (Aak hI h3) hp
 ·obtain ⟨h0,h1⟩:=h
  obtain ⟨el,ht,hz⟩:=hat h0
  exact VK hI hA ht h1 (CL hI h1) hp
 ·obtain ⟨⟨rfl,h0⟩,h1⟩:=h
  unfold MH at h0
  split at h0
  ·cases h0
  ·cases h0
  ·rename_i hd1 hd2
   cases hd:M.P.underlying (M.τ _) with
   | none=>exact absurd hd hd2
   | some d=>exact TP hI hA hd (by cases d <;> first | rfl | exact absurd hd (hd1 _)) h1 (CL hI h1) hp
 ·obtain ⟨rfl,h1⟩:=h
  exact WN hI hA h1 (CL hI h1) hp
 ·exact Ab4 hI hA h.1.1 h.1.2 h.2 hp
 ·exact Zl hI hA hn hk h.1.1 h.1.2 h.2 hp
 ·exact Wx hI hA h.1.1 h.1.2 h.2 hp
 ·exact Ahi hI hA h.1 h.2 hp
 ·obtain ⟨⟨h0,h1⟩,h2⟩:=h
  unfold PG at h0
  split at h0
  case h_2=>cases h0
  rename_i el ht
  split at h0
  case h_2=>cases h0
  rename_i i hi
  simp only [Bool.and_eq_true,beq_iff_eq,decide_eq_true_eq] at h0
  obtain ⟨⟨⟨⟨hsz,hby⟩,rfl⟩,hpos⟩,h0⟩:=h0
  split at h0
  case h_2=>cases h0
  rename_i x hz
  exact TU hI hA hn hk hi hz h0 hpos ht hsz hby h1 (CL hI h1) h2 (CL hI h2) hp
 ·split at h
  ·simp only [Lc6,beq_iff_eq,decide_eq_true_eq] at h
   obtain ⟨⟨⟨⟨rfl,hlt⟩,h0⟩,h1⟩,h2⟩:=h
   exact Vk hI hA hlt h0 h1 h2 hp
  ·next hlt =>
   simp only [Lc6,beq_iff_eq,decide_eq_true_eq] at h
   obtain ⟨⟨⟨rfl,h0⟩,h1⟩,h2⟩:=h
   exact X3 hI hA hlt h0 h1 h2 hp
 ·rename_i t r
  cases r <;> simp at h
  exact Qd hI hn hk t _ _
 ·obtain ⟨⟨⟨rfl,h0⟩,h1⟩,h2⟩:=h
  unfold Se at h0
  simp only [Bool.and_eq_true] at h0
  obtain ⟨hs,h0⟩:=h0
  split at h0
  case h_2=>cases h0
  rename_i kt vt ht
  simp only [Bool.and_eq_true] at h0
  obtain ⟨hc,h0⟩:=h0
  split at h0
  case h_2=>cases h0
  rename_i x hz
  simp only [Bool.and_eq_true,beq_iff_eq] at h0
  exact R4 hI hA ht hs hc hz h0.1 h0.2 h1 (CL hI h1) h2 (CL hI h2) hp
 ·obtain ⟨⟨⟨h0,h1⟩,h2⟩,h3⟩:=h
  unfold Sb at h0
  simp only [Bool.and_eq_true] at h0
  obtain ⟨hs,h0⟩:=h0
  split at h0
  case h_2=>cases h0
  rename_i kt vt ht
  exact Uv hI hA ht hs h0 h1 (CL hI h1) h2 (CL hI h2) h3 (CL hI h3) hp
 ·obtain ⟨⟨h0,h1⟩,h2⟩:=h
  exact UV hI hA h0 h1 (CL hI h1) h2 (CL hI h2) hp
 ·obtain ⟨h0,h1⟩:=h
  unfold Acm at h1
  split at h1
  case h_2=>cases h1
  rename_i kc _ x1 x2 x3 hxs
  simp only [Bool.and_eq_true] at h1
  exact RP hI hA h0 (by apply Array.ext';simpa using hxs) h1.1.1 (CL hI h1.1.1) h1.1.2 (CL hI h1.1.2) h1.2 (CL hI h1.2) hp
 ·obtain ⟨⟨⟨h0,h6⟩,h1⟩,h2⟩:=h
  split at h2
  case h_2=>cases h2
  rename_i x hfs
  have hfs':=Array.ext' (ys:=#[x]) hfs
  exact R3 hI hA h0 h6 hfs' (by simpa using h1) h2 (CL hI h2) hp
 ·exact Uq hI hA rfl h.1.1 h.1.2 (CL hI h.1.2) (List.all_eq_true.2 h.2) hp
 ·obtain ⟨h0,h1⟩:=h
  split at h1
  case h_2=>cases h1
  rename_i x hxs
  exact OH hI hA hn hk h0 (by apply Array.ext';simpa using hxs) h1 (CL hI h1) hp
 ·obtain ⟨⟨⟨h0,h1⟩,h2⟩,h3⟩:=h
  unfold MH at h2
  rename_i ok
  cases ok <;> simp at h0
  split at h2
  ·cases h2
  ·cases h2
  ·rename_i hd1 hd2
   cases hd:M.P.underlying _ with
   | none=>exact absurd hd hd2
   | some d=>exact WQ hI hA h1 hd (fun ms he=>hd1 ms (he ▸ hd)) h3 (CL hI h3) hp
 ·exact XU hI hA h.1 h.2 (CL hI h.2) hp
 ·exact Zj hI hA h.1 h.2 hp
 ·obtain ⟨h0,h1⟩:=h
  split at h0
  case h_2=>cases h0
  rename_i kt vt ht
  exact Xo hI hA hn hk ht h1 (CL hI h1) hp
 ·obtain ⟨h0,h1⟩:=h
  simp only [Bool.not_eq_true'] at h0
  subst h0
  exact W9 hI hA h1 (CL hI h1) hp
end Mv
