/- A part. -/
import Derived.Test.YtlfkjfonpacelaaGreatDoorIG
set_option linter.all false
namespace Mv
open Go
variable {M:Seat}
theorem Adr {c:Ctx} {e:Env} {H:Hp} {A:List V} {a:Act} (hI:Inv M c e H) (hA:FR e A a.tmps) {n:Nat} {max:Bool} {ts:Array TypeId} {ty:TypeId} {x1 x2:Operand} {y1 y2:X}
 (hx:A8 M x1 y1=true) (hx2:A8 M x2 y2=true) (hp:(Af A H n (.mm max y1 y2)).pre) :
 BO M c e n (Af A H n (.mm max y1 y2)) (Sem.run M.P (do pure (Next.value (← (if max then Builtin.max_ ts ty #[a.eval x1,a.eval x2] else Builtin.min_ ts ty #[a.eval x1,a.eval x2])))) e.w):=by
 have v1:=A9 hI.φ hA hx (Dd hI hx);have v2:=A9 hI.φ hA hx2 (Dd hI hx2);simp only [Af] at hp ⊢;split at hp
 ·rename_i k i k' j hy1 hy2;rw [hy1] at v1;rw [hy2] at v2;have hp':k=k':=hp;subst hp';rw [Ce v1,Ce v2];refine An hI (x:=.int k (if max then (if i < j then j else i) else (if j < i then j else i))) (AP ?_) rfl (BH _ _);cases max <;> simp [Builtin.min_,Builtin.max_,Builtin.min2,Builtin.max2]
 ·exact hp.elim
theorem Y4 {c:Ctx} {e:Env} {H:Hp} {A:List V} {a:Act} (hI:Inv M c e H) (hA:FR e A a.tmps) {n:Nat} {max:Bool} {ts:Array TypeId} {ty:TypeId} {x1 x2 x3 x4:Operand} {y1 y2 y3 y4:X}
 (hx:A8 M x1 y1=true) (hx2:A8 M x2 y2=true) (hx3:A8 M x3 y3=true) (hx4:A8 M x4 y4=true) (hp:(Af A H n (.mm4 max y1 y2 y3 y4)).pre) :
 BO M c e n (Af A H n (.mm4 max y1 y2 y3 y4)) (Sem.run M.P (do pure (Next.value (← (if max then Builtin.max_ ts ty #[a.eval x1,a.eval x2,a.eval x3,a.eval x4] else Builtin.min_ ts ty #[a.eval x1,a.eval x2,a.eval x3,a.eval x4])))) e.w):=by
 have v1:=A9 hI.φ hA hx (Dd hI hx);have v2:=A9 hI.φ hA hx2 (Dd hI hx2);have v3:=A9 hI.φ hA hx3 (Dd hI hx3);have v4:=A9 hI.φ hA hx4 (Dd hI hx4);simp only [Af] at hp ⊢;split at hp
 ·rename_i k i k1 j k2 l k3 m hy1 hy2 hy3 hy4;rw [hy1] at v1;rw [hy2] at v2;rw [hy3] at v3;rw [hy4] at v4;obtain ⟨rfl,rfl,rfl⟩:k=k1∧k=k2∧k=k3:=hp;rw [Ce v1,Ce v2,Ce v3,Ce v4];refine An hI (x:=.int k (Ss max (Ss max (Ss max i j) l) m)) (AP ?_) rfl (BH _ _);cases max <;> simp [Builtin.min_,Builtin.max_,Builtin.min2,Builtin.max2,Ss]
 ·exact hp.elim
theorem Ti {e:Env} {A:List V} {a:Act} (hφ:e.φ=M.φ) (hA:FR e A a.tmps):∀ (xs:List Operand) (ys:List X) (front:List Value),(xs.length=ys.length∧∀ q ∈ xs.zip ys,A8 M q.1 q.2=true∧DE M e q.2)→Dq A ys →
 R e (EG A ys front.length) (front ++ xs.map a.eval)∧(∀ x ∈ xs.map a.eval,x.oneCell'=true)
 | [],[],front,_,_=>⟨trivial,by simp⟩
 | x :: xs, y :: ys, front, hc, hok => by
   simp only [Dq] at hok;obtain ⟨⟨h1,h2⟩,hok'⟩:=hok;obtain ⟨hx,hg⟩:=hc.2 (x,y) B9;have hv:=A9 hφ hA hx hg;rw [Bh h1] at hv;unfold RS at hv;rw [h2] at hv;simp only at hv;have h1c:=Lq h1 hv;have hsz:(y.ev A).size=1:=by
    have:=Nz h1 hv;simpa using this.symm
   obtain ⟨r1,r2⟩:=Ti hφ hA xs ys (front ++ [a.eval x]) ⟨by simpa using hc.1,fun q hq=>hc.2 q (by simp [hq])⟩ hok';simp only [Lc4,Nat.zero_add,List.append_assoc,List.singleton_append] at r1;refine ⟨?_,fun v hv'=>?_⟩
   ·simp only [EG,R,List.map_cons];have hch:(EG A ys (front.length + 1)).chain=true:=by cases ys <;> rfl
    refine ⟨hch,?_,?_,?_,r1⟩
    ·rw [hsz];cases ys with
     | nil=>simp [EG,V.flo]
     | cons y' ys'=>simp [EG,V.flo]
    ·rw [hsz];simp
    ·rw [hsz];simpa using hv
   ·simp only [List.map_cons,List.mem_cons] at hv';rcases hv' with rfl | hv'
    ·exact h1c _ B9
    ·exact r2 v hv'
 | [],_ :: _,_,hc,_=>by simp at hc
 | _ :: _,[],_,hc,_=>by simp at hc
theorem Wy {c:Ctx} {e:Env} {H:Hp} {A:List V} {a:Act} (hI:Inv M c e H) (hA:FR e A a.tmps) {n:Nat} {f:Nat} {xs:Array Operand} {ys:List X}
 (hlt:f < 1000000) (hc:xs.size=ys.length∧∀ q ∈ xs.toList.zip ys,A8 M q.1 q.2=true) (hp:(Af A H n (.mkfn f ys)).pre) :
 BO M c e n (Af A H n (.mkfn f ys)) (Sem.run M.P (do pure (Next.value (← Instr.makeFunc (.func (M.φ f)) ((#[]:Array Operand).map a.eval) (xs.map a.eval)))) e.w):=by
 simp only [Af] at hp ⊢;obtain ⟨r1,r2⟩:=Ti hI.φ hA xs.toList ys [] ⟨by simpa using hc.1,fun q hq=>⟨hc.2 q hq,Dd hI (hc.2 q hq)⟩⟩ hp;refine An hI (x:=.func (.func (M.φ f)) #[] (xs.map a.eval)) (AP (by simp [Instr.makeFunc])) rfl ?_;simp only [RV,RS,V.isAgg,R];refine ⟨xs.toList.map a.eval,by rw [hI.φ,Sa,if_pos hlt];congr 2;apply Array.ext';simp,by simp [hc.1],⟨by cases ys <;> rfl,r2⟩,by simpa using r1⟩
theorem Xp {c:Ctx} {e:Env} {H:Hp} {A:List V} {a:Act} (hI:Inv M c e H) (hA:FR e A a.tmps) {n:Nat} {f:Nat} {xs:Array Operand} {ys:List X}
 (hlt:¬ f < 2000000) (hc:xs.size=ys.length∧∀ q ∈ xs.toList.zip ys,A8 M q.1 q.2=true) (hp:(Af A H n (.mkfn f ys)).pre) :
 BO M c e n (Af A H n (.mkfn f ys)) (Sem.run M.P (do pure (Next.value (← Instr.makeFunc (.func (M.φ (f - 2000000))) (xs.map a.eval) ((#[]:Array Operand).map a.eval)))) e.w):=by
 simp only [Af] at hp ⊢;obtain ⟨r1,r2⟩:=Ti hI.φ hA xs.toList ys [] ⟨by simpa using hc.1,fun q hq=>⟨hc.2 q hq,Dd hI (hc.2 q hq)⟩⟩ hp;refine An hI (x:=.func (.func (M.φ (f - 2000000))) (xs.map a.eval) #[]) (AP (by simp [Instr.makeFunc])) rfl ?_;simp only [RV,RS,V.isAgg,R];refine ⟨xs.toList.map a.eval,by rw [hI.φ,Sa,if_neg Aa,if_neg hlt];congr 2;apply Array.ext';simp,by simp [hc.1],⟨by cases ys <;> rfl,r2⟩,by simpa using r1⟩
def Td (M:Seat) (t k:Nat):Bool :=
 match M.P.info? (M.τ t) with
 | some i => (match i.methods.find? (·.name == L6 k) with
   | some m=>m.path.isEmpty && (match m.func with | some (_,true)=>true | _=>false)
   | none=>false)
 | none=>false
theorem O8 {P:Program} {t:TypeId} {nm:String} {i:TypeInfo} {m:Method} {f:FuncId} (hi:P.info? t=some i) (hm:i.methods.find? (·.name == nm)=some m) (hp:m.path = #[]) (hf:m.func=some (f,true)) (v:Value) (w:World) (d:Nat) :
 (nilAhead (d + 1) t v nm).run P w = .ok (some false) w:=by
 simp only [nilAhead,typeInfo,FW,hi,hm,hp,hf,followBlind];simp [hi,hm,hp,hf,followBlind]
theorem Tu {c:Ctx} {e:Env} {H:Hp} {A:List V} {a:Act} (hI:Inv M c e H) (hA:FR e A a.tmps) {n:Nat} {k:Nat} {nm:String} {first xs:Array Operand} {x:Operand} {y:X}
 (hk:L6 k=nm) (hk6:k < 1000000) (hf:first = #[x]) (hxs:xs = #[]) (hx:A8 M x y=true) (hg:DE M e y) (hp:(Af A H n (.mkmth k y)).pre) :
 BO M c e n (Af A H n (.mkmth k y)) (Sem.run M.P (do pure (Next.value (← Instr.makeFunc (.method nm) (first.map a.eval) (xs.map a.eval)))) e.w):=by
 subst hf hxs hk;have hv:=A9 hI.φ hA hx hg;simp only [Af] at hp ⊢;split at hp;case h_2=>exact hp.elim
 rename_i t v hy;rw [hy] at hv;refine An hI (x:=.func (.method (L6 k)) #[a.eval x] #[]) (AP (by simp [Instr.makeFunc])) rfl ?_;simp only [RV,RS,V.isAgg] at hv ⊢;have hl:=Nz (v:=.ifc t v) rfl hv;have ho:=Lq (v:=.ifc t v) rfl hv;refine R.eq_def .. ▸ ⟨[a.eval x],?_,?_⟩
 ·rw [Sa,if_neg Aa,if_pos Aa,show 1000000 + k - 1000000=k by omega]
 ·refine R.eq_def .. ▸ ⟨rfl,⟨rfl,fun z hz=>ho z hz⟩,?_⟩;refine R.eq_def .. ▸ ⟨rfl,by simp [V.size,V.flo],by simp [V.size],by simpa [V.size] using hv,trivial⟩
theorem Wj {c:Ctx} {e:Env} {H:Hp} {A:List V} {a:Act} (hI:Inv M c e H) (hA:FR e A a.tmps) {n:Nat} {o:Oper} {k:Nat} {ts:List Nat} {x:Operand} {y:X} (ho:o.op = .nilCheck x) (hk6:k < 1000000)
 (hx:A8 M x y=true) (hg:DE M e y) (hts:ts.all (fun t=>Td M t k)=true) (hp:(Af A H n (.nilm k ts y)).pre) :
 BO M c e n (Af A H n (.nilm k ts y)) (Sem.run M.P (execOp a.eval o) e.w):=by
 have hv:=A9 hI.φ hA hx hg;simp only [execOp,ho];simp only [Af] at hp ⊢;split at hp;case h_2=>exact hp.elim
 rename_i f m j t v r hy;rw [hy] at hv;obtain ⟨rfl,hmem,rfl,rfl⟩:=hp;refine An hI (x:=a.eval x) ?_ rfl hv;simp only [RV,RS,V.isAgg,R,Gd] at hv;obtain ⟨xs,hx',hlen,_,_,_,_,⟨z,hz,_⟩,_⟩:=hv;have hc:=List.all_eq_true.1 hts t hmem;unfold Td at hc;split at hc;case h_2=>cases hc
 rename_i i hi;split at hc;case h_2=>cases hc
 rename_i mr hmr;simp only [Bool.and_eq_true,Array.isEmpty_iff] at hc;obtain ⟨hpath,hc⟩:=hc;split at hc;case h_2=>cases hc
 rename_i g hfn;have hxs:xs=[.iface (M.τ t) z]:=by
  match xs,hlen with
  | [q], _ =>
    have:[q]=[Value.iface (e.τ t) z]:=by simpa [V.size] using hz
    rw [this,hI.τ]
 rw [hx',Sa,if_neg Aa,if_pos Aa,hxs,show 1000000 + k - 1000000=k by omega];have hn:=O8 hi hmr hpath hfn z e.w (M.P.types.size + Made.depth - 1);have hd:M.P.types.size + Made.depth - 1 + 1=M.P.types.size + Made.depth:=by
  have:0 < Made.depth:=Al;omega
 rw [hd] at hn;simp [Sem.run_bind,hn]
def Ab4 (M:Seat) (t:TypeId) (z:Z):Bool:=match (M.P.info? t).bind (·.zero) with | some x=>z.chk x | none=>false
def LJ (M:Seat) (t:TypeId) (m sz:Nat):Bool:=match M.P.underlying t with | some (.array m' el)=>m == m' && Gl M el == some sz | _=>false
def Nv (M:Seat) (t:TypeId) (sz:Nat):Bool:=match M.P.underlying t with | some (.slice el)=>Gl M el == some sz | _=>false
def RC (M:Seat) (s d:TypeId) (k:IntKind):Bool:=match M.P.underlying d,M.P.underlying s with | some (.int k'),some _=>decide (k=k') | _,_=>false
def Ny (M:Seat) (t:TypeId) (parts:Array (Nat × Operand)) (ps:List (Stp × Nat × X)):Bool :=
 match M.P.underlying t with
 | some (.struct fs)=>(match sfs M fs.toList with | some pl=>Cr M (fun i=>pl[i]?) parts.toList ps | none=>false)
 | some (.array _ el)=>(match Gl M el with | some sz=>Cr M (fun i=>some (i * sz,sz)) parts.toList ps | none=>false)
 | _=>false
def UX (M:Seat) (t:TypeId) (z:Z) (parts:Array (Nat × Operand)) (ps:List (Stp × Nat × X)):Bool :=
 match M.P.underlying t with
 | some (.slice el)=>Ab4 M el z && Gl M el == some z.sz && Cr M (fun i=>some (i * z.sz,z.sz)) parts.toList ps
 | _=>false
def Rq (M:Seat) (s:TypeId) (i off:Nat):Bool :=
 match M.P.underlying s with
 | some (.struct fs)=>(match fs[i]? with | some f=>f.offset == off && (match Gl M f.type with | some sz=>sz != 0 | none=>false) | none=>false)
 | _=>false
def Vn (M:Seat) (s:TypeId) (i off sz:Nat) (agg:Bool):Bool :=
 match M.P.underlying s with
 | some (.struct fs)=>(match fs[i]? with | some f=>f.offset == off && Gl M f.type == some sz && I4 M f.type == some agg | none=>false)
 | _=>false
def U3 (M:Seat) (t:TypeId) (m sz:Nat) (agg:Bool):Bool:=match M.P.underlying t with | some (.array m' el)=>m == m' && Gl M el == some sz && I4 M el == some agg | _=>false
def OZ (M:Seat) (t:TypeId):Bool:=match M.P.underlying t with | some (.interface _) | none=>false | _=>true
def O1 (M:Seat) (ts:Array TypeId) (k:Nat):Bool:=match ts[0]? with | some t=>(match M.P.underlying t with | some d=>Vd k d | none=>false) | none=>false
def OM (M:Seat) (sT xT:TypeId) (sz bytes:Nat):Bool :=
 match M.P.underlying sT,M.P.underlying xT with
 | some (.slice el),some (.slice _)=>(match M.P.info? el with | some i=>i.size == sz && i.bytes == bytes && decide (0 < bytes) && (match i.zero with | some z=>z.cells.size == sz | none=>false) | none=>false)
 | _,_=>false
def KM (M:Seat) (ts:Array TypeId) (sz:Nat):Bool:=match ts[0]? with | some sT=>Nv M sT sz | none=>false
def Qb (M:Seat) (t:TypeId) (sz bytes:Nat) (z:Z):Bool :=
 match M.P.underlying t with
 | some (.slice el)=>(match M.P.info? el with | some i=>i.size == z.sz && i.bytes == bytes && sz == z.sz && decide (0 < z.sz) && (match i.zero with | some x=>z.chk x | none=>false) | none=>false)
 | _=>false
def X7 (b:Builtin):Callee→Bool
 | .builtin b'=>decide (b=b')
 | _=>false
def JE (M:Seat) (xs:Array Operand) (y1 y2:X):Bool :=
 match xs.toList with
 | [x1,x2]=>A8 M x1 y1 && A8 M x2 y2
 | _=>false
def Ab3 (M:Seat) (xs:Array Operand) (y1 y2 y3 y4:X):Bool :=
 match xs.toList with
 | [x1,x2,x3,x4]=>A8 M x1 y1 && A8 M x2 y2 && A8 M x3 y3 && A8 M x4 y4
 | _=>false
def Aio (M:Seat) (xs:Array Operand) (y1 y2 y3:X):Bool :=
 match xs.toList with
 | [x1,x2,x3]=>A8 M x1 y1 && A8 M x2 y2 && A8 M x3 y3
 | _=>false
def Vt (M:Seat) (t:TypeId) (s:ES):Bool:=GB s && (match M.P.underlying t with | some (.map kt _)=>C7 M s kt [] | _=>false)
def Vp (M:Seat) (t:TypeId) (s:ES) (z:Z):Bool:=GB s && (match M.P.underlying t with
 | some (.map kt vt)=>C7 M s kt [] && (match (M.P.info? vt).bind (·.zero) with | some x=>z.chk x && Adi x == (z.v 0).isAgg | none=>false)
 | _=>false)
def Ab2 (M:Seat) (op:Op) (lo:LO):Bool :=
 match lo with
 | .mv y=>(match op with | .move x=>A8 M x y | .assign x=>A8 M x y | _=>false)
 | .pick y1 y2 y3=>(match op with | .pick x1 x2 x3=>A8 M x1 y1 && A8 M x2 y2 && A8 M x3 y3 | _=>false)
 | .ari op' y1 y2=>(match op with | .binOp op _ x1 x2 _=>decide (op=op') && A8 M x1 y1 && A8 M x2 y2 | _=>false)
 | .eq neg c s y1 y2=>(match op with | .binOp op t x1 x2 _=>decide (op=if neg then .neq else .eql) && Ab9 M c s t x1 x2 && (Iu s || P0 s) && A8 M x1 y1 && A8 M x2 y2 | _=>false)
 | .un op' y1=>(match op with | .unOp op _ x1=>decide (op=op') && A8 M x1 y1 | _=>false)
 | .conv k y1=>(match op with | .convert s d x1=>RC M s d k && A8 M x1 y1 | _=>false)
 | .alloc z=>(match op with | .alloc t=>Ab4 M t z | _=>false)
 | .box y1=>(match op with | .box _ x1=>A8 M x1 y1 | _=>false)
 | .build z ps=>(match op with | .build t parts=>Ab4 M t z && (z.v 0).isAgg && ps.all (fun q=>HV [q.1]) && Ny M t parts ps | _=>false)
 | .bsl sz m' z ps=>(match op with | .buildSlice t m parts=>m == m' && ps.all (fun q=>HV [q.1]) && sz == z.sz && decide (0 < z.sz) && decide (m * z.sz≤2 ^ 24) && UX M t z parts ps | _=>false)
 | .load agg sz y1=>(match op with | .load t x1=>Gl M t == some sz && I4 M t == some agg && A8 M x1 y1 | _=>false)
 | .store sz y1 y2=>(match op with | .store t x1 x2=>Gl M t == some sz && A8 M x1 y1 && A8 M x2 y2 | _=>false)
 | .nilc y1=>(match op with | .nilCheck x1=>A8 M x1 y1 | _=>false)
 | .fadr off y1=>(match op with | .fieldAddr s x1 i=>Rq M s i off && A8 M x1 y1 | _=>false)
 | .iarr m sz y1 y2=>(match op with | .indexAddr t x1 x2=>LJ M t m sz && A8 M x1 y1 && A8 M x2 y2 | _=>false)
 | .isl sz y1 y2=>(match op with | .indexAddr t x1 x2=>Nv M t sz && A8 M x1 y1 && A8 M x2 y2 | _=>false)
 | .idx m sz agg y1 y2=>(match op with | .index t x1 x2=>U3 M t m sz agg && A8 M x1 y1 && A8 M x2 y2 | _=>false)
 | .fld off sz agg y1=>(match op with | .field t x1 i=>Vn M t i off sz agg && A8 M x1 y1 | _=>false)
 | .slarr m sz y1 lo' hi'=>(match op with | .slice t x1 lo hi mx=>mx.isNone && LJ M t m sz && A8 M x1 y1 && MP M lo lo' && MP M hi hi' | _=>false)
 | .slsl sz y1 lo' hi'=>(match op with | .slice t x1 lo hi mx=>mx.isNone && Nv M t sz && A8 M x1 y1 && MP M lo lo' && MP M hi hi' | _=>false)
 | .s2a m sz y1=>(match op with | .sliceToArrayPointer t x1=>LJ M t m sz && A8 M x1 y1 | _=>false)
 | .mkif t' y1=>(match op with | .makeInterface t x1=>M.τ t' == t && OZ M t && A8 M x1 y1 | _=>false)
 | .ext y1 i'=>(match op with | .extract x1 i=>i == i' && A8 M x1 y1 | _=>false)
 | .len k y1=>(match op with | .call c=>X7 .len c.callee && O1 M c.argTypes k && (match c.args.toList with | [x1]=>A8 M x1 y1 | _=>false) | _=>false)
 | .app sz bytes y1 y2=>(match op with | .call c=>X7 .append c.callee && (match c.argTypes.toList with | [sT,xT]=>OM M sT xT sz bytes | _=>false) && JE M c.args y1 y2 | _=>false)
 | .copy sz y1 y2=>(match op with | .call c=>X7 .copy c.callee && KM M c.argTypes sz && JE M c.args y1 y2 | _=>false)
 | .mm max y1 y2=>(match op with | .call c=>X7 (if max then .max else .min) c.callee && JE M c.args y1 y2 | _=>false)
 | .mksl sz bytes z y1 y2=>(match op with | .makeSlice t x1 x2=>Qb M t sz bytes z && A8 M x1 y1 && A8 M x2 y2 | _=>false)
 | .mkfn f' ys=>(match op with | .makeFunc (.func f) first xs=>if f' < 2000000 then M.φ f' == f && decide (f' < 1000000) && first.isEmpty && xs.size == ys.length && (xs.toList.zip ys).all (fun q=>A8 M q.1 q.2) else M.φ (f' - 2000000) == f && xs.isEmpty && first.size == ys.length && (first.toList.zip ys).all (fun q=>A8 M q.1 q.2) | _=>false)
 | .mkmap _ _=>(match op with | .makeMap _ r=>r.isNone | _=>false)
 | .mlook s z ok y1 y2=>(match op with | .lookup t x1 x2 ok'=>ok' == ok && Vp M t s z && A8 M x1 y1 && A8 M x2 y2 | _=>false)
 | .mupd s y1 y2 y3=>(match op with | .mapUpdate t x1 x2 x3=>Vt M t s && A8 M x1 y1 && A8 M x2 y2 && A8 M x3 y3 | _=>false)
 | .sidx y1 y2=>(match op with | .index t x1 x2=>Ui M t && A8 M x1 y1 && A8 M x2 y2 | _=>false)
 | .add64 y1 y2 y3=>(match op with | .call c=>Ly M c.callee && Aio M c.args y1 y2 y3 | _=>false)
 | .mkmth k y=>(match op with | .makeFunc (.method nm) first xs=>L6 k == nm && decide (k < 1000000) && xs.isEmpty && (match first.toList with | [x]=>A8 M x y | _=>false) | _=>false)
 | .nilm k ts y=>(match op with | .nilCheck x=>decide (k < 1000000) && A8 M x y && ts.all (fun t=>Td M t k) | _=>false)
 | .rng y1=>(match op with | .range t x1=>(match M.P.underlying t with | some (.map _ _)=>true | _=>false) && A8 M x1 y1 | _=>false)
 | .nxt y1=>(match op with | .next x1 s=>!s && A8 M x1 y1 | _=>false)
 | .mclone y=>(match op with | .call c=>Ja M c.callee && (match c.args.toList with | [x]=>A8 M x y | _=>false) | _=>false)
 | .tas t y=>(match op with | .typeAssert x _ a ok=>!ok && M.τ t == a && OZ M a && A8 M x y | _=>false)
 | .b2s y=>(match op with | .convert s d x1=>Tt M s d && A8 M x1 y | _=>false)
 | .mm4 max y1 y2 y3 y4=>(match op with | .call c=>X7 (if max then .max else .min) c.callee && Ab3 M c.args y1 y2 y3 y4 | _=>false)
 | .nope=>true
variable {M:Seat}
theorem Ec {ρ:Operand→Value} {b:Builtin} {k:Call} {ty:TypeId} {w:World} (hb:k.callee = .builtin b) :
 Sem.run M.P (do let d ← resolve ρ k ty;invoke d.target d.args) w=(builtin b k.argTypes ty (k.args.map fun | .const _=>true | _=>false) (k.args.map ρ)).run M.P w:=by
 unfold resolve;simp only [hb];rfl
theorem KU {b:Builtin} {k:Callee} (h:X7 b k=true):k = .builtin b:=by
 cases k <;> simp_all [X7]
theorem Yk {xs:Array Operand} {y1 y2:X} (h:JE M xs y1 y2=true):∃ x1 x2,xs = #[x1,x2]∧A8 M x1 y1=true∧A8 M x2 y2=true:=by
 unfold JE at h;split at h
 ·rename_i x1 x2 hx;simp only [Bool.and_eq_true] at h;exact ⟨x1,x2,by apply Array.ext';simpa using hx,h.1,h.2⟩
 ·cases h
theorem Ahh {c:Ctx} {e:Env} {H:Hp} (hI:Inv M c e H) {x:Option Operand} {y:Option X} (h:MP M x y=true):VK M e y:=by
 cases x <;> cases y <;> first | trivial | (cases h;done) | exact Dd hI h
section
variable {M:Seat} {c:Ctx} {e:Env} {H:Hp} {A:List V} {a:Act} (hI:Inv M c e H) (hA:FR e A a.tmps) {n:Nat}
include hI hA
theorem Ahs {k:Call} {ty:TypeId} {kk:Nat} {y1:X} (hb:X7 .len k.callee=true) (h0:O1 M k.argTypes kk=true) (h1:(match k.args.toList with | [x1]=>A8 M x1 y1 | _=>false)=true) (hp:(Af A H n (.len kk y1)).pre) :
 BO M c e n (Af A H n (.len kk y1)) (Sem.run M.P (do let d ← resolve a.eval k ty;invoke d.target d.args) e.w):=by
 unfold O1 at h0;split at h0;case h_2=>cases h0
 rename_i t hts;split at h0;case h_2=>cases h0
 rename_i d ht;split at h1;case h_2=>cases h1
 rename_i x1 hx;have hx':k.args = #[x1]:=by apply Array.ext';simpa using hx
 rw [Ec (KU hb),hx',show (#[x1]:Array Operand).map a.eval = #[a.eval x1] from by simp];exact XQ hI hA ht hts h0 h1 (Dd hI h1) hp
theorem Ah2 (hn:¬ e.D n) (hk:c.k≤n) {k:Call} {ty:TypeId} {sz bytes:Nat} {y1 y2:X} (hb:X7 .append k.callee=true) (h0:(match k.argTypes.toList with | [sT,xT]=>OM M sT xT sz bytes | _=>false)=true) (h1:JE M k.args y1 y2=true) (hp:(Af A H n (.app sz bytes y1 y2)).pre) :
 BO M c e n (Af A H n (.app sz bytes y1 y2)) (Sem.run M.P (do let d ← resolve a.eval k ty;invoke d.target d.args) e.w):=by
 obtain ⟨x1,x2,hx,h2,h3⟩:=Yk h1;split at h0;case h_2=>cases h0
 rename_i sT xT hts;have hts':k.argTypes = #[sT,xT]:=by apply Array.ext';simpa using hts
 unfold OM at h0;split at h0;case h_2=>cases h0
 rename_i el e2 hs hxT;split at h0;case h_2=>cases h0
 rename_i i hi;simp only [Bool.and_eq_true,beq_iff_eq,decide_eq_true_eq] at h0;obtain ⟨⟨⟨hsz,hby⟩,hbp⟩,h0⟩:=h0;split at h0;case h_2=>cases h0
 rename_i z hz;rw [Ec (KU hb),hx,hts',show (#[x1,x2]:Array Operand).map a.eval = #[a.eval x1,a.eval x2] from by simp];exact YW hI hA hn hk hs hxT hi hsz hby hz (by simpa using h0) hbp h2 (Dd hI h2) h3 (Dd hI h3) hp
theorem Z9 {k:Call} {ty:TypeId} {sz:Nat} {y1 y2:X} (hb:X7 .copy k.callee=true) (h0:KM M k.argTypes sz=true) (h1:JE M k.args y1 y2=true) (hp:(Af A H n (.copy sz y1 y2)).pre) :
 BO M c e n (Af A H n (.copy sz y1 y2)) (Sem.run M.P (do let d ← resolve a.eval k ty;invoke d.target d.args) e.w):=by
 obtain ⟨x1,x2,hx,h2,h3⟩:=Yk h1;unfold KM Nv at h0;split at h0;case h_2=>cases h0
 rename_i sT hts;split at h0;case h_2=>cases h0
 rename_i el hs;rw [Ec (KU hb),hx,show (#[x1,x2]:Array Operand).map a.eval = #[a.eval x1,a.eval x2] from by simp];exact VI (ty:=ty) hI hA hts hs (by simpa using h0) h2 (Dd hI h2) h3 (Dd hI h3) hp
theorem An0 {k:Call} {ty:TypeId} {max:Bool} {y1 y2:X} (hb:X7 (if max then .max else .min) k.callee=true) (h1:JE M k.args y1 y2=true) (hp:(Af A H n (.mm max y1 y2)).pre) :
 BO M c e n (Af A H n (.mm max y1 y2)) (Sem.run M.P (do let d ← resolve a.eval k ty;invoke d.target d.args) e.w):=by
 obtain ⟨x1,x2,hx,h2,h3⟩:=Yk h1;have:=Adr (max:=max) (ts:=k.argTypes) (ty:=ty) hI hA h2 h3 hp;rw [Ec (KU hb),hx,show (#[x1,x2]:Array Operand).map a.eval = #[a.eval x1,a.eval x2] from by simp];cases max <;> exact this
theorem Ae7 {k:Call} {ty:TypeId} {max:Bool} {y1 y2 y3 y4:X} (hb:X7 (if max then .max else .min) k.callee=true) (h1:Ab3 M k.args y1 y2 y3 y4=true) (hp:(Af A H n (.mm4 max y1 y2 y3 y4)).pre) :
 BO M c e n (Af A H n (.mm4 max y1 y2 y3 y4)) (Sem.run M.P (do let d ← resolve a.eval k ty;invoke d.target d.args) e.w):=by
 unfold Ab3 at h1;split at h1;case h_2=>cases h1
 rename_i x1 x2 x3 x4 hxs;simp only [Bool.and_eq_true] at h1;have hx:k.args = #[x1,x2,x3,x4]:=by apply Array.ext';simpa using hxs
 have:=Y4 (max:=max) (ts:=k.argTypes) (ty:=ty) hI hA h1.1.1.1 h1.1.1.2 h1.1.2 h1.2 hp;rw [Ec (KU hb),hx,show (#[x1,x2,x3,x4]:Array Operand).map a.eval = #[a.eval x1,a.eval x2,a.eval x3,a.eval x4] from by simp];cases max <;> exact this
theorem Zl {f:Nat} {first xs:Array Operand} {ys:List X} (hlt:¬ f < 2000000) (h0:xs.isEmpty=true) (h1:first.size=ys.length) (h2:∀ q ∈ first.toList.zip ys,A8 M q.1 q.2=true) (hp:(Af A H n (.mkfn f ys)).pre) :
 BO M c e n (Af A H n (.mkfn f ys)) (Sem.run M.P (do pure (Next.value (← Instr.makeFunc (.func (M.φ (f - 2000000))) (first.map a.eval) (xs.map a.eval)))) e.w):=by
 have h0':xs = #[]:=by simpa using h0
 subst h0';exact Xp hI hA hlt ⟨h1,h2⟩ hp
theorem Ac1 {f:Nat} {first xs:Array Operand} {ys:List X} (hlt:f < 1000000) (h0:first.isEmpty=true) (h1:xs.size=ys.length) (h2:∀ q ∈ xs.toList.zip ys,A8 M q.1 q.2=true) (hp:(Af A H n (.mkfn f ys)).pre) :
 BO M c e n (Af A H n (.mkfn f ys)) (Sem.run M.P (do pure (Next.value (← Instr.makeFunc (.func (M.φ f)) (first.map a.eval) (xs.map a.eval)))) e.w):=by
 have h0':first = #[]:=by simpa using h0
 subst h0';exact Wy hI hA hlt ⟨h1,h2⟩ hp
end
theorem T7 {c:Ctx} {e:Env} {H:Hp} {A:List V} {a:Act} (hI:Inv M c e H) (hA:FR e A a.tmps) {n:Nat} (hn:¬ e.D n) (hk:c.k≤n) {o:Oper} {lo:LO} (h:Ab2 M o.op lo=true) (hp:(Af A H n lo).pre) :
 BO M c e n (Af A H n lo) (Sem.run M.P (execOp a.eval o) e.w):=by
 obtain ⟨dst,op,type,pos,after,guard⟩:=o;simp only at h;have hgk:∀ (place:Nat→Option (Nat × Nat)) (l:List (Nat × Operand)) (ps:List (Stp × Nat × X)),Cr M place l ps=true→Nn M e ps:=by
  intro place l;induction l with
  | nil => intro ps hps; cases ps with
    | nil=>trivial
    | cons q r=>simp [Cr] at hps
  | cons p l ih => intro ps hps; cases ps with
    | nil=>trivial
    | cons q r =>
      obtain ⟨i,ox⟩:=p;obtain ⟨s,sz,xx⟩:=q;simp only [Cr,Bool.and_eq_true] at hps;exact ⟨Dd hI hps.1.2,ih r hps.2⟩
 have hzt:∀ {t:TypeId} {z:Z},Ab4 M t z=true→∃ x,(M.P.info? t).bind (·.zero)=some x∧z.chk x=true:=by
  intro t z hz;unfold Ab4 at hz;split at hz
  ·rename_i x hx;exact ⟨x,hx,hz⟩
  ·cases hz
 have hat:∀ {t:TypeId} {m sz:Nat},LJ M t m sz=true→∃ el,M.P.underlying t=some (.array m el)∧Gl M el=some sz:=by
  intro t m sz hz;unfold LJ at hz;split at hz
  ·rename_i m' el hx;simp only [Bool.and_eq_true,beq_iff_eq] at hz;obtain ⟨rfl,hz⟩:=hz;exact ⟨el,hx,hz⟩
  ·cases hz
 have hst:∀ {t:TypeId} {sz:Nat},Nv M t sz=true→∃ el,M.P.underlying t=some (.slice el)∧Gl M el=some sz:=by
  intro t sz hz;unfold Nv at hz;split at hz
  ·rename_i el hx;exact ⟨el,hx,by simpa using hz⟩
  ·cases hz
 by_cases hany:lo = .nope
 ·subst hany;exact (show False from hp).elim
 cases lo <;> (try (exact absurd rfl hany)) <;> simp only [Ab2] at h <;> (try (cases h;done)) <;> split at h <;> (try (cases h;done)) <;> (try simp only [Lc6,beq_iff_eq,decide_eq_true_eq,Option.isNone_iff_eq_none] at h)
 ·exact Vj hI hA h (Dd hI h)
 ·exact Vj hI hA h (Dd hI h)
 ·obtain ⟨⟨h1,h2⟩,h3⟩:=h;exact VE hI hA h1 (Dd hI h1) h2 (Dd hI h2) h3 (Dd hI h3) hp
 ·obtain ⟨⟨rfl,h1⟩,h2⟩:=h;exact Abf hI hA h1 (Dd hI h1) h2 (Dd hI h2) hp
 ·obtain ⟨⟨⟨⟨rfl,h0⟩,ht⟩,h1⟩,h2⟩:=h;exact Afo hI hA h0 (An5 ht) h1 (Dd hI h1) h2 (Dd hI h2) hp
 ·obtain ⟨rfl,h1⟩:=h;exact Ady hI hA h1 (Dd hI h1) hp
 ·obtain ⟨h0,h1⟩:=h;unfold RC at h0;split at h0
  ·rename_i k' ds hd hs;simp only [decide_eq_true_eq] at h0;subst h0;exact W2 hI hA hd hs h1 (Dd hI h1) hp
  ·cases h0
 ·obtain ⟨x,hz,hc⟩:=hzt h;exact Ul hI hn hk hz hc
 ·exact Yw hI hA hn hk h (Dd hI h) hp
 ·obtain ⟨⟨⟨h0,h1⟩,h2⟩,h3⟩:=h;obtain ⟨x,hz,hc⟩:=hzt h0;unfold Ny at h3;split at h3
  ·rename_i fs ht;split at h3
   ·rename_i pl hpl;exact MR hI hA hz hc h1 ht hpl h3 (hgk _ _ _ h3) h2 hp
   ·cases h3
  ·rename_i m el ht;split at h3
   ·rename_i sz hsz;exact MM hI hA hz hc h1 ht hsz h3 (hgk _ _ _ h3) h2 hp
   ·cases h3
  ·cases h3
 ·obtain ⟨⟨⟨⟨⟨rfl,h2⟩,rfl⟩,h4⟩,h5⟩,h6⟩:=h;unfold UX at h6;split at h6
  ·rename_i el ht;simp only [Bool.and_eq_true,beq_iff_eq] at h6;obtain ⟨⟨h0,hsz⟩,h3⟩:=h6;obtain ⟨x,hz,hc⟩:=hzt h0;exact Aby hI hA hn hk hz hc h4 ht hsz h5 h3 (hgk _ _ _ h3) h2 hp
  ·cases h6
 ·obtain ⟨⟨h1,h2⟩,h3⟩:=h;exact Wn hI hA n h1 h2 h3 (Dd hI h3) hp
 ·obtain ⟨⟨h1,h2⟩,h3⟩:=h;exact Ty hI hA n h1 h2 (Dd hI h2) h3 (Dd hI h3) hp
 ·exact W7 hI hA rfl h (Dd hI h) hp
 ·obtain ⟨h0,h1⟩:=h;unfold Rq at h0;split at h0;case h_2=>cases h0
  rename_i fs hs;split at h0;case h_2=>cases h0
  rename_i f hf;simp only [Bool.and_eq_true,beq_iff_eq] at h0;obtain ⟨rfl,h0⟩:=h0;split at h0;case h_2=>cases h0
  rename_i sz hz;exact Xk hI hA hs hf hz (by simpa using h0) h1 (Dd hI h1) hp
 ·obtain ⟨⟨h0,h1⟩,h2⟩:=h;obtain ⟨el,ht,hz⟩:=hat h0;exact WO hI hA ht hz h1 (Dd hI h1) h2 (Dd hI h2) hp
 ·obtain ⟨⟨h0,h1⟩,h2⟩:=h;obtain ⟨el,ht,hz⟩:=hst h0;exact XW hI hA ht hz h1 (Dd hI h1) h2 (Dd hI h2) hp
 ·obtain ⟨⟨h0,h1⟩,h2⟩:=h;unfold U3 at h0;split at h0;case h_2=>cases h0
  rename_i m' el ht;simp only [Bool.and_eq_true,beq_iff_eq] at h0;obtain ⟨⟨rfl,hz⟩,ha⟩:=h0;exact XY hI hA ht hz ha h1 (Dd hI h1) h2 (Dd hI h2) hp
 ·obtain ⟨h0,h1⟩:=h;unfold Vn at h0;split at h0;case h_2=>cases h0
  rename_i fs ht;split at h0;case h_2=>cases h0
  rename_i f hf;simp only [Bool.and_eq_true,beq_iff_eq] at h0;obtain ⟨⟨rfl,hz⟩,ha⟩:=h0;exact YH hI hA ht hf hz ha h1 (Dd hI h1) hp
 ·obtain ⟨⟨⟨⟨rfl,h0⟩,h1⟩,h2⟩,h3⟩:=h;obtain ⟨el,ht,hz⟩:=hat h0;exact TH hI hA ht hz h1 (Dd hI h1) h2 (Ahh hI h2) h3 (Ahh hI h3) hp
 ·obtain ⟨⟨⟨⟨rfl,h0⟩,h1⟩,h2⟩,h3⟩:=h;obtain ⟨el,ht,hz⟩:=hst h0;exact Xr hI hA ht hz h1 (Dd hI h1) h2 (Ahh hI h2) h3 (Ahh hI h3) hp
 ·obtain ⟨h0,h1⟩:=h;obtain ⟨el,ht,hz⟩:=hat h0;exact YB hI hA ht h1 (Dd hI h1) hp
 ·obtain ⟨⟨rfl,h0⟩,h1⟩:=h;unfold OZ at h0;split at h0
  ·cases h0
  ·cases h0
  ·rename_i hd1 hd2;cases hd:M.P.underlying (M.τ _) with
   | none=>exact absurd hd hd2
   | some d=>exact X0 hI hA hd (by cases d <;> first | rfl | exact absurd hd (hd1 _)) h1 (Dd hI h1) hp
 ·obtain ⟨rfl,h1⟩:=h;exact Yi hI hA h1 (Dd hI h1) hp
 ·exact Ahs hI hA h.1.1 h.1.2 h.2 hp
 ·exact Ah2 hI hA hn hk h.1.1 h.1.2 h.2 hp
 ·exact Z9 hI hA h.1.1 h.1.2 h.2 hp
 ·exact An0 hI hA h.1 h.2 hp
 ·obtain ⟨⟨h0,h1⟩,h2⟩:=h;unfold Qb at h0;split at h0;case h_2=>cases h0
  rename_i el ht;split at h0;case h_2=>cases h0
  rename_i i hi;simp only [Bool.and_eq_true,beq_iff_eq,decide_eq_true_eq] at h0;obtain ⟨⟨⟨⟨hsz,hby⟩,rfl⟩,hpos⟩,h0⟩:=h0;split at h0;case h_2=>cases h0
  rename_i x hz;exact Xg hI hA hn hk hi hz h0 hpos ht hsz hby h1 (Dd hI h1) h2 (Dd hI h2) hp
 ·split at h
  ·simp only [Lc6,beq_iff_eq,decide_eq_true_eq] at h;obtain ⟨⟨⟨⟨rfl,hlt⟩,h0⟩,h1⟩,h2⟩:=h;exact Ac1 hI hA hlt h0 h1 h2 hp
  ·next hlt =>
   simp only [Lc6,beq_iff_eq,decide_eq_true_eq] at h;obtain ⟨⟨⟨rfl,h0⟩,h1⟩,h2⟩:=h;exact Zl hI hA hlt h0 h1 h2 hp
 ·rename_i t r;cases r <;> simp at h;exact Sn hI hn hk t _ _
 ·obtain ⟨⟨⟨rfl,h0⟩,h1⟩,h2⟩:=h;unfold Vp at h0;simp only [Bool.and_eq_true] at h0;obtain ⟨hs,h0⟩:=h0;split at h0;case h_2=>cases h0
  rename_i kt vt ht;simp only [Bool.and_eq_true] at h0;obtain ⟨hc,h0⟩:=h0;split at h0;case h_2=>cases h0
  rename_i x hz;simp only [Bool.and_eq_true,beq_iff_eq] at h0;exact T2 hI hA ht hs hc hz h0.1 h0.2 h1 (Dd hI h1) h2 (Dd hI h2) hp
 ·obtain ⟨⟨⟨h0,h1⟩,h2⟩,h3⟩:=h;unfold Vt at h0;simp only [Bool.and_eq_true] at h0;obtain ⟨hs,h0⟩:=h0;split at h0;case h_2=>cases h0
  rename_i kt vt ht;exact WJ hI hA ht hs h0 h1 (Dd hI h1) h2 (Dd hI h2) h3 (Dd hI h3) hp
 ·obtain ⟨⟨h0,h1⟩,h2⟩:=h;exact VW hI hA h0 h1 (Dd hI h1) h2 (Dd hI h2) hp
 ·obtain ⟨h0,h1⟩:=h;unfold Aio at h1;split at h1;case h_2=>cases h1
  rename_i kc _ x1 x2 x3 hxs;simp only [Bool.and_eq_true] at h1;exact TS hI hA h0 (by apply Array.ext';simpa using hxs) h1.1.1 (Dd hI h1.1.1) h1.1.2 (Dd hI h1.1.2) h1.2 (Dd hI h1.2) hp
 ·obtain ⟨⟨⟨h0,h6⟩,h1⟩,h2⟩:=h;split at h2;case h_2=>cases h2
  rename_i x hfs;have hfs':=Array.ext' (ys:=#[x]) hfs;exact Tu hI hA h0 h6 hfs' (by simpa using h1) h2 (Dd hI h2) hp
 ·exact Wj hI hA rfl h.1.1 h.1.2 (Dd hI h.1.2) (List.all_eq_true.2 h.2) hp
 ·obtain ⟨h0,h1⟩:=h;split at h1;case h_2=>cases h1
  rename_i x hxs;exact Rd hI hA hn hk h0 (by apply Array.ext';simpa using hxs) h1 (Dd hI h1) hp
 ·obtain ⟨⟨⟨h0,h1⟩,h2⟩,h3⟩:=h;unfold OZ at h2;rename_i ok;cases ok <;> simp at h0;split at h2
  ·cases h2
  ·cases h2
  ·rename_i hd1 hd2;cases hd:M.P.underlying _ with
   | none=>exact absurd hd hd2
   | some d=>exact XV hI hA h1 hd (fun ms he=>hd1 ms (he ▸ hd)) h3 (Dd hI h3) hp
 ·exact Aal hI hA h.1 h.2 (Dd hI h.2) hp
 ·exact Ae7 hI hA h.1 h.2 hp
 ·obtain ⟨h0,h1⟩:=h;split at h0;case h_2=>cases h0
  rename_i kt vt ht;exact ZU hI hA hn hk ht h1 (Dd hI h1) hp
 ·obtain ⟨h0,h1⟩:=h;simp only [Bool.not_eq_true'] at h0;subst h0;exact XJ hI hA h1 (Dd hI h1) hp
end Mv
