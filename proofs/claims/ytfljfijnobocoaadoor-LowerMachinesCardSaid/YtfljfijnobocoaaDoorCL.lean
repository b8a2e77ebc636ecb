/- A part. -/
import Derived.Test.YtfljfijnobocoaaDoorCK
set_option linter.all false
namespace Mv
open Go
variable {M:Seat}
theorem XO {c:Ctx} {e:Env} {H:Hp} {A:List V} {a:Act} (hI:Inv M c e H) (hA:FR e A a.tmps) {n:Nat} {max:Bool} {ts:Array TypeId} {ty:TypeId} {x1 x2:Operand} {y1 y2:X}
 (hx:Ay M x1 y1=true) (hx2:Ay M x2 y2=true) (hp:(Ae A H n (.mm max y1 y2)).pre) :
 By M c e n (Ae A H n (.mm max y1 y2)) (Sem.run M.P (do pure (Next.value (← (if max then Builtin.max_ ts ty #[a.eval x1,a.eval x2] else Builtin.min_ ts ty #[a.eval x1,a.eval x2])))) e.w):=by
 have v1:=Ax hI.φ hA hx (Co hI hx)
 have v2:=Ax hI.φ hA hx2 (Co hI hx2)
 simp only [Ae] at hp ⊢
 split at hp
 ·rename_i k i k' j hy1 hy2
  rw [hy1] at v1
  rw [hy2] at v2
  have hp':k=k':=hp
  subst hp'
  rw [B2 v1,B2 v2]
  refine Aj hI (x:=.int k (if max then (if i < j then j else i) else (if j < i then j else i))) (AA ?_) rfl (Bp _ _)
  cases max <;> simp [Builtin.min_,Builtin.max_,Builtin.min2,Builtin.max2]
 ·exact hp.elim
theorem Wl {c:Ctx} {e:Env} {H:Hp} {A:List V} {a:Act} (hI:Inv M c e H) (hA:FR e A a.tmps) {n:Nat} {max:Bool} {ts:Array TypeId} {ty:TypeId} {x1 x2 x3 x4:Operand} {y1 y2 y3 y4:X}
 (hx:Ay M x1 y1=true) (hx2:Ay M x2 y2=true) (hx3:Ay M x3 y3=true) (hx4:Ay M x4 y4=true) (hp:(Ae A H n (.mm4 max y1 y2 y3 y4)).pre) :
 By M c e n (Ae A H n (.mm4 max y1 y2 y3 y4)) (Sem.run M.P (do pure (Next.value (← (if max then Builtin.max_ ts ty #[a.eval x1,a.eval x2,a.eval x3,a.eval x4] else Builtin.min_ ts ty #[a.eval x1,a.eval x2,a.eval x3,a.eval x4])))) e.w):=by
 have v1:=Ax hI.φ hA hx (Co hI hx)
 have v2:=Ax hI.φ hA hx2 (Co hI hx2)
 have v3:=Ax hI.φ hA hx3 (Co hI hx3)
 have v4:=Ax hI.φ hA hx4 (Co hI hx4)
 simp only [Ae] at hp ⊢
 split at hp
 ·rename_i k i k1 j k2 l k3 m hy1 hy2 hy3 hy4
  rw [hy1] at v1
  rw [hy2] at v2
  rw [hy3] at v3
  rw [hy4] at v4
  obtain ⟨rfl,rfl,rfl⟩:k=k1∧k=k2∧k=k3:=hp
  rw [B2 v1,B2 v2,B2 v3,B2 v4]
  refine Aj hI (x:=.int k (OU max (OU max (OU max i j) l) m)) (AA ?_) rfl (Bp _ _)
  cases max <;> simp [Builtin.min_,Builtin.max_,Builtin.min2,Builtin.max2,OU]
 ·exact hp.elim
theorem U8 {e:Env} {A:List V} {a:Act} (hφ:e.φ=M.φ) (hA:FR e A a.tmps):∀ (xs:List Operand) (ys:List X) (front:List Value),(xs.length=ys.length∧∀ q ∈ xs.zip ys,Ay M q.1 q.2=true∧C5 M e q.2)→Cp A ys →
 R e (Dl A ys front.length) (front ++ xs.map a.eval)∧(∀ x ∈ xs.map a.eval,x.oneCell'=true)
 | [],[],front,_,_=>⟨trivial,by simp⟩
 | x :: xs, y :: ys, front, hc, hok => by
   simp only [Cp] at hok
   obtain ⟨⟨h1,h2⟩,hok'⟩:=hok
   obtain ⟨hx,hg⟩:=hc.2 (x,y) B5
   have hv:=Ax hφ hA hx hg
   rw [AI h1] at hv
   unfold RS at hv
   rw [h2] at hv
   simp only at hv
   have h1c:=IP h1 hv
   have hsz:(y.ev A).size=1:=by
    have:=K2 h1 hv
    simpa using this.symm
   obtain ⟨r1,r2⟩:=U8 hφ hA xs ys (front ++ [a.eval x]) ⟨by simpa using hc.1,fun q hq=>hc.2 q (by simp [hq])⟩ hok'
   simp only [Lc4,Nat.zero_add,List.append_assoc,List.singleton_append] at r1
   refine ⟨?_,fun v hv'=>?_⟩
   ·simp only [Dl,R,List.map_cons]
    have hch:(Dl A ys (front.length + 1)).chain=true:=by cases ys <;> rfl
    refine ⟨hch,?_,?_,?_,r1⟩
    ·rw [hsz]
     cases ys with
     | nil=>simp [Dl,V.flo]
     | cons y' ys'=>simp [Dl,V.flo]
    ·rw [hsz];simp
    ·rw [hsz];simpa using hv
   ·simp only [List.map_cons,List.mem_cons] at hv'
    rcases hv' with rfl | hv'
    ·exact h1c _ B5
    ·exact r2 v hv'
 | [],_ :: _,_,hc,_=>by simp at hc
 | _ :: _,[],_,hc,_=>by simp at hc
theorem Ru {c:Ctx} {e:Env} {H:Hp} {A:List V} {a:Act} (hI:Inv M c e H) (hA:FR e A a.tmps) {n:Nat} {f:Nat} {xs:Array Operand} {ys:List X}
 (hlt:f < 1000000) (hc:xs.size=ys.length∧∀ q ∈ xs.toList.zip ys,Ay M q.1 q.2=true) (hp:(Ae A H n (.mkfn f ys)).pre) :
 By M c e n (Ae A H n (.mkfn f ys)) (Sem.run M.P (do pure (Next.value (← Instr.makeFunc (.func (M.φ f)) ((#[]:Array Operand).map a.eval) (xs.map a.eval)))) e.w):=by
 simp only [Ae] at hp ⊢
 obtain ⟨r1,r2⟩:=U8 hI.φ hA xs.toList ys [] ⟨by simpa using hc.1,fun q hq=>⟨hc.2 q hq,Co hI (hc.2 q hq)⟩⟩ hp
 refine Aj hI (x:=.func (.func (M.φ f)) #[] (xs.map a.eval)) (AA (by simp [Instr.makeFunc])) rfl ?_
 simp only [RV,RS,V.isAgg,R]
 refine ⟨xs.toList.map a.eval,by rw [hI.φ,Qv,if_pos hlt];congr 2;apply Array.ext';simp,by simp [hc.1],⟨by cases ys <;> rfl,r2⟩,by simpa using r1⟩
theorem Amb {c:Ctx} {e:Env} {H:Hp} {A:List V} {a:Act} (hI:Inv M c e H) (hA:FR e A a.tmps) {n:Nat} {f:Nat} {xs:Array Operand} {ys:List X}
 (hlt:¬ f < 2000000) (hc:xs.size=ys.length∧∀ q ∈ xs.toList.zip ys,Ay M q.1 q.2=true) (hp:(Ae A H n (.mkfn f ys)).pre) :
 By M c e n (Ae A H n (.mkfn f ys)) (Sem.run M.P (do pure (Next.value (← Instr.makeFunc (.func (M.φ (f - 2000000))) (xs.map a.eval) ((#[]:Array Operand).map a.eval)))) e.w):=by
 simp only [Ae] at hp ⊢
 obtain ⟨r1,r2⟩:=U8 hI.φ hA xs.toList ys [] ⟨by simpa using hc.1,fun q hq=>⟨hc.2 q hq,Co hI (hc.2 q hq)⟩⟩ hp
 refine Aj hI (x:=.func (.func (M.φ (f - 2000000))) (xs.map a.eval) #[]) (AA (by simp [Instr.makeFunc])) rfl ?_
 simp only [RV,RS,V.isAgg,R]
 refine ⟨xs.toList.map a.eval,by rw [hI.φ,Qv,if_neg Aa,if_neg hlt];congr 2;apply Array.ext';simp,by simp [hc.1],⟨by cases ys <;> rfl,r2⟩,by simpa using r1⟩
def P6 (M:Seat) (t k:Nat):Bool :=
 match M.P.info? (M.τ t) with
 | some i => (match i.methods.find? (·.name == Jn k) with
   | some m=>m.path.isEmpty && (match m.func with | some (_,true)=>true | _=>false)
   | none=>false)
 | none=>false
theorem Mf {P:Program} {t:TypeId} {nm:String} {i:TypeInfo} {m:Method} {f:FuncId} (hi:P.info? t=some i) (hm:i.methods.find? (·.name == nm)=some m) (hp:m.path = #[]) (hf:m.func=some (f,true)) (v:Value) (w:World) (d:Nat) :
 (nilAhead (d + 1) t v nm).run P w = .ok (some false) w:=by
 simp only [nilAhead,typeInfo,ED,hi,hm,hp,hf,followBlind]
 simp [hi,hm,hp,hf,followBlind]
theorem Pp {c:Ctx} {e:Env} {H:Hp} {A:List V} {a:Act} (hI:Inv M c e H) (hA:FR e A a.tmps) {n:Nat} {k:Nat} {nm:String} {first xs:Array Operand} {x:Operand} {y:X}
 (hk:Jn k=nm) (hk6:k < 1000000) (hf:first = #[x]) (hxs:xs = #[]) (hx:Ay M x y=true) (hg:C5 M e y) (hp:(Ae A H n (.mkmth k y)).pre) :
 By M c e n (Ae A H n (.mkmth k y)) (Sem.run M.P (do pure (Next.value (← Instr.makeFunc (.method nm) (first.map a.eval) (xs.map a.eval)))) e.w):=by
 subst hf hxs hk
 have hv:=Ax hI.φ hA hx hg
 simp only [Ae] at hp ⊢
 split at hp
 case h_2=>exact hp.elim
 rename_i t v hy
 rw [hy] at hv
 refine Aj hI (x:=.func (.method (Jn k)) #[a.eval x] #[]) (AA (by simp [Instr.makeFunc])) rfl ?_
 simp only [RV,RS,V.isAgg] at hv ⊢
 have hl:=K2 (v:=.ifc t v) rfl hv
 have ho:=IP (v:=.ifc t v) rfl hv
 refine R.eq_def .. ▸ ⟨[a.eval x],?_,?_⟩
 ·rw [Qv,if_neg Aa,if_pos Aa,show 1000000 + k - 1000000=k by omega]
 ·refine R.eq_def .. ▸ ⟨rfl,⟨rfl,fun z hz=>ho z hz⟩,?_⟩
  refine R.eq_def .. ▸ ⟨rfl,by simp [V.size,V.flo],by simp [V.size],by simpa [V.size] using hv,trivial⟩
theorem RG {c:Ctx} {e:Env} {H:Hp} {A:List V} {a:Act} (hI:Inv M c e H) (hA:FR e A a.tmps) {n:Nat} {o:Oper} {k:Nat} {ts:List Nat} {x:Operand} {y:X} (ho:o.op = .nilCheck x) (hk6:k < 1000000)
 (hx:Ay M x y=true) (hg:C5 M e y) (hts:ts.all (fun t=>P6 M t k)=true) (hp:(Ae A H n (.nilm k ts y)).pre) :
 By M c e n (Ae A H n (.nilm k ts y)) (Sem.run M.P (execOp a.eval o) e.w):=by
 have hv:=Ax hI.φ hA hx hg
 simp only [execOp,ho]
 simp only [Ae] at hp ⊢
 split at hp
 case h_2=>exact hp.elim
 rename_i f m j t v r hy
 rw [hy] at hv
 obtain ⟨rfl,hmem,rfl,rfl⟩:=hp
 refine Aj hI (x:=a.eval x) ?_ rfl hv
 simp only [RV,RS,V.isAgg,R,EF] at hv
 obtain ⟨xs,hx',hlen,_,_,_,_,⟨z,hz,_⟩,_⟩:=hv
 have hc:=List.all_eq_true.1 hts t hmem
 unfold P6 at hc
 split at hc
 case h_2=>cases hc
 rename_i i hi
 split at hc
 case h_2=>cases hc
 rename_i mr hmr
 simp only [Bool.and_eq_true,Array.isEmpty_iff] at hc
 obtain ⟨hpath,hc⟩:=hc
 split at hc
 case h_2=>cases hc
 rename_i g hfn
 have hxs:xs=[.iface (M.τ t) z]:=by
  match xs,hlen with
  | [q], _ =>
    have:[q]=[Value.iface (e.τ t) z]:=by simpa [V.size] using hz
    rw [this,hI.τ]
 rw [hx',Qv,if_neg Aa,if_pos Aa,hxs,show 1000000 + k - 1000000=k by omega]
 have hn:=Mf hi hmr hpath hfn z e.w (M.P.types.size + Made.depth - 1)
 have hd:M.P.types.size + Made.depth - 1 + 1=M.P.types.size + Made.depth:=by
  have:0 < Made.depth:=Am
  omega
 rw [hd] at hn
 simp [Sem.run_bind,hn]
def Ue (M:Seat) (t:TypeId) (z:Z):Bool:=match (M.P.info? t).bind (·.zero) with | some x=>z.chk x | none=>false
def JP (M:Seat) (t:TypeId) (m sz:Nat):Bool:=match M.P.underlying t with | some (.array m' el)=>m == m' && EG M el == some sz | _=>false
def Ld (M:Seat) (t:TypeId) (sz:Nat):Bool:=match M.P.underlying t with | some (.slice el)=>EG M el == some sz | _=>false
def No (M:Seat) (s d:TypeId) (k:IntKind):Bool:=match M.P.underlying d,M.P.underlying s with | some (.int k'),some _=>decide (k=k') | _,_=>false
def Kz (M:Seat) (t:TypeId) (parts:Array (Nat × Operand)) (ps:List (Stp × Nat × X)):Bool :=
 match M.P.underlying t with
 | some (.struct fs)=>(match sfs M fs.toList with | some pl=>B9 M (fun i=>pl[i]?) parts.toList ps | none=>false)
 | some (.array _ el)=>(match EG M el with | some sz=>B9 M (fun i=>some (i * sz,sz)) parts.toList ps | none=>false)
 | _=>false
def Re (M:Seat) (t:TypeId) (z:Z) (parts:Array (Nat × Operand)) (ps:List (Stp × Nat × X)):Bool :=
 match M.P.underlying t with
 | some (.slice el)=>Ue M el z && EG M el == some z.sz && B9 M (fun i=>some (i * z.sz,z.sz)) parts.toList ps
 | _=>false
def Nk (M:Seat) (s:TypeId) (i off:Nat):Bool :=
 match M.P.underlying s with
 | some (.struct fs)=>(match fs[i]? with | some f=>f.offset == off && (match EG M f.type with | some sz=>sz != 0 | none=>false) | none=>false)
 | _=>false
def Qy (M:Seat) (s:TypeId) (i off sz:Nat) (agg:Bool):Bool :=
 match M.P.underlying s with
 | some (.struct fs)=>(match fs[i]? with | some f=>f.offset == off && EG M f.type == some sz && Gu M f.type == some agg | none=>false)
 | _=>false
def QU (M:Seat) (t:TypeId) (m sz:Nat) (agg:Bool):Bool:=match M.P.underlying t with | some (.array m' el)=>m == m' && EG M el == some sz && Gu M el == some agg | _=>false
def M2 (M:Seat) (t:TypeId):Bool:=match M.P.underlying t with | some (.interface _) | none=>false | _=>true
def Ls (M:Seat) (ts:Array TypeId) (k:Nat):Bool:=match ts[0]? with | some t=>(match M.P.underlying t with | some d=>Qe k d | none=>false) | none=>false
def Lp (M:Seat) (sT xT:TypeId) (sz bytes:Nat):Bool :=
 match M.P.underlying sT,M.P.underlying xT with
 | some (.slice el),some (.slice _)=>(match M.P.info? el with | some i=>i.size == sz && i.bytes == bytes && decide (0 < bytes) && (match i.zero with | some z=>z.cells.size == sz | none=>false) | none=>false)
 | _,_=>false
def IV (M:Seat) (ts:Array TypeId) (sz:Nat):Bool:=match ts[0]? with | some sT=>Ld M sT sz | none=>false
def MN (M:Seat) (t:TypeId) (sz bytes:Nat) (z:Z):Bool :=
 match M.P.underlying t with
 | some (.slice el)=>(match M.P.info? el with | some i=>i.size == z.sz && i.bytes == bytes && sz == z.sz && decide (0 < z.sz) && (match i.zero with | some x=>z.chk x | none=>false) | none=>false)
 | _=>false
def SQ (b:Builtin):Callee→Bool
 | .builtin b'=>decide (b=b')
 | _=>false
def HE (M:Seat) (xs:Array Operand) (y1 y2:X):Bool :=
 match xs.toList with
 | [x1,x2]=>Ay M x1 y1 && Ay M x2 y2
 | _=>false
def Vx (M:Seat) (xs:Array Operand) (y1 y2 y3 y4:X):Bool :=
 match xs.toList with
 | [x1,x2,x3,x4]=>Ay M x1 y1 && Ay M x2 y2 && Ay M x3 y3 && Ay M x4 y4
 | _=>false
def Zx (M:Seat) (xs:Array Operand) (y1 y2 y3:X):Bool :=
 match xs.toList with
 | [x1,x2,x3]=>Ay M x1 y1 && Ay M x2 y2 && Ay M x3 y3
 | _=>false
def QT (M:Seat) (t:TypeId) (s:ES):Bool:=ER s && (match M.P.underlying t with | some (.map kt _)=>BF M s kt [] | _=>false)
def QD (M:Seat) (t:TypeId) (s:ES) (z:Z):Bool:=ER s && (match M.P.underlying t with
 | some (.map kt vt)=>BF M s kt [] && (match (M.P.info? vt).bind (·.zero) with | some x=>z.chk x && Xv x == (z.v 0).isAgg | none=>false)
 | _=>false)
def TZ (M:Seat) (op:Op) (lo:LO):Bool :=
 match lo with
 | .mv y=>(match op with | .move x=>Ay M x y | .assign x=>Ay M x y | _=>false)
 | .pick y1 y2 y3=>(match op with | .pick x1 x2 x3=>Ay M x1 y1 && Ay M x2 y2 && Ay M x3 y3 | _=>false)
 | .ari op' y1 y2=>(match op with | .binOp op _ x1 x2 _=>decide (op=op') && Ay M x1 y1 && Ay M x2 y2 | _=>false)
 | .eq neg c s y1 y2=>(match op with | .binOp op t x1 x2 _=>decide (op=if neg then .neq else .eql) && TD M c s t x1 x2 && (Gv s || Lx s) && Ay M x1 y1 && Ay M x2 y2 | _=>false)
 | .un op' y1=>(match op with | .unOp op _ x1=>decide (op=op') && Ay M x1 y1 | _=>false)
 | .conv k y1=>(match op with | .convert s d x1=>No M s d k && Ay M x1 y1 | _=>false)
 | .alloc z=>(match op with | .alloc t=>Ue M t z | _=>false)
 | .box y1=>(match op with | .box _ x1=>Ay M x1 y1 | _=>false)
 | .build z ps=>(match op with | .build t parts=>Ue M t z && (z.v 0).isAgg && ps.all (fun q=>Gx [q.1]) && Kz M t parts ps | _=>false)
 | .bsl sz m' z ps=>(match op with | .buildSlice t m parts=>m == m' && ps.all (fun q=>Gx [q.1]) && sz == z.sz && decide (0 < z.sz) && decide (m * z.sz≤2 ^ 24) && Re M t z parts ps | _=>false)
 | .load agg sz y1=>(match op with | .load t x1=>EG M t == some sz && Gu M t == some agg && Ay M x1 y1 | _=>false)
 | .store sz y1 y2=>(match op with | .store t x1 x2=>EG M t == some sz && Ay M x1 y1 && Ay M x2 y2 | _=>false)
 | .nilc y1=>(match op with | .nilCheck x1=>Ay M x1 y1 | _=>false)
 | .fadr off y1=>(match op with | .fieldAddr s x1 i=>Nk M s i off && Ay M x1 y1 | _=>false)
 | .iarr m sz y1 y2=>(match op with | .indexAddr t x1 x2=>JP M t m sz && Ay M x1 y1 && Ay M x2 y2 | _=>false)
 | .isl sz y1 y2=>(match op with | .indexAddr t x1 x2=>Ld M t sz && Ay M x1 y1 && Ay M x2 y2 | _=>false)
 | .idx m sz agg y1 y2=>(match op with | .index t x1 x2=>QU M t m sz agg && Ay M x1 y1 && Ay M x2 y2 | _=>false)
 | .fld off sz agg y1=>(match op with | .field t x1 i=>Qy M t i off sz agg && Ay M x1 y1 | _=>false)
 | .slarr m sz y1 lo' hi'=>(match op with | .slice t x1 lo hi mx=>mx.isNone && JP M t m sz && Ay M x1 y1 && Ku M lo lo' && Ku M hi hi' | _=>false)
 | .slsl sz y1 lo' hi'=>(match op with | .slice t x1 lo hi mx=>mx.isNone && Ld M t sz && Ay M x1 y1 && Ku M lo lo' && Ku M hi hi' | _=>false)
 | .s2a m sz y1=>(match op with | .sliceToArrayPointer t x1=>JP M t m sz && Ay M x1 y1 | _=>false)
 | .mkif t' y1=>(match op with | .makeInterface t x1=>M.τ t' == t && M2 M t && Ay M x1 y1 | _=>false)
 | .ext y1 i'=>(match op with | .extract x1 i=>i == i' && Ay M x1 y1 | _=>false)
 | .len k y1=>(match op with | .call c=>SQ .len c.callee && Ls M c.argTypes k && (match c.args.toList with | [x1]=>Ay M x1 y1 | _=>false) | _=>false)
 | .app sz bytes y1 y2=>(match op with | .call c=>SQ .append c.callee && (match c.argTypes.toList with | [sT,xT]=>Lp M sT xT sz bytes | _=>false) && HE M c.args y1 y2 | _=>false)
 | .copy sz y1 y2=>(match op with | .call c=>SQ .copy c.callee && IV M c.argTypes sz && HE M c.args y1 y2 | _=>false)
 | .mm max y1 y2=>(match op with | .call c=>SQ (if max then .max else .min) c.callee && HE M c.args y1 y2 | _=>false)
 | .mksl sz bytes z y1 y2=>(match op with | .makeSlice t x1 x2=>MN M t sz bytes z && Ay M x1 y1 && Ay M x2 y2 | _=>false)
 | .mkfn f' ys=>(match op with | .makeFunc (.func f) first xs=>if f' < 2000000 then M.φ f' == f && decide (f' < 1000000) && first.isEmpty && xs.size == ys.length && (xs.toList.zip ys).all (fun q=>Ay M q.1 q.2) else M.φ (f' - 2000000) == f && xs.isEmpty && first.size == ys.length && (first.toList.zip ys).all (fun q=>Ay M q.1 q.2) | _=>false)
 | .mkmap _ _=>(match op with | .makeMap _ r=>r.isNone | _=>false)
 | .mlook s z ok y1 y2=>(match op with | .lookup t x1 x2 ok'=>ok' == ok && QD M t s z && Ay M x1 y1 && Ay M x2 y2 | _=>false)
 | .mupd s y1 y2 y3=>(match op with | .mapUpdate t x1 x2 x3=>QT M t s && Ay M x1 y1 && Ay M x2 y2 && Ay M x3 y3 | _=>false)
 | .sidx y1 y2=>(match op with | .index t x1 x2=>PY M t && Ay M x1 y1 && Ay M x2 y2 | _=>false)
 | .add64 y1 y2 y3=>(match op with | .call c=>JW M c.callee && Zx M c.args y1 y2 y3 | _=>false)
 | .mkmth k y=>(match op with | .makeFunc (.method nm) first xs=>Jn k == nm && decide (k < 1000000) && xs.isEmpty && (match first.toList with | [x]=>Ay M x y | _=>false) | _=>false)
 | .nilm k ts y=>(match op with | .nilCheck x=>decide (k < 1000000) && Ay M x y && ts.all (fun t=>P6 M t k) | _=>false)
 | .rng y1=>(match op with | .range t x1=>(match M.P.underlying t with | some (.map _ _)=>true | _=>false) && Ay M x1 y1 | _=>false)
 | .nxt y1=>(match op with | .next x1 s=>!s && Ay M x1 y1 | _=>false)
 | .mclone y=>(match op with | .call c=>Hg M c.callee && (match c.args.toList with | [x]=>Ay M x y | _=>false) | _=>false)
 | .tas t y=>(match op with | .typeAssert x _ a ok=>!ok && M.τ t == a && M2 M a && Ay M x y | _=>false)
 | .b2s y=>(match op with | .convert s d x1=>Pj M s d && Ay M x1 y | _=>false)
 | .mm4 max y1 y2 y3 y4=>(match op with | .call c=>SQ (if max then .max else .min) c.callee && Vx M c.args y1 y2 y3 y4 | _=>false)
 | .nope=>true
end Mv
