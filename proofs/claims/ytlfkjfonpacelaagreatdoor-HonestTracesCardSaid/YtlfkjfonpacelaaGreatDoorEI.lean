/- A part. -/
import Derived.Test.YtlfkjfonpacelaaGreatDoorEH
set_option linter.all false
namespace Mv
open Go
variable {M:Seat}
theorem Acs {c:Ctx} {e:Env} {H:Hp} {A:List V} {a:Act} (hI:Inv M c e H) (hA:FR e A a.tmps) {n:Nat} {max:Bool} {ts:Array TypeId} {ty:TypeId} {x1 x2:Operand} {y1 y2:X}
 (hx:A3 M x1 y1=true) (hx2:A3 M x2 y2=true) (hp:(Ae A H n (.mm max y1 y2)).pre) :
 B6 M c e n (Ae A H n (.mm max y1 y2)) (Sem.run M.P (do pure (Next.value (← (if max then Builtin.max_ ts ty #[a.eval x1,a.eval x2] else Builtin.min_ ts ty #[a.eval x1,a.eval x2])))) e.w):=by
 have v1:=A4 hI.φ hA hx (CJ hI hx)
 have v2:=A4 hI.φ hA hx2 (CJ hI hx2)
 simp only [Ae] at hp ⊢
 split at hp
 ·rename_i k i k' j hy1 hy2
  rw [hy1] at v1
  rw [hy2] at v2
  have hp':k=k':=hp
  subst hp'
  rw [BN v1,BN v2]
  refine Ag hI (x:=.int k (if max then (if i < j then j else i) else (if j < i then j else i))) (AH ?_) rfl (By _ _)
  cases max <;> simp [Builtin.min_,Builtin.max_,Builtin.min2,Builtin.max2]
 ·exact hp.elim
theorem Xe {c:Ctx} {e:Env} {H:Hp} {A:List V} {a:Act} (hI:Inv M c e H) (hA:FR e A a.tmps) {n:Nat} {max:Bool} {ts:Array TypeId} {ty:TypeId} {x1 x2 x3 x4:Operand} {y1 y2 y3 y4:X}
 (hx:A3 M x1 y1=true) (hx2:A3 M x2 y2=true) (hx3:A3 M x3 y3=true) (hx4:A3 M x4 y4=true) (hp:(Ae A H n (.mm4 max y1 y2 y3 y4)).pre) :
 B6 M c e n (Ae A H n (.mm4 max y1 y2 y3 y4)) (Sem.run M.P (do pure (Next.value (← (if max then Builtin.max_ ts ty #[a.eval x1,a.eval x2,a.eval x3,a.eval x4] else Builtin.min_ ts ty #[a.eval x1,a.eval x2,a.eval x3,a.eval x4])))) e.w):=by
 have v1:=A4 hI.φ hA hx (CJ hI hx)
 have v2:=A4 hI.φ hA hx2 (CJ hI hx2)
 have v3:=A4 hI.φ hA hx3 (CJ hI hx3)
 have v4:=A4 hI.φ hA hx4 (CJ hI hx4)
 simp only [Ae] at hp ⊢
 split at hp
 ·rename_i k i k1 j k2 l k3 m hy1 hy2 hy3 hy4
  rw [hy1] at v1
  rw [hy2] at v2
  rw [hy3] at v3
  rw [hy4] at v4
  obtain ⟨rfl,rfl,rfl⟩:k=k1∧k=k2∧k=k3:=hp
  rw [BN v1,BN v2,BN v3,BN v4]
  refine Ag hI (x:=.int k (RD max (RD max (RD max i j) l) m)) (AH ?_) rfl (By _ _)
  cases max <;> simp [Builtin.min_,Builtin.max_,Builtin.min2,Builtin.max2,RD]
 ·exact hp.elim
theorem Sb {e:Env} {A:List V} {a:Act} (hφ:e.φ=M.φ) (hA:FR e A a.tmps):∀ (xs:List Operand) (ys:List X) (front:List Value),(xs.length=ys.length∧∀ q ∈ xs.zip ys,A3 M q.1 q.2=true∧Do M e q.2)→CT A ys →
 R e (Eb A ys front.length) (front ++ xs.map a.eval)∧(∀ x ∈ xs.map a.eval,x.oneCell'=true)
 | [],[],front,_,_=>⟨trivial,by simp⟩
 | x :: xs, y :: ys, front, hc, hok => by
   simp only [CT] at hok
   obtain ⟨⟨h1,h2⟩,hok'⟩:=hok
   obtain ⟨hx,hg⟩:=hc.2 (x,y) B1
   have hv:=A4 hφ hA hx hg
   rw [AR h1] at hv
   unfold RS at hv
   rw [h2] at hv
   simp only at hv
   have h1c:=KQ h1 hv
   have hsz:(y.ev A).size=1:=by
    have:=Me h1 hv
    simpa using this.symm
   obtain ⟨r1,r2⟩:=Sb hφ hA xs ys (front ++ [a.eval x]) ⟨by simpa using hc.1,fun q hq=>hc.2 q (by simp [hq])⟩ hok'
   simp only [Lc4,Nat.zero_add,List.append_assoc,List.singleton_append] at r1
   refine ⟨?_,fun v hv'=>?_⟩
   ·simp only [Eb,R,List.map_cons]
    have hch:(Eb A ys (front.length + 1)).chain=true:=by cases ys <;> rfl
    refine ⟨hch,?_,?_,?_,r1⟩
    ·rw [hsz]
     cases ys with
     | nil=>simp [Eb,V.flo]
     | cons y' ys'=>simp [Eb,V.flo]
    ·rw [hsz];simp
    ·rw [hsz];simpa using hv
   ·simp only [List.map_cons,List.mem_cons] at hv'
    rcases hv' with rfl | hv'
    ·exact h1c _ B1
    ·exact r2 v hv'
 | [],_ :: _,_,hc,_=>by simp at hc
 | _ :: _,[],_,hc,_=>by simp at hc
theorem UU {c:Ctx} {e:Env} {H:Hp} {A:List V} {a:Act} (hI:Inv M c e H) (hA:FR e A a.tmps) {n:Nat} {f:Nat} {xs:Array Operand} {ys:List X}
 (hlt:f < 1000000) (hc:xs.size=ys.length∧∀ q ∈ xs.toList.zip ys,A3 M q.1 q.2=true) (hp:(Ae A H n (.mkfn f ys)).pre) :
 B6 M c e n (Ae A H n (.mkfn f ys)) (Sem.run M.P (do pure (Next.value (← Instr.makeFunc (.func (M.φ f)) ((#[]:Array Operand).map a.eval) (xs.map a.eval)))) e.w):=by
 simp only [Ae] at hp ⊢
 obtain ⟨r1,r2⟩:=Sb hI.φ hA xs.toList ys [] ⟨by simpa using hc.1,fun q hq=>⟨hc.2 q hq,CJ hI (hc.2 q hq)⟩⟩ hp
 refine Ag hI (x:=.func (.func (M.φ f)) #[] (xs.map a.eval)) (AH (by simp [Instr.makeFunc])) rfl ?_
 simp only [RV,RS,V.isAgg,R]
 refine ⟨xs.toList.map a.eval,by rw [hI.φ,Qr,if_pos hlt];congr 2;apply Array.ext';simp,by simp [hc.1],⟨by cases ys <;> rfl,r2⟩,by simpa using r1⟩
theorem Uw {c:Ctx} {e:Env} {H:Hp} {A:List V} {a:Act} (hI:Inv M c e H) (hA:FR e A a.tmps) {n:Nat} {f:Nat} {xs:Array Operand} {ys:List X}
 (hlt:¬ f < 2000000) (hc:xs.size=ys.length∧∀ q ∈ xs.toList.zip ys,A3 M q.1 q.2=true) (hp:(Ae A H n (.mkfn f ys)).pre) :
 B6 M c e n (Ae A H n (.mkfn f ys)) (Sem.run M.P (do pure (Next.value (← Instr.makeFunc (.func (M.φ (f - 2000000))) (xs.map a.eval) ((#[]:Array Operand).map a.eval)))) e.w):=by
 simp only [Ae] at hp ⊢
 obtain ⟨r1,r2⟩:=Sb hI.φ hA xs.toList ys [] ⟨by simpa using hc.1,fun q hq=>⟨hc.2 q hq,CJ hI (hc.2 q hq)⟩⟩ hp
 refine Ag hI (x:=.func (.func (M.φ (f - 2000000))) (xs.map a.eval) #[]) (AH (by simp [Instr.makeFunc])) rfl ?_
 simp only [RV,RS,V.isAgg,R]
 refine ⟨xs.toList.map a.eval,by rw [hI.φ,Qr,if_neg Aa,if_neg hlt];congr 2;apply Array.ext';simp,by simp [hc.1],⟨by cases ys <;> rfl,r2⟩,by simpa using r1⟩
def QX (M:Seat) (t k:Nat):Bool :=
 match M.P.info? (M.τ t) with
 | some i => (match i.methods.find? (·.name == KJ k) with
   | some m=>m.path.isEmpty && (match m.func with | some (_,true)=>true | _=>false)
   | none=>false)
 | none=>false
theorem Nl {P:Program} {t:TypeId} {nm:String} {i:TypeInfo} {m:Method} {f:FuncId} (hi:P.info? t=some i) (hm:i.methods.find? (·.name == nm)=some m) (hp:m.path = #[]) (hf:m.func=some (f,true)) (v:Value) (w:World) (d:Nat) :
 (nilAhead (d + 1) t v nm).run P w = .ok (some false) w:=by
 simp only [nilAhead,typeInfo,F3,hi,hm,hp,hf,followBlind]
 simp [hi,hm,hp,hf,followBlind]
theorem RK {c:Ctx} {e:Env} {H:Hp} {A:List V} {a:Act} (hI:Inv M c e H) (hA:FR e A a.tmps) {n:Nat} {k:Nat} {nm:String} {first xs:Array Operand} {x:Operand} {y:X}
 (hk:KJ k=nm) (hk6:k < 1000000) (hf:first = #[x]) (hxs:xs = #[]) (hx:A3 M x y=true) (hg:Do M e y) (hp:(Ae A H n (.mkmth k y)).pre) :
 B6 M c e n (Ae A H n (.mkmth k y)) (Sem.run M.P (do pure (Next.value (← Instr.makeFunc (.method nm) (first.map a.eval) (xs.map a.eval)))) e.w):=by
 subst hf hxs hk
 have hv:=A4 hI.φ hA hx hg
 simp only [Ae] at hp ⊢
 split at hp
 case h_2=>exact hp.elim
 rename_i t v hy
 rw [hy] at hv
 refine Ag hI (x:=.func (.method (KJ k)) #[a.eval x] #[]) (AH (by simp [Instr.makeFunc])) rfl ?_
 simp only [RV,RS,V.isAgg] at hv ⊢
 have hl:=Me (v:=.ifc t v) rfl hv
 have ho:=KQ (v:=.ifc t v) rfl hv
 refine R.eq_def .. ▸ ⟨[a.eval x],?_,?_⟩
 ·rw [Qr,if_neg Aa,if_pos Aa,show 1000000 + k - 1000000=k by omega]
 ·refine R.eq_def .. ▸ ⟨rfl,⟨rfl,fun z hz=>ho z hz⟩,?_⟩
  refine R.eq_def .. ▸ ⟨rfl,by simp [V.size,V.flo],by simp [V.size],by simpa [V.size] using hv,trivial⟩
theorem Ua {c:Ctx} {e:Env} {H:Hp} {A:List V} {a:Act} (hI:Inv M c e H) (hA:FR e A a.tmps) {n:Nat} {o:Oper} {k:Nat} {ts:List Nat} {x:Operand} {y:X} (ho:o.op = .nilCheck x) (hk6:k < 1000000)
 (hx:A3 M x y=true) (hg:Do M e y) (hts:ts.all (fun t=>QX M t k)=true) (hp:(Ae A H n (.nilm k ts y)).pre) :
 B6 M c e n (Ae A H n (.nilm k ts y)) (Sem.run M.P (execOp a.eval o) e.w):=by
 have hv:=A4 hI.φ hA hx hg
 simp only [execOp,ho]
 simp only [Ae] at hp ⊢
 split at hp
 case h_2=>exact hp.elim
 rename_i f m j t v r hy
 rw [hy] at hv
 obtain ⟨rfl,hmem,rfl,rfl⟩:=hp
 refine Ag hI (x:=a.eval x) ?_ rfl hv
 simp only [RV,RS,V.isAgg,R,EU] at hv
 obtain ⟨xs,hx',hlen,_,_,_,_,⟨z,hz,_⟩,_⟩:=hv
 have hc:=List.all_eq_true.1 hts t hmem
 unfold QX at hc
 split at hc
 case h_2=>cases hc
 rename_i i hi
 split at hc
 case h_2=>cases hc
 rename_i mr hmr
 simp only [Bool.and_eq_true,Array.isEmpty_iff] at hc
 obtain ⟨hpath,hc⟩:=hc
 split at hc
 case h_2=>cases hc
 rename_i g hfn
 have hxs:xs=[.iface (M.τ t) z]:=by
  match xs,hlen with
  | [q], _ =>
    have:[q]=[Value.iface (e.τ t) z]:=by simpa [V.size] using hz
    rw [this,hI.τ]
 rw [hx',Qr,if_neg Aa,if_pos Aa,hxs,show 1000000 + k - 1000000=k by omega]
 have hn:=Nl hi hmr hpath hfn z e.w (M.P.types.size + Made.depth - 1)
 have hd:M.P.types.size + Made.depth - 1 + 1=M.P.types.size + Made.depth:=by
  have:0 < Made.depth:=Aj
  omega
 rw [hd] at hn
 simp [Sem.run_bind,hn]
def VP (M:Seat) (t:TypeId) (z:Z):Bool:=match (M.P.info? t).bind (·.zero) with | some x=>z.chk x | none=>false
def Kt (M:Seat) (t:TypeId) (m sz:Nat):Bool:=match M.P.underlying t with | some (.array m' el)=>m == m' && FD M el == some sz | _=>false
def Mr (M:Seat) (t:TypeId) (sz:Nat):Bool:=match M.P.underlying t with | some (.slice el)=>FD M el == some sz | _=>false
def OX (M:Seat) (s d:TypeId) (k:IntKind):Bool:=match M.P.underlying d,M.P.underlying s with | some (.int k'),some _=>decide (k=k') | _,_=>false
def Ml (M:Seat) (t:TypeId) (parts:Array (Nat × Operand)) (ps:List (Stp × Nat × X)):Bool :=
 match M.P.underlying t with
 | some (.struct fs)=>(match sfs M fs.toList with | some pl=>BY M (fun i=>pl[i]?) parts.toList ps | none=>false)
 | some (.array _ el)=>(match FD M el with | some sz=>BY M (fun i=>some (i * sz,sz)) parts.toList ps | none=>false)
 | _=>false
def Ts (M:Seat) (t:TypeId) (z:Z) (parts:Array (Nat × Operand)) (ps:List (Stp × Nat × X)):Bool :=
 match M.P.underlying t with
 | some (.slice el)=>VP M el z && FD M el == some z.sz && BY M (fun i=>some (i * z.sz,z.sz)) parts.toList ps
 | _=>false
def PI (M:Seat) (s:TypeId) (i off:Nat):Bool :=
 match M.P.underlying s with
 | some (.struct fs)=>(match fs[i]? with | some f=>f.offset == off && (match FD M f.type with | some sz=>sz != 0 | none=>false) | none=>false)
 | _=>false
def Tg (M:Seat) (s:TypeId) (i off sz:Nat) (agg:Bool):Bool :=
 match M.P.underlying s with
 | some (.struct fs)=>(match fs[i]? with | some f=>f.offset == off && FD M f.type == some sz && Hw M f.type == some agg | none=>false)
 | _=>false
def T0 (M:Seat) (t:TypeId) (m sz:Nat) (agg:Bool):Bool:=match M.P.underlying t with | some (.array m' el)=>m == m' && FD M el == some sz && Hw M el == some agg | _=>false
def Nv (M:Seat) (t:TypeId):Bool:=match M.P.underlying t with | some (.interface _) | none=>false | _=>true
def Oc (M:Seat) (ts:Array TypeId) (k:Nat):Bool:=match ts[0]? with | some t=>(match M.P.underlying t with | some d=>Tw k d | none=>false) | none=>false
def N6 (M:Seat) (sT xT:TypeId) (sz bytes:Nat):Bool :=
 match M.P.underlying sT,M.P.underlying xT with
 | some (.slice el),some (.slice _)=>(match M.P.info? el with | some i=>i.size == sz && i.bytes == bytes && decide (0 < bytes) && (match i.zero with | some z=>z.cells.size == sz | none=>false) | none=>false)
 | _,_=>false
def JY (M:Seat) (ts:Array TypeId) (sz:Nat):Bool:=match ts[0]? with | some sT=>Mr M sT sz | none=>false
def PS (M:Seat) (t:TypeId) (sz bytes:Nat) (z:Z):Bool :=
 match M.P.underlying t with
 | some (.slice el)=>(match M.P.info? el with | some i=>i.size == z.sz && i.bytes == bytes && sz == z.sz && decide (0 < z.sz) && (match i.zero with | some x=>z.chk x | none=>false) | none=>false)
 | _=>false
def V2 (b:Builtin):Callee→Bool
 | .builtin b'=>decide (b=b')
 | _=>false
def IF (M:Seat) (xs:Array Operand) (y1 y2:X):Bool :=
 match xs.toList with
 | [x1,x2]=>A3 M x1 y1 && A3 M x2 y2
 | _=>false
def WK (M:Seat) (xs:Array Operand) (y1 y2 y3 y4:X):Bool :=
 match xs.toList with
 | [x1,x2,x3,x4]=>A3 M x1 y1 && A3 M x2 y2 && A3 M x3 y3 && A3 M x4 y4
 | _=>false
def Ad0 (M:Seat) (xs:Array Operand) (y1 y2 y3:X):Bool :=
 match xs.toList with
 | [x1,x2,x3]=>A3 M x1 y1 && A3 M x2 y2 && A3 M x3 y3
 | _=>false
def S4 (M:Seat) (t:TypeId) (s:ES):Bool:=FH s && (match M.P.underlying t with | some (.map kt _)=>Ch M s kt [] | _=>false)
def Tz (M:Seat) (t:TypeId) (s:ES) (z:Z):Bool:=FH s && (match M.P.underlying t with
 | some (.map kt vt)=>Ch M s kt [] && (match (M.P.info? vt).bind (·.zero) with | some x=>z.chk x && ZG x == (z.v 0).isAgg | none=>false)
 | _=>false)
def WO (M:Seat) (op:Op) (lo:LO):Bool :=
 match lo with
 | .mv y=>(match op with | .move x=>A3 M x y | .assign x=>A3 M x y | _=>false)
 | .pick y1 y2 y3=>(match op with | .pick x1 x2 x3=>A3 M x1 y1 && A3 M x2 y2 && A3 M x3 y3 | _=>false)
 | .ari op' y1 y2=>(match op with | .binOp op _ x1 x2 _=>decide (op=op') && A3 M x1 y1 && A3 M x2 y2 | _=>false)
 | .eq neg c s y1 y2=>(match op with | .binOp op t x1 x2 _=>decide (op=if neg then .neq else .eql) && V9 M c s t x1 x2 && (HA s || N4 s) && A3 M x1 y1 && A3 M x2 y2 | _=>false)
 | .un op' y1=>(match op with | .unOp op _ x1=>decide (op=op') && A3 M x1 y1 | _=>false)
 | .conv k y1=>(match op with | .convert s d x1=>OX M s d k && A3 M x1 y1 | _=>false)
 | .alloc z=>(match op with | .alloc t=>VP M t z | _=>false)
 | .box y1=>(match op with | .box _ x1=>A3 M x1 y1 | _=>false)
 | .build z ps=>(match op with | .build t parts=>VP M t z && (z.v 0).isAgg && ps.all (fun q=>Hu [q.1]) && Ml M t parts ps | _=>false)
 | .bsl sz m' z ps=>(match op with | .buildSlice t m parts=>m == m' && ps.all (fun q=>Hu [q.1]) && sz == z.sz && decide (0 < z.sz) && decide (m * z.sz≤2 ^ 24) && Ts M t z parts ps | _=>false)
 | .load agg sz y1=>(match op with | .load t x1=>FD M t == some sz && Hw M t == some agg && A3 M x1 y1 | _=>false)
 | .store sz y1 y2=>(match op with | .store t x1 x2=>FD M t == some sz && A3 M x1 y1 && A3 M x2 y2 | _=>false)
 | .nilc y1=>(match op with | .nilCheck x1=>A3 M x1 y1 | _=>false)
 | .fadr off y1=>(match op with | .fieldAddr s x1 i=>PI M s i off && A3 M x1 y1 | _=>false)
 | .iarr m sz y1 y2=>(match op with | .indexAddr t x1 x2=>Kt M t m sz && A3 M x1 y1 && A3 M x2 y2 | _=>false)
 | .isl sz y1 y2=>(match op with | .indexAddr t x1 x2=>Mr M t sz && A3 M x1 y1 && A3 M x2 y2 | _=>false)
 | .idx m sz agg y1 y2=>(match op with | .index t x1 x2=>T0 M t m sz agg && A3 M x1 y1 && A3 M x2 y2 | _=>false)
 | .fld off sz agg y1=>(match op with | .field t x1 i=>Tg M t i off sz agg && A3 M x1 y1 | _=>false)
 | .slarr m sz y1 lo' hi'=>(match op with | .slice t x1 lo hi mx=>mx.isNone && Kt M t m sz && A3 M x1 y1 && La M lo lo' && La M hi hi' | _=>false)
 | .slsl sz y1 lo' hi'=>(match op with | .slice t x1 lo hi mx=>mx.isNone && Mr M t sz && A3 M x1 y1 && La M lo lo' && La M hi hi' | _=>false)
 | .s2a m sz y1=>(match op with | .sliceToArrayPointer t x1=>Kt M t m sz && A3 M x1 y1 | _=>false)
 | .mkif t' y1=>(match op with | .makeInterface t x1=>M.τ t' == t && Nv M t && A3 M x1 y1 | _=>false)
 | .ext y1 i'=>(match op with | .extract x1 i=>i == i' && A3 M x1 y1 | _=>false)
 | .len k y1=>(match op with | .call c=>V2 .len c.callee && Oc M c.argTypes k && (match c.args.toList with | [x1]=>A3 M x1 y1 | _=>false) | _=>false)
 | .app sz bytes y1 y2=>(match op with | .call c=>V2 .append c.callee && (match c.argTypes.toList with | [sT,xT]=>N6 M sT xT sz bytes | _=>false) && IF M c.args y1 y2 | _=>false)
 | .copy sz y1 y2=>(match op with | .call c=>V2 .copy c.callee && JY M c.argTypes sz && IF M c.args y1 y2 | _=>false)
 | .mm max y1 y2=>(match op with | .call c=>V2 (if max then .max else .min) c.callee && IF M c.args y1 y2 | _=>false)
 | .mksl sz bytes z y1 y2=>(match op with | .makeSlice t x1 x2=>PS M t sz bytes z && A3 M x1 y1 && A3 M x2 y2 | _=>false)
 | .mkfn f' ys=>(match op with | .makeFunc (.func f) first xs=>if f' < 2000000 then M.φ f' == f && decide (f' < 1000000) && first.isEmpty && xs.size == ys.length && (xs.toList.zip ys).all (fun q=>A3 M q.1 q.2) else M.φ (f' - 2000000) == f && xs.isEmpty && first.size == ys.length && (first.toList.zip ys).all (fun q=>A3 M q.1 q.2) | _=>false)
 | .mkmap _ _=>(match op with | .makeMap _ r=>r.isNone | _=>false)
 | .mlook s z ok y1 y2=>(match op with | .lookup t x1 x2 ok'=>ok' == ok && Tz M t s z && A3 M x1 y1 && A3 M x2 y2 | _=>false)
 | .mupd s y1 y2 y3=>(match op with | .mapUpdate t x1 x2 x3=>S4 M t s && A3 M x1 y1 && A3 M x2 y2 && A3 M x3 y3 | _=>false)
 | .sidx y1 y2=>(match op with | .index t x1 x2=>Sw M t && A3 M x1 y1 && A3 M x2 y2 | _=>false)
 | .add64 y1 y2 y3=>(match op with | .call c=>Kc M c.callee && Ad0 M c.args y1 y2 y3 | _=>false)
 | .mkmth k y=>(match op with | .makeFunc (.method nm) first xs=>KJ k == nm && decide (k < 1000000) && xs.isEmpty && (match first.toList with | [x]=>A3 M x y | _=>false) | _=>false)
 | .nilm k ts y=>(match op with | .nilCheck x=>decide (k < 1000000) && A3 M x y && ts.all (fun t=>QX M t k) | _=>false)
 | .rng y1=>(match op with | .range t x1=>(match M.P.underlying t with | some (.map _ _)=>true | _=>false) && A3 M x1 y1 | _=>false)
 | .nxt y1=>(match op with | .next x1 s=>!s && A3 M x1 y1 | _=>false)
 | .mclone y=>(match op with | .call c=>Ik M c.callee && (match c.args.toList with | [x]=>A3 M x y | _=>false) | _=>false)
 | .tas t y=>(match op with | .typeAssert x _ a ok=>!ok && M.τ t == a && Nv M a && A3 M x y | _=>false)
 | .b2s y=>(match op with | .convert s d x1=>RL M s d && A3 M x1 y | _=>false)
 | .mm4 max y1 y2 y3 y4=>(match op with | .call c=>V2 (if max then .max else .min) c.callee && WK M c.args y1 y2 y3 y4 | _=>false)
 | .nope=>true
variable {M:Seat}
theorem D9 {ρ:Operand→Value} {b:Builtin} {k:Call} {ty:TypeId} {w:World} (hb:k.callee = .builtin b) :
 Sem.run M.P (do let d ← resolve ρ k ty;invoke d.target d.args) w=(builtin b k.argTypes ty (k.args.map fun | .const _=>true | _=>false) (k.args.map ρ)).run M.P w:=by
 unfold resolve
 simp only [hb]
 rfl
theorem JW {b:Builtin} {k:Callee} (h:V2 b k=true):k = .builtin b:=by
 cases k <;> simp_all [V2]
theorem WU {xs:Array Operand} {y1 y2:X} (h:IF M xs y1 y2=true):∃ x1 x2,xs = #[x1,x2]∧A3 M x1 y1=true∧A3 M x2 y2=true:=by
 unfold IF at h
 split at h
 ·rename_i x1 x2 hx
  simp only [Bool.and_eq_true] at h
  exact ⟨x1,x2,by apply Array.ext';simpa using hx,h.1,h.2⟩
 ·cases h
theorem Abm {c:Ctx} {e:Env} {H:Hp} (hI:Inv M c e H) {x:Option Operand} {y:Option X} (h:La M x y=true):TB M e y:=by
 cases x <;> cases y <;> first | trivial | (cases h;done) | exact CJ hI h
section
variable {M:Seat} {c:Ctx} {e:Env} {H:Hp} {A:List V} {a:Act} (hI:Inv M c e H) (hA:FR e A a.tmps) {n:Nat}
include hI hA
theorem Aah {k:Call} {ty:TypeId} {kk:Nat} {y1:X} (hb:V2 .len k.callee=true) (h0:Oc M k.argTypes kk=true) (h1:(match k.args.toList with | [x1]=>A3 M x1 y1 | _=>false)=true) (hp:(Ae A H n (.len kk y1)).pre) :
 B6 M c e n (Ae A H n (.len kk y1)) (Sem.run M.P (do let d ← resolve a.eval k ty;invoke d.target d.args) e.w):=by
 unfold Oc at h0
 split at h0
 case h_2=>cases h0
 rename_i t hts
 split at h0
 case h_2=>cases h0
 rename_i d ht
 split at h1
 case h_2=>cases h1
 rename_i x1 hx
 have hx':k.args = #[x1]:=by apply Array.ext';simpa using hx
 rw [D9 (JW hb),hx',show (#[x1]:Array Operand).map a.eval = #[a.eval x1] from by simp]
 exact XQ hI hA ht hts h0 h1 (CJ hI h1) hp
theorem Ac8 (hn:¬ e.D n) (hk:c.k≤n) {k:Call} {ty:TypeId} {sz bytes:Nat} {y1 y2:X} (hb:V2 .append k.callee=true) (h0:(match k.argTypes.toList with | [sT,xT]=>N6 M sT xT sz bytes | _=>false)=true) (h1:IF M k.args y1 y2=true) (hp:(Ae A H n (.app sz bytes y1 y2)).pre) :
 B6 M c e n (Ae A H n (.app sz bytes y1 y2)) (Sem.run M.P (do let d ← resolve a.eval k ty;invoke d.target d.args) e.w):=by
 obtain ⟨x1,x2,hx,h2,h3⟩:=WU h1
 split at h0
 case h_2=>cases h0
 rename_i sT xT hts
 have hts':k.argTypes = #[sT,xT]:=by apply Array.ext';simpa using hts
 unfold N6 at h0
 split at h0
 case h_2=>cases h0
 rename_i el e2 hs hxT
 split at h0
 case h_2=>cases h0
 rename_i i hi
 simp only [Bool.and_eq_true,beq_iff_eq,decide_eq_true_eq] at h0
 obtain ⟨⟨⟨hsz,hby⟩,hbp⟩,h0⟩:=h0
 split at h0
 case h_2=>cases h0
 rename_i z hz
 rw [D9 (JW hb),hx,hts',show (#[x1,x2]:Array Operand).map a.eval = #[a.eval x1,a.eval x2] from by simp]
 exact W6 hI hA hn hk hs hxT hi hsz hby hz (by simpa using h0) hbp h2 (CJ hI h2) h3 (CJ hI h3) hp
theorem Wi {k:Call} {ty:TypeId} {sz:Nat} {y1 y2:X} (hb:V2 .copy k.callee=true) (h0:JY M k.argTypes sz=true) (h1:IF M k.args y1 y2=true) (hp:(Ae A H n (.copy sz y1 y2)).pre) :
 B6 M c e n (Ae A H n (.copy sz y1 y2)) (Sem.run M.P (do let d ← resolve a.eval k ty;invoke d.target d.args) e.w):=by
 obtain ⟨x1,x2,hx,h2,h3⟩:=WU h1
 unfold JY Mr at h0
 split at h0
 case h_2=>cases h0
 rename_i sT hts
 split at h0
 case h_2=>cases h0
 rename_i el hs
 rw [D9 (JW hb),hx,show (#[x1,x2]:Array Operand).map a.eval = #[a.eval x1,a.eval x2] from by simp]
 exact Uq (ty:=ty) hI hA hts hs (by simpa using h0) h2 (CJ hI h2) h3 (CJ hI h3) hp
theorem Agd {k:Call} {ty:TypeId} {max:Bool} {y1 y2:X} (hb:V2 (if max then .max else .min) k.callee=true) (h1:IF M k.args y1 y2=true) (hp:(Ae A H n (.mm max y1 y2)).pre) :
 B6 M c e n (Ae A H n (.mm max y1 y2)) (Sem.run M.P (do let d ← resolve a.eval k ty;invoke d.target d.args) e.w):=by
 obtain ⟨x1,x2,hx,h2,h3⟩:=WU h1
 have:=Acs (max:=max) (ts:=k.argTypes) (ty:=ty) hI hA h2 h3 hp
 rw [D9 (JW hb),hx,show (#[x1,x2]:Array Operand).map a.eval = #[a.eval x1,a.eval x2] from by simp]
 cases max <;> exact this
theorem Aaf {k:Call} {ty:TypeId} {max:Bool} {y1 y2 y3 y4:X} (hb:V2 (if max then .max else .min) k.callee=true) (h1:WK M k.args y1 y2 y3 y4=true) (hp:(Ae A H n (.mm4 max y1 y2 y3 y4)).pre) :
 B6 M c e n (Ae A H n (.mm4 max y1 y2 y3 y4)) (Sem.run M.P (do let d ← resolve a.eval k ty;invoke d.target d.args) e.w):=by
 unfold WK at h1
 split at h1
 case h_2=>cases h1
 rename_i x1 x2 x3 x4 hxs
 simp only [Bool.and_eq_true] at h1
 have hx:k.args = #[x1,x2,x3,x4]:=by apply Array.ext';simpa using hxs
 have:=Xe (max:=max) (ts:=k.argTypes) (ty:=ty) hI hA h1.1.1.1 h1.1.1.2 h1.1.2 h1.2 hp
 rw [D9 (JW hb),hx,show (#[x1,x2,x3,x4]:Array Operand).map a.eval = #[a.eval x1,a.eval x2,a.eval x3,a.eval x4] from by simp]
 cases max <;> exact this
theorem WQ {f:Nat} {first xs:Array Operand} {ys:List X} (hlt:¬ f < 2000000) (h0:xs.isEmpty=true) (h1:first.size=ys.length) (h2:∀ q ∈ first.toList.zip ys,A3 M q.1 q.2=true) (hp:(Ae A H n (.mkfn f ys)).pre) :
 B6 M c e n (Ae A H n (.mkfn f ys)) (Sem.run M.P (do pure (Next.value (← Instr.makeFunc (.func (M.φ (f - 2000000))) (first.map a.eval) (xs.map a.eval)))) e.w):=by
 have h0':xs = #[]:=by simpa using h0
 subst h0'
 exact Uw hI hA hlt ⟨h1,h2⟩ hp
theorem Yw {f:Nat} {first xs:Array Operand} {ys:List X} (hlt:f < 1000000) (h0:first.isEmpty=true) (h1:xs.size=ys.length) (h2:∀ q ∈ xs.toList.zip ys,A3 M q.1 q.2=true) (hp:(Ae A H n (.mkfn f ys)).pre) :
 B6 M c e n (Ae A H n (.mkfn f ys)) (Sem.run M.P (do pure (Next.value (← Instr.makeFunc (.func (M.φ f)) (first.map a.eval) (xs.map a.eval)))) e.w):=by
 have h0':first = #[]:=by simpa using h0
 subst h0'
 exact UU hI hA hlt ⟨h1,h2⟩ hp
end
theorem So {c:Ctx} {e:Env} {H:Hp} {A:List V} {a:Act} (hI:Inv M c e H) (hA:FR e A a.tmps) {n:Nat} (hn:¬ e.D n) (hk:c.k≤n) {o:Oper} {lo:LO} (h:WO M o.op lo=true) (hp:(Ae A H n lo).pre) :
 B6 M c e n (Ae A H n lo) (Sem.run M.P (execOp a.eval o) e.w):=by
 obtain ⟨dst,op,type,pos,after,guard⟩:=o
 simp only at h
 have hgk:∀ (place:Nat→Option (Nat × Nat)) (l:List (Nat × Operand)) (ps:List (Stp × Nat × X)),BY M place l ps=true→M2 M e ps:=by
  intro place l
  induction l with
  | nil => intro ps hps; cases ps with
    | nil=>trivial
    | cons q r=>simp [BY] at hps
  | cons p l ih => intro ps hps; cases ps with
    | nil=>trivial
    | cons q r =>
      obtain ⟨i,ox⟩:=p;obtain ⟨s,sz,xx⟩:=q
      simp only [BY,Bool.and_eq_true] at hps
      exact ⟨CJ hI hps.1.2,ih r hps.2⟩
 have hzt:∀ {t:TypeId} {z:Z},VP M t z=true→∃ x,(M.P.info? t).bind (·.zero)=some x∧z.chk x=true:=by
  intro t z hz
  unfold VP at hz
  split at hz
  ·rename_i x hx;exact ⟨x,hx,hz⟩
  ·cases hz
 have hat:∀ {t:TypeId} {m sz:Nat},Kt M t m sz=true→∃ el,M.P.underlying t=some (.array m el)∧FD M el=some sz:=by
  intro t m sz hz
  unfold Kt at hz
  split at hz
  ·rename_i m' el hx;simp only [Bool.and_eq_true,beq_iff_eq] at hz;obtain ⟨rfl,hz⟩:=hz;exact ⟨el,hx,hz⟩
  ·cases hz
 have hst:∀ {t:TypeId} {sz:Nat},Mr M t sz=true→∃ el,M.P.underlying t=some (.slice el)∧FD M el=some sz:=by
  intro t sz hz
  unfold Mr at hz
  split at hz
  ·rename_i el hx;exact ⟨el,hx,by simpa using hz⟩
  ·cases hz
 by_cases hany:lo = .nope
 ·subst hany;exact (show False from hp).elim
 cases lo <;> (try (exact absurd rfl hany)) <;> simp only [WO] at h <;> (try (cases h;done)) <;> split at h <;> (try (cases h;done)) <;> (try simp only [Lc6,beq_iff_eq,decide_eq_true_eq,Option.isNone_iff_eq_none] at h)
 ·exact SA hI hA h (CJ hI h)
 ·exact SA hI hA h (CJ hI h)
 ·obtain ⟨⟨h1,h2⟩,h3⟩:=h
  exact Us hI hA h1 (CJ hI h1) h2 (CJ hI h2) h3 (CJ hI h3) hp
 ·obtain ⟨⟨rfl,h1⟩,h2⟩:=h
  exact Wn hI hA h1 (CJ hI h1) h2 (CJ hI h2) hp
 ·obtain ⟨⟨⟨⟨rfl,h0⟩,ht⟩,h1⟩,h2⟩:=h
  exact Abh hI hA h0 (Agb ht) h1 (CJ hI h1) h2 (CJ hI h2) hp
 ·obtain ⟨rfl,h1⟩:=h
  exact Ada hI hA h1 (CJ hI h1) hp
 ·obtain ⟨h0,h1⟩:=h
  unfold OX at h0
  split at h0
  ·rename_i k' ds hd hs
   simp only [decide_eq_true_eq] at h0
   subst h0
   exact TF hI hA hd hs h1 (CJ hI h1) hp
  ·cases h0
 ·obtain ⟨x,hz,hc⟩:=hzt h
  exact R4 hI hn hk hz hc
 ·exact VL hI hA hn hk h (CJ hI h) hp
 ·obtain ⟨⟨⟨h0,h1⟩,h2⟩,h3⟩:=h
  obtain ⟨x,hz,hc⟩:=hzt h0
  unfold Ml at h3
  split at h3
  ·rename_i fs ht
   split at h3
   ·rename_i pl hpl
    exact Lh hI hA hz hc h1 ht hpl h3 (hgk _ _ _ h3) h2 hp
   ·cases h3
  ·rename_i m el ht
   split at h3
   ·rename_i sz hsz
    exact Lm hI hA hz hc h1 ht hsz h3 (hgk _ _ _ h3) h2 hp
   ·cases h3
  ·cases h3
 ·obtain ⟨⟨⟨⟨⟨rfl,h2⟩,rfl⟩,h4⟩,h5⟩,h6⟩:=h
  unfold Ts at h6
  split at h6
  ·rename_i el ht
   simp only [Bool.and_eq_true,beq_iff_eq] at h6
   obtain ⟨⟨h0,hsz⟩,h3⟩:=h6
   obtain ⟨x,hz,hc⟩:=hzt h0
   exact Y6 hI hA hn hk hz hc h4 ht hsz h5 h3 (hgk _ _ _ h3) h2 hp
  ·cases h6
 ·obtain ⟨⟨h1,h2⟩,h3⟩:=h
  exact U8 hI hA n h1 h2 h3 (CJ hI h3) hp
 ·obtain ⟨⟨h1,h2⟩,h3⟩:=h
  exact Rx hI hA n h1 h2 (CJ hI h2) h3 (CJ hI h3) hp
 ·exact TH hI hA rfl h (CJ hI h) hp
 ·obtain ⟨h0,h1⟩:=h
  unfold PI at h0
  split at h0
  case h_2=>cases h0
  rename_i fs hs
  split at h0
  case h_2=>cases h0
  rename_i f hf
  simp only [Bool.and_eq_true,beq_iff_eq] at h0
  obtain ⟨rfl,h0⟩:=h0
  split at h0
  case h_2=>cases h0
  rename_i sz hz
  exact Uu hI hA hs hf hz (by simpa using h0) h1 (CJ hI h1) hp
 ·obtain ⟨⟨h0,h1⟩,h2⟩:=h
  obtain ⟨el,ht,hz⟩:=hat h0
  exact UP hI hA ht hz h1 (CJ hI h1) h2 (CJ hI h2) hp
 ·obtain ⟨⟨h0,h1⟩,h2⟩:=h
  obtain ⟨el,ht,hz⟩:=hst h0
  exact X8 hI hA ht hz h1 (CJ hI h1) h2 (CJ hI h2) hp
 ·obtain ⟨⟨h0,h1⟩,h2⟩:=h
  unfold T0 at h0
  split at h0
  case h_2=>cases h0
  rename_i m' el ht
  simp only [Bool.and_eq_true,beq_iff_eq] at h0
  obtain ⟨⟨rfl,hz⟩,ha⟩:=h0
  exact Wq hI hA ht hz ha h1 (CJ hI h1) h2 (CJ hI h2) hp
 ·obtain ⟨h0,h1⟩:=h
  unfold Tg at h0
  split at h0
  case h_2=>cases h0
  rename_i fs ht
  split at h0
  case h_2=>cases h0
  rename_i f hf
  simp only [Bool.and_eq_true,beq_iff_eq] at h0
  obtain ⟨⟨rfl,hz⟩,ha⟩:=h0
  exact VU hI hA ht hf hz ha h1 (CJ hI h1) hp
 ·obtain ⟨⟨⟨⟨rfl,h0⟩,h1⟩,h2⟩,h3⟩:=h
  obtain ⟨el,ht,hz⟩:=hat h0
  exact QH hI hA ht hz h1 (CJ hI h1) h2 (Abm hI h2) h3 (Abm hI h3) hp
 ·obtain ⟨⟨⟨⟨rfl,h0⟩,h1⟩,h2⟩,h3⟩:=h
  obtain ⟨el,ht,hz⟩:=hst h0
  exact T7 hI hA ht hz h1 (CJ hI h1) h2 (Abm hI h2) h3 (Abm hI h3) hp
 ·obtain ⟨h0,h1⟩:=h
  obtain ⟨el,ht,hz⟩:=hat h0
  exact Wl hI hA ht h1 (CJ hI h1) hp
 ·obtain ⟨⟨rfl,h0⟩,h1⟩:=h
  unfold Nv at h0
  split at h0
  ·cases h0
  ·cases h0
  ·rename_i hd1 hd2
   cases hd:M.P.underlying (M.τ _) with
   | none=>exact absurd hd hd2
   | some d=>exact Vi hI hA hd (by cases d <;> first | rfl | exact absurd hd (hd1 _)) h1 (CJ hI h1) hp
 ·obtain ⟨rfl,h1⟩:=h
  exact YK hI hA h1 (CJ hI h1) hp
 ·exact Aah hI hA h.1.1 h.1.2 h.2 hp
 ·exact Ac8 hI hA hn hk h.1.1 h.1.2 h.2 hp
 ·exact Wi hI hA h.1.1 h.1.2 h.2 hp
 ·exact Agd hI hA h.1 h.2 hp
 ·obtain ⟨⟨h0,h1⟩,h2⟩:=h
  unfold PS at h0
  split at h0
  case h_2=>cases h0
  rename_i el ht
  split at h0
  case h_2=>cases h0
  rename_i i hi
  simp only [Bool.and_eq_true,beq_iff_eq,decide_eq_true_eq] at h0
  obtain ⟨⟨⟨⟨hsz,hby⟩,rfl⟩,hpos⟩,h0⟩:=h0
  split at h0
  case h_2=>cases h0
  rename_i x hz
  exact Ux hI hA hn hk hi hz h0 hpos ht hsz hby h1 (CJ hI h1) h2 (CJ hI h2) hp
 ·split at h
  ·simp only [Lc6,beq_iff_eq,decide_eq_true_eq] at h
   obtain ⟨⟨⟨⟨rfl,hlt⟩,h0⟩,h1⟩,h2⟩:=h
   exact Yw hI hA hlt h0 h1 h2 hp
  ·next hlt =>
   simp only [Lc6,beq_iff_eq,decide_eq_true_eq] at h
   obtain ⟨⟨⟨rfl,h0⟩,h1⟩,h2⟩:=h
   exact WQ hI hA hlt h0 h1 h2 hp
 ·rename_i t r
  cases r <;> simp at h
  exact Ra hI hn hk t _ _
 ·obtain ⟨⟨⟨rfl,h0⟩,h1⟩,h2⟩:=h
  unfold Tz at h0
  simp only [Bool.and_eq_true] at h0
  obtain ⟨hs,h0⟩:=h0
  split at h0
  case h_2=>cases h0
  rename_i kt vt ht
  simp only [Bool.and_eq_true] at h0
  obtain ⟨hc,h0⟩:=h0
  split at h0
  case h_2=>cases h0
  rename_i x hz
  simp only [Bool.and_eq_true,beq_iff_eq] at h0
  exact QU hI hA ht hs hc hz h0.1 h0.2 h1 (CJ hI h1) h2 (CJ hI h2) hp
 ·obtain ⟨⟨⟨h0,h1⟩,h2⟩,h3⟩:=h
  unfold S4 at h0
  simp only [Bool.and_eq_true] at h0
  obtain ⟨hs,h0⟩:=h0
  split at h0
  case h_2=>cases h0
  rename_i kt vt ht
  exact Vp hI hA ht hs h0 h1 (CJ hI h1) h2 (CJ hI h2) h3 (CJ hI h3) hp
 ·obtain ⟨⟨h0,h1⟩,h2⟩:=h
  exact UF hI hA h0 h1 (CJ hI h1) h2 (CJ hI h2) hp
 ·obtain ⟨h0,h1⟩:=h
  unfold Ad0 at h1
  split at h1
  case h_2=>cases h1
  rename_i kc _ x1 x2 x3 hxs
  simp only [Bool.and_eq_true] at h1
  exact Sp hI hA h0 (by apply Array.ext';simpa using hxs) h1.1.1 (CJ hI h1.1.1) h1.1.2 (CJ hI h1.1.2) h1.2 (CJ hI h1.2) hp
 ·obtain ⟨⟨⟨h0,h6⟩,h1⟩,h2⟩:=h
  split at h2
  case h_2=>cases h2
  rename_i x hfs
  have hfs':=Array.ext' (ys:=#[x]) hfs
  exact RK hI hA h0 h6 hfs' (by simpa using h1) h2 (CJ hI h2) hp
 ·exact Ua hI hA rfl h.1.1 h.1.2 (CJ hI h.1.2) (List.all_eq_true.2 h.2) hp
 ·obtain ⟨h0,h1⟩:=h
  split at h1
  case h_2=>cases h1
  rename_i x hxs
  exact OJ hI hA hn hk h0 (by apply Array.ext';simpa using hxs) h1 (CJ hI h1) hp
 ·obtain ⟨⟨⟨h0,h1⟩,h2⟩,h3⟩:=h
  unfold Nv at h2
  rename_i ok
  cases ok <;> simp at h0
  split at h2
  ·cases h2
  ·cases h2
  ·rename_i hd1 hd2
   cases hd:M.P.underlying _ with
   | none=>exact absurd hd hd2
   | some d=>exact Wz hI hA h1 hd (fun ms he=>hd1 ms (he ▸ hd)) h3 (CJ hI h3) hp
 ·exact Wr hI hA h.1 h.2 (CJ hI h.2) hp
 ·exact Aaf hI hA h.1 h.2 hp
 ·obtain ⟨h0,h1⟩:=h
  split at h0
  case h_2=>cases h0
  rename_i kt vt ht
  exact YI hI hA hn hk ht h1 (CJ hI h1) hp
 ·obtain ⟨h0,h1⟩:=h
  simp only [Bool.not_eq_true'] at h0
  subst h0
  exact Yp hI hA h1 (CJ hI h1) hp
end Mv
