/- A part. -/
import Derived.Test.YtlfkjfonpacelaaGreatDoorGE
set_option linter.all false
namespace Mv
open Go
variable {M:Seat}
theorem Lr {cs ys:List Value} {a b n:Nat} (hb:b + ys.length≤n) (ha:a + n≤cs.length):Ax cs a (Ax ((cs.drop a).take n) b ys)=Ax cs (a + b) ys:=by
 apply List.ext_getElem?
 intro i
 have hl:((cs.drop a).take n).length=n:=Fu
 have hsl:(Ax ((cs.drop a).take n) b ys).length=n:=by rw [AO Aa,hl]
 have e1:cs.take a ++ Ax ((cs.drop a).take n) b ys ++ cs.drop (a + n)=Ax cs a (Ax ((cs.drop a).take n) b ys):=by simp only [Ax,hsl,hl];congr 2;simp [hl];omega
 rw [← e1]
 simp only [Lbu,hsl]
 have ma:min a cs.length=a:=Aa
 rw [ma]
 by_cases h1:i < a
 ·have h2:i < a + n:=Aa
  simp only [h1,h2,if_true]
  simp only [Ax,Lbu]
  have h3:i < min (a + b) cs.length:=Aa
  have h4:i < min (a + b) cs.length + ys.length:=Aa
  simp [h1,h3,h4]
 ·by_cases h2:i < a + n
  ·simp only [h1,h2,C8]
   have:=E3 (cs:=cs) (ys:=ys) (o:=a + b) (a:=a) (n:=n) (b:=b) Aa rfl hb ha
   rw [← this]
   rw [List.getElem?_take,List.getElem?_drop]
   have h5:i - a < n:=Aa
   have h6:a + (i - a)=i:=Aa
   simp [h5,h6]
  ·simp only [h2,if_false]
   have:=Dt (cs:=cs) (ys:=ys) (o:=a + b) (a:=a + n) (n:=cs.length) Aa (.inr Aa)
   have h7:(Ax cs (a + b) ys).drop (a + n)=cs.drop (a + n):=by
    rw [List.take_of_length_le (by simp [AO (cs:=cs) (ys:=ys) (o:=a + b) Aa]),List.take_of_length_le BD] at this
    exact this
   have h8:=congrArg (fun l=>l[i - (a + n)]?) h7
   simp only [List.getElem?_drop] at h8 ⊢
   have h9:a + n + (i - (a + n))=i:=Aa
   rw [h9] at h8 ⊢
   exact h8.symm
theorem Abd {e:Env} {sz l n o:Nat} {f g:Nat→V} {cs new:List Value} (hf:R e (.ar sz l f) cs) (hg:R e (.ar sz n g) new) (hfit:o + n≤l) :
 R e (.ar sz l (fun i=>if o≤i∧i < o + n then g (i - o) else f i)) (Ax cs (o * sz) new):=by
 simp only [R] at hf hg
 obtain ⟨hf1,hf2⟩:=hf
 obtain ⟨hg1,hg2⟩:=hg
 have hle:(o + n) * sz≤l * sz:=Nat.mul_le_mul_right _ hfit
 rw [Nat.add_mul] at hle
 have hnew:o * sz + new.length≤cs.length:=Aa
 refine Hf (by rw [AO hnew];exact hf1) (fun i hi=>?_)
 by_cases hio:o≤i∧i < o + n
 ·simp only [hio,and_self,if_true]
  obtain ⟨q1,q2⟩:=hg2 (i - o) Aa
  refine ⟨q1,?_⟩
  have e2:i * sz=o * sz + (i - o) * sz:=by rw [← Nat.add_mul];congr 1;omega
  have hw:=Fe (sz:=sz) (show i - o < n by omega)
  have h3:=IF (cs:=cs) (ys:=new) (o:=o * sz) (n:=new.length) hnew rfl
  have h4:=AS (Ax cs (o * sz) new) (o * sz) new.length ((i - o) * sz) sz Aa
  rw [h3] at h4
  rw [e2,← h4];exact q2
 ·simp only [hio,if_false]
  obtain ⟨q1,q2⟩:=hf2 i hi
  refine ⟨q1,?_⟩
  have hd:i * sz + sz≤o * sz ∨ o * sz + new.length≤i * sz:=by
   rcases Nat.lt_or_ge i o with h | h
   ·left;exact Fe h
   ·right
    have:(o + n) * sz≤i * sz:=Nat.mul_le_mul_right _ Aa
    rw [Nat.add_mul] at this
    omega
  rw [Dt hnew hd];exact q2
theorem U8 {c:Ctx} {e:Env} {H:Hp} {A:List V} {a:Act} (hI:Inv M c e H) (hA:FR e A a.tmps) {n:Nat} {sT elT ty:TypeId} {ts:Array TypeId} {sz:Nat} {x1 x2:Operand} {y1 y2:X}
 (hts:ts[0]?=some sT) (hs:M.P.underlying sT=some (.slice elT)) (hz:Fx M elT=some sz)
 (hx:Ay M x1 y1=true) (hg:Dj M e y1) (hx2:Ay M x2 y2=true) (hg2:Dj M e y2) (hp:(Ac A H n (.copy sz y1 y2)).pre) :
 B4 M c e n (Ac A H n (.copy sz y1 y2)) (Sem.run M.P (do pure (Next.value (← Builtin.copy_ ts ty #[a.eval x1,a.eval x2]))) e.w):=by
 have hv:=Az hI.φ hA hx hg
 have hv2:=Az hI.φ hA hx2 hg2
 simp only [Ac] at hp ⊢
 split at hp
 ·rename_i id p o l sz'' sz' m g hy1 hy2
  rw [hy1] at hv
  split at hp
  case h_2=>exact hp.elim
  rename_i s l' f hgt
  obtain ⟨⟨rfl,rfl,rfl⟩,⟨k1,k2,k3,k3',k4⟩,hok⟩:=hp
  obtain ⟨hD,base,cap,hx',hbb,hlc,hbs⟩:=H3 hv
  rw [hx']
  obtain ⟨ax,cx,new,hxe,hR,hrun⟩:=Gb (M:=M) hI hv2 hy2 hok (n:=min m l) (Nat.min_le_left _ _)
  have hRl:new.length=min m l * s:=by simp only [R] at hR;exact hR.1
  obtain ⟨cells,el',hc,hsz',hRc⟩:=hI.cells k1 k2
  have hlen:(cells.toList.take (hget H id).size).length=(hget H id).size:=Fu
  obtain ⟨g1,g2⟩:=DT hRc hlen k3
  rw [hlen] at g1
  rw [hgt] at g1 g2
  have g1':As p + l' * s≤(hget H id).size:=g1
  have h1c:=JO (v:=.ar s (min m l) g) rfl hR
  have hol:(o + min m l) * s≤l' * s:=Nat.mul_le_mul_right _ Aa
  rw [Nat.add_mul] at hol
  have hpos:As p + o * s + new.length≤cells.size:=Aa
  have hst:=run_storeCells_at M.P (e.ρ id) (As p + o * s) el' new 0 cells e.w hc XG h1c
  simp only [Nat.add_zero] at hst
  have hnew:(cells.toList.take (As p + o * s) ++ new ++ cells.toList.drop (As p + o * s + new.length))=Ax cells.toList (As p + o * s) new:=rfl
  rw [hnew] at hst
  have hszn:(Ax cells.toList (As p + o * s) new).toArray.size=cells.size:=by simpa using AO (cs:=cells.toList) XG
  have hrange:=Abd g2 hR (o:=o) Aa
  have hsub:(Ax (((cells.toList.take (hget H id).size).drop (As p)).take (l' * s)) (o * s) new).length=l' * s:=by
   rw [AO]
   ·simp;omega
   ·simp;omega
  have Cs:=Pb (p:=p) (c:=hget H id) (y:=.ar s l' (fun i=>if o≤i∧i < o + min m l then g (i - o) else f i)) rfl hrange (by simpa [V.size] using hsub) hRc hlen k3' k3 (by rw [hgt];rfl)
  have hspl:Ax (cells.toList.take (hget H id).size) (As p) (Ax (((cells.toList.take (hget H id).size).drop (As p)).take (l' * s)) (o * s) new)=Ax (cells.toList.take (hget H id).size) (As p + o * s) new :=
   Lr Aa Aa
  have hset':R e (V.set (.ar s l' (fun i=>if o≤i∧i < o + min m l then g (i - o) else f i)) p (hget H id)) (Ax (cells.toList.take (hget H id).size) (As p + o * s) new):=by
   rw [← hspl];exact Cs
  have hzz:=V.set_size (.ar s l' (fun i=>if o≤i∧i < o + min m l then g (i - o) else f i)) p (hget H id) k3' k3 (by rw [hgt];rfl)
  have hzs:=V.set_solid (y:=.ar s l' (fun i=>if o≤i∧i < o + min m l then g (i - o) else f i)) rfl p (hget H id) k3' k3 k2
  have htk:(Ax cells.toList (As p + o * s) new).take (hget H id).size=Ax (cells.toList.take (hget H id).size) (As p + o * s) new:=by
   have:=E3 (cs:=cells.toList) (ys:=new) (o:=As p + o * s) (a:=0) (n:=(hget H id).size) (b:=As p + o * s) XG Aa Aa Fu
   simpa using this
  obtain ⟨r1,r2⟩:=hI.row k1 hc hszn hzs (by rw [hzz,hszn];exact hsz') (by rw [hzz,List.toList_toArray,htk];exact hset')
  have hempty:cap=0→new=[]:=fun hc0=>by
   have:min m l=0:=Aa
   rw [this] at hRl
   exact List.eq_nil_of_length_eq_zero (by simpa using hRl)
  have hself:cap=0→e.w.setRow (e.ρ id) (Ax cells.toList (As p + o * s) new).toArray=e.w:=fun hc0=>by
   have:(Ax cells.toList (As p + o * s) []).toArray=cells:=by simp [Ax]
   rw [hempty hc0,this]
   exact setRow_self _ _ _ _ _ hc
  refine ⟨.int .i64 (min m l:Nat),_,.inl (AI ?_),r1,r2,Bx _ _,fun _ h=>.inl h⟩
  have hrun':=hrun e.w rfl
  rw [hxe] at hrun' ⊢
  have hmin:Nat.min m l=min m l:=rfl
  cases base with
  | none =>
    have:=hself (hbb.resolve_right BD)
    simp only [Builtin.copy_,hts,Lbl,run_underlying hs,BE hz,hmin,hrun',goInt]
    rw [this]
  | some ad =>
    have hst1:(storeCells ad new).run M.P e.w = .ok () (e.w.setRow (e.ρ id) (Ax cells.toList (As p + o * s) new).toArray):=by
     by_cases hc0:cap=0
     ·rw [hself hc0,hempty hc0];simp [storeCells]
     ·have hb:=hbb.resolve_left hc0
      simp only [Option.some.injEq] at hb
      subst hb
      exact hst
    simp only [Builtin.copy_,hts,Lbl,run_underlying hs,BE hz,hmin,hrun',goInt,List.toList_toArray,hst1]
 ·rename_i id p o l sz'' hy1 hy2
  rw [hy1] at hv
  have hp:(match y2.ev A with | .nils=>True | _=>False):=hp
  split at hp
  case h_2=>exact hp.elim
  rename_i hy3
  rw [hy3] at hv2
  obtain ⟨hD,base,cap,hx',_⟩:=H3 hv
  have hn:a.eval x2 = .slice none 0 0:=by simpa [RV,RS,V.isAgg,R] using hv2
  refine Ai hI (x:=.int .i64 0) (AI ?_) rfl (Bx _ _)
  rw [hx',hn]
  have h0:Nat.min 0 l=0:=Nat.zero_min l
  have hf:∀ w,(Builtin.firstCells sz 0 (.slice none 0 0)).run M.P w = .ok #[] w:=fun w=>by simp [Builtin.firstCells]
  cases base with
  | none=>simp only [Builtin.copy_,hts,Lbl,run_underlying hs,BE hz,h0,hf,goInt];rfl
  | some ad =>
    have hst1:(storeCells ad []).run M.P e.w = .ok () e.w:=by simp [storeCells]
    simp only [Builtin.copy_,hts,Lbl,run_underlying hs,BE hz,h0,hf,goInt,hst1];rfl
 ·exact hp.elim
theorem NZ (cs:Array Value) (v:Array Value) (off:Nat) (h:off + v.size≤cs.size) :
 v.zipIdx.foldl (fun cs (x,j)=>cs.setIfInBounds (off + j) x) cs=(Ax cs.toList off v.toList).toArray:=by
 have key:∀ (l:List Value) (k:Nat) (cs:Array Value),off + k + l.length≤cs.size→(l.zipIdx k).foldl (fun cs (x,j)=>cs.setIfInBounds (off + j) x) cs=(Ax cs.toList (off + k) l).toArray:=by
  intro l
  induction l with
  | nil=>intro k cs _;simp [Ax]
  | cons x l ih =>
    intro k cs hk
    simp only [List.length_cons] at hk
    simp only [List.zipIdx_cons,List.foldl_cons]
    rw [ih (k + 1) _ Fu]
    congr 1
    simp only [Ax,Array.toList_setIfInBounds]
    have e1:off + (k + 1)=off + k + 1:=Aa
    rw [e1]
    have e2:(cs.toList.set (off + k) x).take (off + k + 1)=cs.toList.take (off + k) ++ [x]:=by
     rw [List.take_set,List.take_add_one]
     have:(cs.toList.take (off + k)).length=off + k:=Fu
     rw [List.set_append_right _ _ Aa]
     have h3:off + k < cs.toList.length:=Fu
     simp [this,List.getElem?_eq_getElem h3]
    have e3:(cs.toList.set (off + k) x).drop (off + k + 1 + l.length)=cs.toList.drop (off + k + 1 + l.length):=by
     rw [List.drop_set];simp;omega
    rw [e2,e3]
    simp [Nat.add_comm 1,Nat.add_left_comm,Nat.add_assoc]
 have:=key v.toList 0 cs Lq
 simp only [Nat.add_zero] at this
 rw [← this,← Array.foldl_toList]
 simp [Array.toList_zipIdx]
def Cb (M:Seat) (place:Nat→Option (Nat × Nat)):List (Nat × Operand)→List (Stp × Nat × X)→Bool
 | [],[]=>true
 | (i,o) :: r,(s,sz,x) :: r'=>(match place i with | some (off,n)=>off == s.off && n == sz | none=>false) && Ay M o x && Cb M place r r'
 | _,_=>false
def LH (M:Seat) (e:Env):List (Stp × Nat × X)→Prop
 | []=>True
 | (_,_,x) :: r=>Dj M e x∧LH M e r
theorem MF {e:Env} (hφ:e.φ=M.φ) {A:List V} {a:Act} (hA:FR e A a.tmps) (place:Nat→Option (Nat × Nat)):∀ (parts:List (Nat × Operand)) (ps:List (Stp × Nat × X)) (c:V) (cs:Array Value),
 Cb M place parts ps=true→LH M e ps→R e c cs.toList→cs.size=c.size→c.solid=true→(∀ q ∈ ps,GZ [q.1]=true)→BB c A ps →
 ∃ cs',Instr.fill place cs (parts.map fun q=>(q.1,a.eval q.2))=some cs'∧R e (Cy c A ps) cs'.toList∧cs'.size=(Cy c A ps).size∧(Cy c A ps).solid=true∧cs'.size=cs.size
 | [],[],c,cs,_,_,hR,hl,hs,_,_=>⟨cs,rfl,hR,hl,hs,rfl⟩
 | (i, o) :: r, (s, sz, x) :: r', c, cs, hc, hg, hR, hl, hs, hn, hok => by
   simp only [Cb,Bool.and_eq_true] at hc
   obtain ⟨⟨hp,hx⟩,hr⟩:=hc
   simp only [BB] at hok
   obtain ⟨⟨h1,h2,h3,h4⟩,hok'⟩:=hok
   split at hp
   case h_2=>cases hp
   rename_i off n hpl
   simp only [Bool.and_eq_true,beq_iff_eq] at hp
   obtain ⟨rfl,rfl⟩:=hp
   have hv:=Az hφ hA hx hg.1
   rw [AR h1] at hv
   have hRy:=JU h1 hv
   have hyl:=LB h1 hRy
   have hnr:=hn _ (List.mem_cons_self)
   obtain ⟨g1,_⟩:=DT hR OC h2
   simp only [As,Nat.add_zero] at g1
   have hsz:(a.eval o).cells.size=n:=by
    have:(a.eval o).cells.toList.length=(a.eval o).cells.size:=BD
    omega
   have hfit:s.off + (a.eval o).cells.size≤cs.size:=by
    have:cs.toList.length=cs.size:=BD
    omega
   have h34:(x.ev A).size=(c.get [s]).size:=h3.trans h4.symm
   have Cs:=Pb h1 hRy hyl hR OC hnr h2 h34
   simp only [As,Nat.add_zero] at Cs
   have hzz:=V.set_size (x.ev A) [s] c hnr h2 h34
   have hzs:=V.set_solid h1 [s] c hnr h2 hs
   have hlen:(Ax cs.toList s.off (a.eval o).cells.toList).length=cs.toList.length:=AO (by simpa using hfit)
   obtain ⟨cs',k1,k2,k3,k4,k5⟩:=MF hφ hA place r r' (V.set (x.ev A) [s] c) (Ax cs.toList s.off (a.eval o).cells.toList).toArray hr hg.2 (by simpa using Cs) (by rw [hzz];simpa [hl] using hlen) hzs (fun q hq=>hn q (List.mem_cons_of_mem _ hq)) hok'
   refine ⟨cs',?_,k2,k3,k4,by rw [k5];simpa using hlen⟩
   simp only [List.map_cons,Instr.fill,hpl]
   have hcond:(decide ((a.eval o).cells.size ≠ n) || decide (s.off + (a.eval o).cells.size > cs.size))=false:=by
    simp [hsz];omega
   simp only [hcond,RW]
   rw [NZ _ _ _ hfit]
   exact k1
 | [],_ :: _,_,_,hc,_,_,_,_,_,_=>by simp [Cb] at hc
 | _ :: _,[],_,_,hc,_,_,_,_,_,_=>by simp [Cb] at hc
theorem Zm {y:V} {s:Stp} {c:V} (hn:GZ [s]=true) (hk:c.ok [s]):(V.set y [s] c).isAgg=true:=by
 cases s with
 | f o=>cases c <;> simp only [V.ok] at hk;rfl
 | i sz ix=>cases c <;> simp only [V.ok] at hk;rfl
 | r sz o n=>simp [GZ] at hn
theorem GL (A:List V):∀ (l:List (Stp × Nat × X)) (c:V),c.isAgg=true→(∀ q ∈ l,GZ [q.1]=true)→BB c A l→(Cy c A l).isAgg=true
 | [],_,hc,_,_=>hc
 | (s, sz, x) :: l, c, _, hn, hok => by
   simp only [BB] at hok
   exact GL A l _ (Zm (hn _ List.mem_cons_self) hok.1.2.1) (fun q hq=>hn q (List.mem_cons_of_mem _ hq)) hok.2
def sfs (M:Seat):List Field→Option (List (Nat × Nat))
 | []=>some []
 | f :: r => match Fx M f.type, sfs M r with
   | some n,some l=>some ((f.offset,n) :: l)
   | _,_=>none
theorem Ky (w:World):∀ (l:List Field) (pl:List (Nat × Nat)),sfs M l=some pl→(l.mapM (m:=Sem) fun f=>do pure (f.offset,← Go.sizeOf f.type)).run M.P w = .ok pl w
 | [],pl,h=>by simp only [sfs,Option.some.injEq] at h;subst h;rfl
 | f :: r, pl, h => by
   simp only [sfs] at h
   split at h
   case h_2=>cases h
   rename_i n l' h1 h2
   simp only [Option.some.injEq] at h
   subst h
   have ih:=Ky w r l' h2
   simp only [List.mapM_cons,Fq,BE h1,ih]
theorem NQ {w:World} {fs:Array Field} {pl:List (Nat × Nat)} (h:sfs M fs.toList=some pl):(fs.mapM (m:=Sem) fun f=>do pure (f.offset,← Go.sizeOf f.type)).run M.P w = .ok pl.toArray w:=by
 rw [Array.mapM_eq_mapM_toList,Sem.run_map,Ky w _ _ h]
 rfl
theorem KQ {c:Ctx} {e:Env} {H:Hp} {A:List V} {a:Act} (hI:Inv M c e H) (hA:FR e A a.tmps) {n:Nat} {t:TypeId} {z:Z} {x:Value} {fs:Array Field} {pl:List (Nat × Nat)} {parts:Array (Nat × Operand)} {ps:List (Stp × Nat × X)}
 (hz:(M.P.info? t).bind (·.zero)=some x) (hzc:z.chk x=true) (hagg:(z.v 0).isAgg=true) (ht:M.P.underlying t=some (.struct fs)) (hpl:sfs M fs.toList=some pl) (hps:Cb M (fun i=>pl[i]?) parts.toList ps=true) (hg:LH M e ps) (hn:∀ q ∈ ps,GZ [q.1]=true)
 (hp:(Ac A H n (.build z ps)).pre) :
 B4 M c e n (Ac A H n (.build z ps)) (Sem.run M.P (do pure (Next.value (← Instr.build t (parts.map fun (i,x)=>(i,a.eval x))))) e.w):=by
 obtain ⟨h1,h2,h3,h4⟩:=Z.chk_R e hzc
 simp only [Ac] at hp ⊢
 obtain ⟨cs',k1,k2,k3,k4,k5⟩:=MF hI.φ hA (fun i=>pl[i]?) parts.toList ps (z.v 0) x.cells hps hg h2 (by rw [h1,h4]) h3 hn hp
 have haggb:(Cy (z.v 0) A ps).isAgg=true:=GL A ps _ hagg hn hp
 refine Ai hI (x:=.agg cs') (AI ?_) rfl ?_
 ·simp only [Instr.build,Sa,F6 hz,run_underlying ht,NQ hpl]
  have hm:(parts.map fun (i,x)=>(i,a.eval x)).toList=parts.toList.map fun q=>(q.1,a.eval q.2):=BD
  have hpf:(fun x=>pl.toArray[x]?)=fun i:Nat=>pl[i]?:=by funext i;simp
  simp only [hm,hpf,k1,Sem.run_pure]
 ·rw [AR k4]
  unfold RS
  rw [haggb]
  exact ⟨cs'.toList,by simp,k2⟩
theorem KV {c:Ctx} {e:Env} {H:Hp} {A:List V} {a:Act} (hI:Inv M c e H) (hA:FR e A a.tmps) {n:Nat} {t el:TypeId} {m sz:Nat} {z:Z} {x:Value} {parts:Array (Nat × Operand)} {ps:List (Stp × Nat × X)}
 (hz:(M.P.info? t).bind (·.zero)=some x) (hzc:z.chk x=true) (hagg:(z.v 0).isAgg=true) (ht:M.P.underlying t=some (.array m el)) (hsz:Fx M el=some sz) (hps:Cb M (fun i=>some (i * sz,sz)) parts.toList ps=true) (hg:LH M e ps) (hn:∀ q ∈ ps,GZ [q.1]=true)
 (hp:(Ac A H n (.build z ps)).pre) :
 B4 M c e n (Ac A H n (.build z ps)) (Sem.run M.P (do pure (Next.value (← Instr.build t (parts.map fun (i,x)=>(i,a.eval x))))) e.w):=by
 obtain ⟨h1,h2,h3,h4⟩:=Z.chk_R e hzc
 simp only [Ac] at hp ⊢
 obtain ⟨cs',k1,k2,k3,k4,k5⟩:=MF hI.φ hA (fun i=>some (i * sz,sz)) parts.toList ps (z.v 0) x.cells hps hg h2 (by rw [h1,h4]) h3 hn hp
 have haggb:(Cy (z.v 0) A ps).isAgg=true:=GL A ps _ hagg hn hp
 refine Ai hI (x:=.agg cs') (AI ?_) rfl ?_
 ·simp only [Instr.build,Sa,F6 hz,run_underlying ht,BE hsz]
  have hm:(parts.map fun (i,x)=>(i,a.eval x)).toList=parts.toList.map fun q=>(q.1,a.eval q.2):=BD
  simp only [hm,k1,Sem.run_pure]
 ·rw [AR k4]
  unfold RS
  rw [haggb]
  exact ⟨cs'.toList,by simp,k2⟩
theorem S2 {e:Env} {z:Z} {x:Value} (hzc:z.chk x=true) (hpos:0 < z.sz) (m:Nat):R e (.ar z.sz m (fun _=>z.v 0)) ((Array.range (m * z.sz)).map (x.cells[· % x.cells.size]!)).toList:=by
 obtain ⟨h1,h2,h3,h4⟩:=Z.chk_R e hzc
 refine Hf BD (fun i hi=>⟨⟨h3,h4⟩,?_⟩)
 have:((((Array.range (m * z.sz)).map (x.cells[· % x.cells.size]!)).toList.drop (i * z.sz)).take z.sz)=x.cells.toList:=by
  apply List.ext_getElem?
  intro k
  rw [List.getElem?_take,List.getElem?_drop]
  by_cases hk:k < z.sz
  ·have hb:=Fe (sz:=z.sz) hi
   have hlt:i * z.sz + k < m * z.sz:=Aa
   have hmod:(i * z.sz + k) % z.sz=k:=by rw [Nat.mul_comm,Nat.mul_add_mod,Nat.mod_eq_of_lt hk]
   have hkx:k < x.cells.size:=Aa
   simp [hk,hlt,h1,hmod,hkx]
  ·simp only [hk,if_false]
   rw [List.getElem?_eq_none]
   simp [h1];omega
 rw [this];exact h2
theorem XO {c:Ctx} {e:Env} {H:Hp} {A:List V} {a:Act} (hI:Inv M c e H) (hA:FR e A a.tmps) {n:Nat} (hnD:¬ e.D n) (hk:c.k≤n) {t el:TypeId} {m:Nat} {z:Z} {x:Value} {parts:Array (Nat × Operand)} {ps:List (Stp × Nat × X)}
 (hz:(M.P.info? el).bind (·.zero)=some x) (hzc:z.chk x=true) (hpos:0 < z.sz) (ht:M.P.underlying t=some (.slice el)) (hsz:Fx M el=some z.sz) (hlim:m * z.sz≤2 ^ 24) (hps:Cb M (fun i=>some (i * z.sz,z.sz)) parts.toList ps=true) (hg:LH M e ps) (hn:∀ q ∈ ps,GZ [q.1]=true)
 (hp:(Ac A H n (.bsl z.sz m z ps)).pre) :
 B4 M c e n (Ac A H n (.bsl z.sz m z ps)) (Sem.run M.P (do pure (Next.value (← Instr.buildSlice t m (parts.map fun (i,x)=>(i,a.eval x))))) e.w):=by
 simp only [Ac] at hp ⊢
 have hz0:=S2 (e:=e) hzc hpos m
 obtain ⟨h1,h2,h3,h4⟩:=Z.chk_R e hzc
 obtain ⟨cs',k1,k2,k3,k4,k5⟩:=MF hI.φ hA (fun i=>some (i * z.sz,z.sz)) parts.toList ps (.ar z.sz m (fun _=>z.v 0)) ((Array.range (m * z.sz)).map (x.cells[· % x.cells.size]!)) hps hg hz0 (by simp [V.size]) rfl hn hp
 obtain ⟨r1,r2,r3,r4,r5⟩:=hI.newCells hnD hk (cells:=cs') (el:=el) k4 Aa (by rw [List.take_of_length_le Fu];exact k2)
 refine ⟨.slice (some ⟨e.w.heap.size,0,none⟩) m m,_,.inl (AI ?_),r1,r2,?_,Gr⟩
 ·have hnl:¬ m * z.sz > 2 ^ 24:=Aa
  have hm:(parts.map fun (i,x)=>(i,a.eval x)).toList=parts.toList.map fun q=>(q.1,a.eval q.2):=BD
  simp only [Instr.buildSlice,Fq,run_underlying ht,BE hsz,hnl,if_false]
  by_cases h0:m * z.sz=0
  ·rw [h0] at k1
   simp only [h0,if_true]
   rw [Sem.run_bind,Sem.run_pure,Result.andThen_ok]
   have e0:(Array.range 0).map (fun i=>(#[]:Array Value)[i % (#[]:Array Value).size]!)=(Array.range 0).map (fun i=>x.cells[i % x.cells.size]!):=BD
   simp only [hm]
   rw [e0,k1]
   rfl
  ·simp only [h0,if_false,Fq,F6 hz,hm,k1,newRow,run_newObj]
   rfl
 ·refine EQ r4 (.inr Aca) (Nat.le_refl _) ?_
  rw [r3,r5,k5]
  simp [As]
theorem TU {c:Ctx} {e:Env} {H:Hp} {A:List V} {a:Act} (hI:Inv M c e H) (hA:FR e A a.tmps) {n:Nat} (hnD:¬ e.D n) (hk:c.k≤n) {t el:TypeId} {bytes:Nat} {i:TypeInfo} {z:Z} {x:Value} {x1 x2:Operand} {y1 y2:X}
 (hi:M.P.info? el=some i) (hz:i.zero=some x) (hzc:z.chk x=true) (hpos:0 < z.sz) (ht:M.P.underlying t=some (.slice el)) (hsz:i.size=z.sz) (hby:i.bytes=bytes)
 (hx:Ay M x1 y1=true) (hg:Dj M e y1) (hx2:Ay M x2 y2=true) (hg2:Dj M e y2) (hp:(Ac A H n (.mksl z.sz bytes z y1 y2)).pre) :
 B4 M c e n (Ac A H n (.mksl z.sz bytes z y1 y2)) (Sem.run M.P (do pure (Next.value (← Instr.makeSlice t (a.eval x1) (a.eval x2)))) e.w):=by
 have hv:=Az hI.φ hA hx hg
 have hv2:=Az hI.φ hA hx2 hg2
 simp only [Ac] at hp ⊢
 split at hp
 case h_2=>exact hp.elim
 rename_i k l k' cp hy1 hy2
 rw [hy1] at hv
 rw [hy2] at hv2
 obtain ⟨rfl,rfl,h0,hle,hroom,hlim⟩:=hp
 rw [BK hv,BK hv2]
 have hz0:=S2 (e:=e) hzc hpos cp.toNat
 obtain ⟨h1,h2,h3,h4⟩:=Z.chk_R e hzc
 obtain ⟨r1,r2,r3,r4,r5⟩:=hI.newCells hnD hk (cells:=(Array.range (cp.toNat * z.sz)).map (x.cells[· % x.cells.size]!)) (el:=el) (z:=.ar z.sz cp.toNat (fun _=>z.v 0)) rfl (by simp [V.size]) (by rw [List.take_of_length_le (by simp [V.size])];exact hz0)
 refine ⟨.slice (some ⟨e.w.heap.size,0,none⟩) l.toNat cp.toNat,_,.inl (AI ?_),r1,r2,?_,Gr⟩
 ·have p47:(2:Int) ^ 47=140737488355328:=Am
  have p48:(2:Int) ^ 48=281474976710656:=Am
  have w1:IntKind.i64.wrap l=l:=by
   unfold IntKind.wrap IntKind.bits IntKind.signed
   have:(2:Int) ^ 64=18446744073709551616:=Am
   have:(2:Int) ^ (64 - 1)=9223372036854775808:=Am
   simp;omega
  have w2:IntKind.i64.wrap cp=cp:=by
   unfold IntKind.wrap IntKind.bits IntKind.signed
   have:(2:Int) ^ 64=18446744073709551616:=Am
   have:(2:Int) ^ (64 - 1)=9223372036854775808:=Am
   simp;omega
  have hcond:((decide (cp < 0) || decide ((i.bytes:Int) * cp > 2 ^ 48)) || decide (l < 0) || decide (l > cp))=false:=by
   have hb:(i.bytes:Int) * cp≤2 ^ 47:=by rw [hby,Int.mul_comm];exact hroom
   simp only [Bool.or_eq_false_iff,decide_eq_false_iff_not]
   omega
  simp only [Instr.makeSlice,Fq,run_underlying ht,asInt,asIntOf,typeInfo,run_program,hi,w1,w2]
  have hcond':¬ ((decide (cp < 0) || decide ((i.bytes:Int) * cp > 2 ^ 48) || decide (l < 0) || decide (l > cp))=true):=by simp only [hcond];simp
  rw [if_neg hcond']
  have hs':Fx M el=some z.sz:=by simp [Fx,hi,hsz]
  simp only [Sa,run_askRoom,BE hs']
  by_cases hc0:cp.toNat * z.sz=0
  ·simp only [hc0,if_true,Fq,newRow,run_newObj]
   have e0:(Array.range 0).map (fun i=>(#[]:Array Value)[i % (#[]:Array Value).size]!)=(Array.range 0).map (fun i=>x.cells[i % x.cells.size]!):=BD
   rw [e0]
   rfl
  ·simp only [hc0,if_false,Fq,zeroValue,typeInfo,run_program,hi,hz,newRow,run_newObj]
   rfl
 ·refine EQ r4 (.inr Aca) Aa ?_
  rw [r3,r5]
  simp [As]
end Mv
