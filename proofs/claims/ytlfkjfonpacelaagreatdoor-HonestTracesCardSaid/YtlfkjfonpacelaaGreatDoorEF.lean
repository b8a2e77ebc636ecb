/- A part. -/
import Derived.Test.YtlfkjfonpacelaaGreatDoorEE
set_option linter.all false
namespace Mv
open Go
variable {M:Seat}
theorem Lq {cs ys:List Value} {a b n:Nat} (hb:b + ys.length≤n) (ha:a + n≤cs.length):Az cs a (Az ((cs.drop a).take n) b ys)=Az cs (a + b) ys:=by
 apply List.ext_getElem?
 intro i
 have hl:((cs.drop a).take n).length=n:=EP
 have hsl:(Az ((cs.drop a).take n) b ys).length=n:=by rw [AO Aa,hl]
 have e1:cs.take a ++ Az ((cs.drop a).take n) b ys ++ cs.drop (a + n)=Az cs a (Az ((cs.drop a).take n) b ys):=by simp only [Az,hsl,hl];congr 2;simp [hl];omega
 rw [← e1]
 simp only [Lbu,hsl]
 have ma:min a cs.length=a:=Aa
 rw [ma]
 by_cases h1:i < a
 ·have h2:i < a + n:=Aa
  simp only [h1,h2,if_true]
  simp only [Az,Lbu]
  have h3:i < min (a + b) cs.length:=Aa
  have h4:i < min (a + b) cs.length + ys.length:=Aa
  simp [h1,h3,h4]
 ·by_cases h2:i < a + n
  ·simp only [h1,h2,C2]
   have:=EK (cs:=cs) (ys:=ys) (o:=a + b) (a:=a) (n:=n) (b:=b) Aa rfl hb ha
   rw [← this]
   rw [List.getElem?_take,List.getElem?_drop]
   have h5:i - a < n:=Aa
   have h6:a + (i - a)=i:=Aa
   simp [h5,h6]
  ·simp only [h2,if_false]
   have:=D1 (cs:=cs) (ys:=ys) (o:=a + b) (a:=a + n) (n:=cs.length) Aa (.inr Aa)
   have h7:(Az cs (a + b) ys).drop (a + n)=cs.drop (a + n):=by
    rw [List.take_of_length_le (by simp [AO (cs:=cs) (ys:=ys) (o:=a + b) Aa]),List.take_of_length_le B1] at this
    exact this
   have h8:=congrArg (fun l=>l[i - (a + n)]?) h7
   simp only [List.getElem?_drop] at h8 ⊢
   have h9:a + n + (i - (a + n))=i:=Aa
   rw [h9] at h8 ⊢
   exact h8.symm
theorem ZJ {e:Env} {sz l n o:Nat} {f g:Nat→V} {cs new:List Value} (hf:R e (.ar sz l f) cs) (hg:R e (.ar sz n g) new) (hfit:o + n≤l) :
 R e (.ar sz l (fun i=>if o≤i∧i < o + n then g (i - o) else f i)) (Az cs (o * sz) new):=by
 simp only [R] at hf hg
 obtain ⟨hf1,hf2⟩:=hf
 obtain ⟨hg1,hg2⟩:=hg
 have hle:(o + n) * sz≤l * sz:=Nat.mul_le_mul_right _ hfit
 rw [Nat.add_mul] at hle
 have hnew:o * sz + new.length≤cs.length:=Aa
 refine HD (by rw [AO hnew];exact hf1) (fun i hi=>?_)
 by_cases hio:o≤i∧i < o + n
 ·simp only [hio,and_self,if_true]
  obtain ⟨q1,q2⟩:=hg2 (i - o) Aa
  refine ⟨q1,?_⟩
  have e2:i * sz=o * sz + (i - o) * sz:=by rw [← Nat.add_mul];congr 1;omega
  have hw:=EX (sz:=sz) (show i - o < n by omega)
  have h3:=IH (cs:=cs) (ys:=new) (o:=o * sz) (n:=new.length) hnew rfl
  have h4:=AS (Az cs (o * sz) new) (o * sz) new.length ((i - o) * sz) sz Aa
  rw [h3] at h4
  rw [e2,← h4];exact q2
 ·simp only [hio,if_false]
  obtain ⟨q1,q2⟩:=hf2 i hi
  refine ⟨q1,?_⟩
  have hd:i * sz + sz≤o * sz ∨ o * sz + new.length≤i * sz:=by
   rcases Nat.lt_or_ge i o with h | h
   ·left;exact EX h
   ·right
    have:(o + n) * sz≤i * sz:=Nat.mul_le_mul_right _ Aa
    rw [Nat.add_mul] at this
    omega
  rw [D1 hnew hd];exact q2
theorem Uq {c:Ctx} {e:Env} {H:Hp} {A:List V} {a:Act} (hI:Inv M c e H) (hA:FR e A a.tmps) {n:Nat} {sT elT ty:TypeId} {ts:Array TypeId} {sz:Nat} {x1 x2:Operand} {y1 y2:X}
 (hts:ts[0]?=some sT) (hs:M.P.underlying sT=some (.slice elT)) (hz:FD M elT=some sz)
 (hx:A3 M x1 y1=true) (hg:Do M e y1) (hx2:A3 M x2 y2=true) (hg2:Do M e y2) (hp:(Ae A H n (.copy sz y1 y2)).pre) :
 B6 M c e n (Ae A H n (.copy sz y1 y2)) (Sem.run M.P (do pure (Next.value (← Builtin.copy_ ts ty #[a.eval x1,a.eval x2]))) e.w):=by
 have hv:=A4 hI.φ hA hx hg
 have hv2:=A4 hI.φ hA hx2 hg2
 simp only [Ae] at hp ⊢
 split at hp
 ·rename_i id p o l sz'' sz' m g hy1 hy2
  rw [hy1] at hv
  split at hp
  case h_2=>exact hp.elim
  rename_i s l' f hgt
  obtain ⟨⟨rfl,rfl,rfl⟩,⟨k1,k2,k3,k3',k4⟩,hok⟩:=hp
  obtain ⟨hD,base,cap,hx',hbb,hlc,hbs⟩:=HI hv
  rw [hx']
  obtain ⟨ax,cx,new,hxe,hR,hrun⟩:=Gh (M:=M) hI hv2 hy2 hok (n:=min m l) (Nat.min_le_left _ _)
  have hRl:new.length=min m l * s:=by simp only [R] at hR;exact hR.1
  obtain ⟨cells,el',hc,hsz',hRc⟩:=hI.cells k1 k2
  have hlen:(cells.toList.take (hget H id).size).length=(hget H id).size:=EP
  obtain ⟨g1,g2⟩:=Em hRc hlen k3
  rw [hlen] at g1
  rw [hgt] at g1 g2
  have g1':Aq p + l' * s≤(hget H id).size:=g1
  have h1c:=KQ (v:=.ar s (min m l) g) rfl hR
  have hol:(o + min m l) * s≤l' * s:=Nat.mul_le_mul_right _ Aa
  rw [Nat.add_mul] at hol
  have hpos:Aq p + o * s + new.length≤cells.size:=Aa
  have hst:=run_storeCells_at M.P (e.ρ id) (Aq p + o * s) el' new 0 cells e.w hc VH h1c
  simp only [Nat.add_zero] at hst
  have hnew:(cells.toList.take (Aq p + o * s) ++ new ++ cells.toList.drop (Aq p + o * s + new.length))=Az cells.toList (Aq p + o * s) new:=rfl
  rw [hnew] at hst
  have hszn:(Az cells.toList (Aq p + o * s) new).toArray.size=cells.size:=by simpa using AO (cs:=cells.toList) VH
  have hrange:=ZJ g2 hR (o:=o) Aa
  have hsub:(Az (((cells.toList.take (hget H id).size).drop (Aq p)).take (l' * s)) (o * s) new).length=l' * s:=by
   rw [AO]
   ·simp;omega
   ·simp;omega
  have Co:=OY (p:=p) (c:=hget H id) (y:=.ar s l' (fun i=>if o≤i∧i < o + min m l then g (i - o) else f i)) rfl hrange (by simpa [V.size] using hsub) hRc hlen k3' k3 (by rw [hgt];rfl)
  have hspl:Az (cells.toList.take (hget H id).size) (Aq p) (Az (((cells.toList.take (hget H id).size).drop (Aq p)).take (l' * s)) (o * s) new)=Az (cells.toList.take (hget H id).size) (Aq p + o * s) new :=
   Lq Aa Aa
  have hset':R e (V.set (.ar s l' (fun i=>if o≤i∧i < o + min m l then g (i - o) else f i)) p (hget H id)) (Az (cells.toList.take (hget H id).size) (Aq p + o * s) new):=by
   rw [← hspl];exact Co
  have hzz:=V.set_size (.ar s l' (fun i=>if o≤i∧i < o + min m l then g (i - o) else f i)) p (hget H id) k3' k3 (by rw [hgt];rfl)
  have hzs:=V.set_solid (y:=.ar s l' (fun i=>if o≤i∧i < o + min m l then g (i - o) else f i)) rfl p (hget H id) k3' k3 k2
  have htk:(Az cells.toList (Aq p + o * s) new).take (hget H id).size=Az (cells.toList.take (hget H id).size) (Aq p + o * s) new:=by
   have:=EK (cs:=cells.toList) (ys:=new) (o:=Aq p + o * s) (a:=0) (n:=(hget H id).size) (b:=Aq p + o * s) VH Aa Aa EP
   simpa using this
  obtain ⟨r1,r2⟩:=hI.row k1 hc hszn hzs (by rw [hzz,hszn];exact hsz') (by rw [hzz,List.toList_toArray,htk];exact hset')
  have hempty:cap=0→new=[]:=fun hc0=>by
   have:min m l=0:=Aa
   rw [this] at hRl
   exact List.eq_nil_of_length_eq_zero (by simpa using hRl)
  have hself:cap=0→e.w.setRow (e.ρ id) (Az cells.toList (Aq p + o * s) new).toArray=e.w:=fun hc0=>by
   have:(Az cells.toList (Aq p + o * s) []).toArray=cells:=by simp [Az]
   rw [hempty hc0,this]
   exact setRow_self _ _ _ _ _ hc
  refine ⟨.int .i64 (min m l:Nat),_,.inl (AH ?_),r1,r2,By _ _,fun _ h=>.inl h⟩
  have hrun':=hrun e.w rfl
  rw [hxe] at hrun' ⊢
  have hmin:Nat.min m l=min m l:=rfl
  cases base with
  | none =>
    have:=hself (hbb.resolve_right B1)
    simp only [Builtin.copy_,hts,Lbl,run_underlying hs,BI hz,hmin,hrun',goInt]
    rw [this]
  | some ad =>
    have hst1:(storeCells ad new).run M.P e.w = .ok () (e.w.setRow (e.ρ id) (Az cells.toList (Aq p + o * s) new).toArray):=by
     by_cases hc0:cap=0
     ·rw [hself hc0,hempty hc0];simp [storeCells]
     ·have hb:=hbb.resolve_left hc0
      simp only [Option.some.injEq] at hb
      subst hb
      exact hst
    simp only [Builtin.copy_,hts,Lbl,run_underlying hs,BI hz,hmin,hrun',goInt,List.toList_toArray,hst1]
 ·rename_i id p o l sz'' hy1 hy2
  rw [hy1] at hv
  have hp:(match y2.ev A with | .nils=>True | _=>False):=hp
  split at hp
  case h_2=>exact hp.elim
  rename_i hy3
  rw [hy3] at hv2
  obtain ⟨hD,base,cap,hx',_⟩:=HI hv
  have hn:a.eval x2 = .slice none 0 0:=by simpa [RV,RS,V.isAgg,R] using hv2
  refine Ag hI (x:=.int .i64 0) (AH ?_) rfl (By _ _)
  rw [hx',hn]
  have h0:Nat.min 0 l=0:=Nat.zero_min l
  have hf:∀ w,(Builtin.firstCells sz 0 (.slice none 0 0)).run M.P w = .ok #[] w:=fun w=>by simp [Builtin.firstCells]
  cases base with
  | none=>simp only [Builtin.copy_,hts,Lbl,run_underlying hs,BI hz,h0,hf,goInt];rfl
  | some ad =>
    have hst1:(storeCells ad []).run M.P e.w = .ok () e.w:=by simp [storeCells]
    simp only [Builtin.copy_,hts,Lbl,run_underlying hs,BI hz,h0,hf,goInt,hst1];rfl
 ·exact hp.elim
theorem OU (cs:Array Value) (v:Array Value) (off:Nat) (h:off + v.size≤cs.size) :
 v.zipIdx.foldl (fun cs (x,j)=>cs.setIfInBounds (off + j) x) cs=(Az cs.toList off v.toList).toArray:=by
 have key:∀ (l:List Value) (k:Nat) (cs:Array Value),off + k + l.length≤cs.size→(l.zipIdx k).foldl (fun cs (x,j)=>cs.setIfInBounds (off + j) x) cs=(Az cs.toList (off + k) l).toArray:=by
  intro l
  induction l with
  | nil=>intro k cs _;simp [Az]
  | cons x l ih =>
    intro k cs hk
    simp only [List.length_cons] at hk
    simp only [List.zipIdx_cons,List.foldl_cons]
    rw [ih (k + 1) _ EP]
    congr 1
    simp only [Az,Array.toList_setIfInBounds]
    have e1:off + (k + 1)=off + k + 1:=Aa
    rw [e1]
    have e2:(cs.toList.set (off + k) x).take (off + k + 1)=cs.toList.take (off + k) ++ [x]:=by
     rw [List.take_set,List.take_add_one]
     have:(cs.toList.take (off + k)).length=off + k:=EP
     rw [List.set_append_right _ _ Aa]
     have h3:off + k < cs.toList.length:=EP
     simp [this,List.getElem?_eq_getElem h3]
    have e3:(cs.toList.set (off + k) x).drop (off + k + 1 + l.length)=cs.toList.drop (off + k + 1 + l.length):=by
     rw [List.drop_set];simp;omega
    rw [e2,e3]
    simp [Nat.add_comm 1,Nat.add_left_comm,Nat.add_assoc]
 have:=key v.toList 0 cs L7
 simp only [Nat.add_zero] at this
 rw [← this,← Array.foldl_toList]
 simp [Array.toList_zipIdx]
def BY (M:Seat) (place:Nat→Option (Nat × Nat)):List (Nat × Operand)→List (Stp × Nat × X)→Bool
 | [],[]=>true
 | (i,o) :: r,(s,sz,x) :: r'=>(match place i with | some (off,n)=>off == s.off && n == sz | none=>false) && A3 M o x && BY M place r r'
 | _,_=>false
def M2 (M:Seat) (e:Env):List (Stp × Nat × X)→Prop
 | []=>True
 | (_,_,x) :: r=>Do M e x∧M2 M e r
theorem Nf {e:Env} (hφ:e.φ=M.φ) {A:List V} {a:Act} (hA:FR e A a.tmps) (place:Nat→Option (Nat × Nat)):∀ (parts:List (Nat × Operand)) (ps:List (Stp × Nat × X)) (c:V) (cs:Array Value),
 BY M place parts ps=true→M2 M e ps→R e c cs.toList→cs.size=c.size→c.solid=true→(∀ q ∈ ps,Hu [q.1]=true)→BE c A ps →
 ∃ cs',Instr.fill place cs (parts.map fun q=>(q.1,a.eval q.2))=some cs'∧R e (Cy c A ps) cs'.toList∧cs'.size=(Cy c A ps).size∧(Cy c A ps).solid=true∧cs'.size=cs.size
 | [],[],c,cs,_,_,hR,hl,hs,_,_=>⟨cs,rfl,hR,hl,hs,rfl⟩
 | (i, o) :: r, (s, sz, x) :: r', c, cs, hc, hg, hR, hl, hs, hn, hok => by
   simp only [BY,Bool.and_eq_true] at hc
   obtain ⟨⟨hp,hx⟩,hr⟩:=hc
   simp only [BE] at hok
   obtain ⟨⟨h1,h2,h3,h4⟩,hok'⟩:=hok
   split at hp
   case h_2=>cases hp
   rename_i off n hpl
   simp only [Bool.and_eq_true,beq_iff_eq] at hp
   obtain ⟨rfl,rfl⟩:=hp
   have hv:=A4 hφ hA hx hg.1
   rw [AR h1] at hv
   have hRy:=KD h1 hv
   have hyl:=Me h1 hRy
   have hnr:=hn _ (List.mem_cons_self)
   obtain ⟨g1,_⟩:=Em hR Qn h2
   simp only [Aq,Nat.add_zero] at g1
   have hsz:(a.eval o).cells.size=n:=by
    have:(a.eval o).cells.toList.length=(a.eval o).cells.size:=B1
    omega
   have hfit:s.off + (a.eval o).cells.size≤cs.size:=by
    have:cs.toList.length=cs.size:=B1
    omega
   have h34:(x.ev A).size=(c.get [s]).size:=h3.trans h4.symm
   have Co:=OY h1 hRy hyl hR Qn hnr h2 h34
   simp only [Aq,Nat.add_zero] at Co
   have hzz:=V.set_size (x.ev A) [s] c hnr h2 h34
   have hzs:=V.set_solid h1 [s] c hnr h2 hs
   have hlen:(Az cs.toList s.off (a.eval o).cells.toList).length=cs.toList.length:=AO (by simpa using hfit)
   obtain ⟨cs',k1,k2,k3,k4,k5⟩:=Nf hφ hA place r r' (V.set (x.ev A) [s] c) (Az cs.toList s.off (a.eval o).cells.toList).toArray hr hg.2 (by simpa using Co) (by rw [hzz];simpa [hl] using hlen) hzs (fun q hq=>hn q (List.mem_cons_of_mem _ hq)) hok'
   refine ⟨cs',?_,k2,k3,k4,by rw [k5];simpa using hlen⟩
   simp only [List.map_cons,Instr.fill,hpl]
   have hcond:(decide ((a.eval o).cells.size ≠ n) || decide (s.off + (a.eval o).cells.size > cs.size))=false:=by
    simp [hsz];omega
   simp only [hcond,SG]
   rw [OU _ _ _ hfit]
   exact k1
 | [],_ :: _,_,_,hc,_,_,_,_,_,_=>by simp [BY] at hc
 | _ :: _,[],_,_,hc,_,_,_,_,_,_=>by simp [BY] at hc
theorem Aba {y:V} {s:Stp} {c:V} (hn:Hu [s]=true) (hk:c.ok [s]):(V.set y [s] c).isAgg=true:=by
 cases s with
 | f o=>cases c <;> simp only [V.ok] at hk;rfl
 | i sz ix=>cases c <;> simp only [V.ok] at hk;rfl
 | r sz o n=>simp [Hu] at hn
theorem GH (A:List V):∀ (l:List (Stp × Nat × X)) (c:V),c.isAgg=true→(∀ q ∈ l,Hu [q.1]=true)→BE c A l→(Cy c A l).isAgg=true
 | [],_,hc,_,_=>hc
 | (s, sz, x) :: l, c, _, hn, hok => by
   simp only [BE] at hok
   exact GH A l _ (Aba (hn _ List.mem_cons_self) hok.1.2.1) (fun q hq=>hn q (List.mem_cons_of_mem _ hq)) hok.2
def sfs (M:Seat):List Field→Option (List (Nat × Nat))
 | []=>some []
 | f :: r => match FD M f.type, sfs M r with
   | some n,some l=>some ((f.offset,n) :: l)
   | _,_=>none
theorem KR (w:World):∀ (l:List Field) (pl:List (Nat × Nat)),sfs M l=some pl→(l.mapM (m:=Sem) fun f=>do pure (f.offset,← Go.sizeOf f.type)).run M.P w = .ok pl w
 | [],pl,h=>by simp only [sfs,Option.some.injEq] at h;subst h;rfl
 | f :: r, pl, h => by
   simp only [sfs] at h
   split at h
   case h_2=>cases h
   rename_i n l' h1 h2
   simp only [Option.some.injEq] at h
   subst h
   have ih:=KR w r l' h2
   simp only [List.mapM_cons,F3,BI h1,ih]
theorem OV {w:World} {fs:Array Field} {pl:List (Nat × Nat)} (h:sfs M fs.toList=some pl):(fs.mapM (m:=Sem) fun f=>do pure (f.offset,← Go.sizeOf f.type)).run M.P w = .ok pl.toArray w:=by
 rw [Array.mapM_eq_mapM_toList,Sem.run_map,KR w _ _ h]
 rfl
theorem Lh {c:Ctx} {e:Env} {H:Hp} {A:List V} {a:Act} (hI:Inv M c e H) (hA:FR e A a.tmps) {n:Nat} {t:TypeId} {z:Z} {x:Value} {fs:Array Field} {pl:List (Nat × Nat)} {parts:Array (Nat × Operand)} {ps:List (Stp × Nat × X)}
 (hz:(M.P.info? t).bind (·.zero)=some x) (hzc:z.chk x=true) (hagg:(z.v 0).isAgg=true) (ht:M.P.underlying t=some (.struct fs)) (hpl:sfs M fs.toList=some pl) (hps:BY M (fun i=>pl[i]?) parts.toList ps=true) (hg:M2 M e ps) (hn:∀ q ∈ ps,Hu [q.1]=true)
 (hp:(Ae A H n (.build z ps)).pre) :
 B6 M c e n (Ae A H n (.build z ps)) (Sem.run M.P (do pure (Next.value (← Instr.build t (parts.map fun (i,x)=>(i,a.eval x))))) e.w):=by
 obtain ⟨h1,h2,h3,h4⟩:=Z.chk_R e hzc
 simp only [Ae] at hp ⊢
 obtain ⟨cs',k1,k2,k3,k4,k5⟩:=Nf hI.φ hA (fun i=>pl[i]?) parts.toList ps (z.v 0) x.cells hps hg h2 (by rw [h1,h4]) h3 hn hp
 have haggb:(Cy (z.v 0) A ps).isAgg=true:=GH A ps _ hagg hn hp
 refine Ag hI (x:=.agg cs') (AH ?_) rfl ?_
 ·simp only [Instr.build,Td,FE hz,run_underlying ht,OV hpl]
  have hm:(parts.map fun (i,x)=>(i,a.eval x)).toList=parts.toList.map fun q=>(q.1,a.eval q.2):=B1
  have hpf:(fun x=>pl.toArray[x]?)=fun i:Nat=>pl[i]?:=by funext i;simp
  simp only [hm,hpf,k1,Sem.run_pure]
 ·rw [AR k4]
  unfold RS
  rw [haggb]
  exact ⟨cs'.toList,by simp,k2⟩
theorem Lm {c:Ctx} {e:Env} {H:Hp} {A:List V} {a:Act} (hI:Inv M c e H) (hA:FR e A a.tmps) {n:Nat} {t el:TypeId} {m sz:Nat} {z:Z} {x:Value} {parts:Array (Nat × Operand)} {ps:List (Stp × Nat × X)}
 (hz:(M.P.info? t).bind (·.zero)=some x) (hzc:z.chk x=true) (hagg:(z.v 0).isAgg=true) (ht:M.P.underlying t=some (.array m el)) (hsz:FD M el=some sz) (hps:BY M (fun i=>some (i * sz,sz)) parts.toList ps=true) (hg:M2 M e ps) (hn:∀ q ∈ ps,Hu [q.1]=true)
 (hp:(Ae A H n (.build z ps)).pre) :
 B6 M c e n (Ae A H n (.build z ps)) (Sem.run M.P (do pure (Next.value (← Instr.build t (parts.map fun (i,x)=>(i,a.eval x))))) e.w):=by
 obtain ⟨h1,h2,h3,h4⟩:=Z.chk_R e hzc
 simp only [Ae] at hp ⊢
 obtain ⟨cs',k1,k2,k3,k4,k5⟩:=Nf hI.φ hA (fun i=>some (i * sz,sz)) parts.toList ps (z.v 0) x.cells hps hg h2 (by rw [h1,h4]) h3 hn hp
 have haggb:(Cy (z.v 0) A ps).isAgg=true:=GH A ps _ hagg hn hp
 refine Ag hI (x:=.agg cs') (AH ?_) rfl ?_
 ·simp only [Instr.build,Td,FE hz,run_underlying ht,BI hsz]
  have hm:(parts.map fun (i,x)=>(i,a.eval x)).toList=parts.toList.map fun q=>(q.1,a.eval q.2):=B1
  simp only [hm,k1,Sem.run_pure]
 ·rw [AR k4]
  unfold RS
  rw [haggb]
  exact ⟨cs'.toList,by simp,k2⟩
theorem SI {e:Env} {z:Z} {x:Value} (hzc:z.chk x=true) (hpos:0 < z.sz) (m:Nat):R e (.ar z.sz m (fun _=>z.v 0)) ((Array.range (m * z.sz)).map (x.cells[· % x.cells.size]!)).toList:=by
 obtain ⟨h1,h2,h3,h4⟩:=Z.chk_R e hzc
 refine HD B1 (fun i hi=>⟨⟨h3,h4⟩,?_⟩)
 have:((((Array.range (m * z.sz)).map (x.cells[· % x.cells.size]!)).toList.drop (i * z.sz)).take z.sz)=x.cells.toList:=by
  apply List.ext_getElem?
  intro k
  rw [List.getElem?_take,List.getElem?_drop]
  by_cases hk:k < z.sz
  ·have hb:=EX (sz:=z.sz) hi
   have hlt:i * z.sz + k < m * z.sz:=Aa
   have hmod:(i * z.sz + k) % z.sz=k:=by rw [Nat.mul_comm,Nat.mul_add_mod,Nat.mod_eq_of_lt hk]
   have hkx:k < x.cells.size:=Aa
   simp [hk,hlt,h1,hmod,hkx]
  ·simp only [hk,if_false]
   rw [List.getElem?_eq_none]
   simp [h1];omega
 rw [this];exact h2
theorem Y6 {c:Ctx} {e:Env} {H:Hp} {A:List V} {a:Act} (hI:Inv M c e H) (hA:FR e A a.tmps) {n:Nat} (hnD:¬ e.D n) (hk:c.k≤n) {t el:TypeId} {m:Nat} {z:Z} {x:Value} {parts:Array (Nat × Operand)} {ps:List (Stp × Nat × X)}
 (hz:(M.P.info? el).bind (·.zero)=some x) (hzc:z.chk x=true) (hpos:0 < z.sz) (ht:M.P.underlying t=some (.slice el)) (hsz:FD M el=some z.sz) (hlim:m * z.sz≤2 ^ 24) (hps:BY M (fun i=>some (i * z.sz,z.sz)) parts.toList ps=true) (hg:M2 M e ps) (hn:∀ q ∈ ps,Hu [q.1]=true)
 (hp:(Ae A H n (.bsl z.sz m z ps)).pre) :
 B6 M c e n (Ae A H n (.bsl z.sz m z ps)) (Sem.run M.P (do pure (Next.value (← Instr.buildSlice t m (parts.map fun (i,x)=>(i,a.eval x))))) e.w):=by
 simp only [Ae] at hp ⊢
 have hz0:=SI (e:=e) hzc hpos m
 obtain ⟨h1,h2,h3,h4⟩:=Z.chk_R e hzc
 obtain ⟨cs',k1,k2,k3,k4,k5⟩:=Nf hI.φ hA (fun i=>some (i * z.sz,z.sz)) parts.toList ps (.ar z.sz m (fun _=>z.v 0)) ((Array.range (m * z.sz)).map (x.cells[· % x.cells.size]!)) hps hg hz0 (by simp [V.size]) rfl hn hp
 obtain ⟨r1,r2,r3,r4,r5⟩:=hI.newCells hnD hk (cells:=cs') (el:=el) k4 Aa (by rw [List.take_of_length_le EP];exact k2)
 refine ⟨.slice (some ⟨e.w.heap.size,0,none⟩) m m,_,.inl (AH ?_),r1,r2,?_,GA⟩
 ·have hnl:¬ m * z.sz > 2 ^ 24:=Aa
  have hm:(parts.map fun (i,x)=>(i,a.eval x)).toList=parts.toList.map fun q=>(q.1,a.eval q.2):=B1
  simp only [Instr.buildSlice,F3,run_underlying ht,BI hsz,hnl,if_false]
  by_cases h0:m * z.sz=0
  ·rw [h0] at k1
   simp only [h0,if_true]
   rw [Sem.run_bind,Sem.run_pure,Result.andThen_ok]
   have e0:(Array.range 0).map (fun i=>(#[]:Array Value)[i % (#[]:Array Value).size]!)=(Array.range 0).map (fun i=>x.cells[i % x.cells.size]!):=B1
   simp only [hm]
   rw [e0,k1]
   rfl
  ·simp only [h0,if_false,F3,FE hz,hm,k1,newRow,run_newObj]
   rfl
 ·refine Ff r4 (.inr Aco) (Nat.le_refl _) ?_
  rw [r3,r5,k5]
  simp [Aq]
theorem Ux {c:Ctx} {e:Env} {H:Hp} {A:List V} {a:Act} (hI:Inv M c e H) (hA:FR e A a.tmps) {n:Nat} (hnD:¬ e.D n) (hk:c.k≤n) {t el:TypeId} {bytes:Nat} {i:TypeInfo} {z:Z} {x:Value} {x1 x2:Operand} {y1 y2:X}
 (hi:M.P.info? el=some i) (hz:i.zero=some x) (hzc:z.chk x=true) (hpos:0 < z.sz) (ht:M.P.underlying t=some (.slice el)) (hsz:i.size=z.sz) (hby:i.bytes=bytes)
 (hx:A3 M x1 y1=true) (hg:Do M e y1) (hx2:A3 M x2 y2=true) (hg2:Do M e y2) (hp:(Ae A H n (.mksl z.sz bytes z y1 y2)).pre) :
 B6 M c e n (Ae A H n (.mksl z.sz bytes z y1 y2)) (Sem.run M.P (do pure (Next.value (← Instr.makeSlice t (a.eval x1) (a.eval x2)))) e.w):=by
 have hv:=A4 hI.φ hA hx hg
 have hv2:=A4 hI.φ hA hx2 hg2
 simp only [Ae] at hp ⊢
 split at hp
 case h_2=>exact hp.elim
 rename_i k l k' cp hy1 hy2
 rw [hy1] at hv
 rw [hy2] at hv2
 obtain ⟨rfl,rfl,h0,hle,hroom,hlim⟩:=hp
 rw [BN hv,BN hv2]
 have hz0:=SI (e:=e) hzc hpos cp.toNat
 obtain ⟨h1,h2,h3,h4⟩:=Z.chk_R e hzc
 obtain ⟨r1,r2,r3,r4,r5⟩:=hI.newCells hnD hk (cells:=(Array.range (cp.toNat * z.sz)).map (x.cells[· % x.cells.size]!)) (el:=el) (z:=.ar z.sz cp.toNat (fun _=>z.v 0)) rfl (by simp [V.size]) (by rw [List.take_of_length_le (by simp [V.size])];exact hz0)
 refine ⟨.slice (some ⟨e.w.heap.size,0,none⟩) l.toNat cp.toNat,_,.inl (AH ?_),r1,r2,?_,GA⟩
 ·have p47:(2:Int) ^ 47=140737488355328:=Aj
  have p48:(2:Int) ^ 48=281474976710656:=Aj
  have w1:IntKind.i64.wrap l=l:=by
   unfold IntKind.wrap IntKind.bits IntKind.signed
   have:(2:Int) ^ 64=18446744073709551616:=Aj
   have:(2:Int) ^ (64 - 1)=9223372036854775808:=Aj
   simp;omega
  have w2:IntKind.i64.wrap cp=cp:=by
   unfold IntKind.wrap IntKind.bits IntKind.signed
   have:(2:Int) ^ 64=18446744073709551616:=Aj
   have:(2:Int) ^ (64 - 1)=9223372036854775808:=Aj
   simp;omega
  have hcond:((decide (cp < 0) || decide ((i.bytes:Int) * cp > 2 ^ 48)) || decide (l < 0) || decide (l > cp))=false:=by
   have hb:(i.bytes:Int) * cp≤2 ^ 47:=by rw [hby,Int.mul_comm];exact hroom
   simp only [Bool.or_eq_false_iff,decide_eq_false_iff_not]
   omega
  simp only [Instr.makeSlice,F3,run_underlying ht,asInt,asIntOf,typeInfo,run_program,hi,w1,w2]
  have hcond':¬ ((decide (cp < 0) || decide ((i.bytes:Int) * cp > 2 ^ 48) || decide (l < 0) || decide (l > cp))=true):=by simp only [hcond];simp
  rw [if_neg hcond']
  have hs':FD M el=some z.sz:=by simp [FD,hi,hsz]
  simp only [Td,run_askRoom,BI hs']
  by_cases hc0:cp.toNat * z.sz=0
  ·simp only [hc0,if_true,F3,newRow,run_newObj]
   have e0:(Array.range 0).map (fun i=>(#[]:Array Value)[i % (#[]:Array Value).size]!)=(Array.range 0).map (fun i=>x.cells[i % x.cells.size]!):=B1
   rw [e0]
   rfl
  ·simp only [hc0,if_false,F3,zeroValue,typeInfo,run_program,hi,hz,newRow,run_newObj]
   rfl
 ·refine Ff r4 (.inr Aco) Aa ?_
  rw [r3,r5]
  simp [Aq]
end Mv
