/- A part. -/
import Derived.Test.YtlfkjfonpacelaaGreatDoorIE
import Derived.Laws.StructEq
import Derived.ChangeKeysEq
set_option linter.all false
set_option maxHeartbeats 4000000
namespace Mv
open Go
variable {M:Seat}
theorem Na {cs ys:List Value} {a b n:Nat} (hb:b + ys.length≤n) (ha:a + n≤cs.length):A7 cs a (A7 ((cs.drop a).take n) b ys)=A7 cs (a + b) ys:=by
 apply List.ext_getElem?;intro i;have hl:((cs.drop a).take n).length=n:=FY;have hsl:(A7 ((cs.drop a).take n) b ys).length=n:=by rw [Bc Aa,hl]
 have e1:cs.take a ++ A7 ((cs.drop a).take n) b ys ++ cs.drop (a + n)=A7 cs a (A7 ((cs.drop a).take n) b ys):=by simp only [A7,hsl,hl];congr 2;simp [hl];omega
 rw [← e1];simp only [Lbu,hsl];have ma:min a cs.length=a:=Aa;rw [ma];by_cases h1:i < a
 ·have h2:i < a + n:=Aa;simp only [h1,h2,if_true];simp only [A7,Lbu];have h3:i < min (a + b) cs.length:=Aa;have h4:i < min (a + b) cs.length + ys.length:=Aa;simp [h1,h3,h4]
 ·by_cases h2:i < a + n
  ·simp only [h1,h2,B4];have:=Fo (cs:=cs) (ys:=ys) (o:=a + b) (a:=a) (n:=n) (b:=b) Aa rfl hb ha;rw [← this];rw [List.getElem?_take,List.getElem?_drop];have h5:i - a < n:=Aa;have h6:a + (i - a)=i:=Aa;simp [h5,h6]
  ·simp only [h2,if_false];have:=DP (cs:=cs) (ys:=ys) (o:=a + b) (a:=a + n) (n:=cs.length) Aa (.inr Aa);have h7:(A7 cs (a + b) ys).drop (a + n)=cs.drop (a + n):=by
    rw [List.take_of_length_le (by simp [Bc (cs:=cs) (ys:=ys) (o:=a + b) Aa]),List.take_of_length_le B9] at this;exact this
   have h8:=congrArg (fun l=>l[i - (a + n)]?) h7;simp only [List.getElem?_drop] at h8 ⊢;have h9:a + n + (i - (a + n))=i:=Aa;rw [h9] at h8 ⊢;exact h8.symm
theorem Ahd {e:Env} {sz l n o:Nat} {f g:Nat→V} {cs new:List Value} (hf:R e (.ar sz l f) cs) (hg:R e (.ar sz n g) new) (hfit:o + n≤l) :
 R e (.ar sz l (fun i=>if o≤i∧i < o + n then g (i - o) else f i)) (A7 cs (o * sz) new):=by
 simp only [R] at hf hg;obtain ⟨hf1,hf2⟩:=hf;obtain ⟨hg1,hg2⟩:=hg;have hle:(o + n) * sz≤l * sz:=Nat.mul_le_mul_right _ hfit;rw [Nat.add_mul] at hle;have hnew:o * sz + new.length≤cs.length:=Aa;refine Ih (by rw [Bc hnew];exact hf1) (fun i hi=>?_);by_cases hio:o≤i∧i < o + n
 ·simp only [hio,and_self,if_true];obtain ⟨q1,q2⟩:=hg2 (i - o) Aa;refine ⟨q1,?_⟩;have e2:i * sz=o * sz + (i - o) * sz:=by rw [← Nat.add_mul];congr 1;omega
  have hw:=Fy (sz:=sz) (show i - o < n by omega);have h3:=JC (cs:=cs) (ys:=new) (o:=o * sz) (n:=new.length) hnew rfl;have h4:=Bi (A7 cs (o * sz) new) (o * sz) new.length ((i - o) * sz) sz Aa;rw [h3] at h4;rw [e2,← h4];exact q2
 ·simp only [hio,if_false];obtain ⟨q1,q2⟩:=hf2 i hi;refine ⟨q1,?_⟩;have hd:i * sz + sz≤o * sz ∨ o * sz + new.length≤i * sz:=by
   rcases Nat.lt_or_ge i o with h | h
   ·left;exact Fy h
   ·right;have:(o + n) * sz≤i * sz:=Nat.mul_le_mul_right _ Aa;rw [Nat.add_mul] at this;omega
  rw [DP hnew hd];exact q2
theorem VI {c:Ctx} {e:Env} {H:Hp} {A:List V} {a:Act} (hI:Inv M c e H) (hA:FR e A a.tmps) {n:Nat} {sT elT ty:TypeId} {ts:Array TypeId} {sz:Nat} {x1 x2:Operand} {y1 y2:X}
 (hts:ts[0]?=some sT) (hs:M.P.underlying sT=some (.slice elT)) (hz:Gl M elT=some sz)
 (hx:A8 M x1 y1=true) (hg:DE M e y1) (hx2:A8 M x2 y2=true) (hg2:DE M e y2) (hp:(Af A H n (.copy sz y1 y2)).pre) :
 BO M c e n (Af A H n (.copy sz y1 y2)) (Sem.run M.P (do pure (Next.value (← Builtin.copy_ ts ty #[a.eval x1,a.eval x2]))) e.w):=by
 have hv:=A9 hI.φ hA hx hg;have hv2:=A9 hI.φ hA hx2 hg2;simp only [Af] at hp ⊢;split at hp
 ·rename_i id p o l sz'' sz' m g hy1 hy2;rw [hy1] at hv;split at hp;case h_2=>exact hp.elim
  rename_i s l' f hgt;obtain ⟨⟨rfl,rfl,rfl⟩,⟨k1,k2,k3,k3',k4⟩,hok⟩:=hp;obtain ⟨hD,base,cap,hx',hbb,hlc,hbs⟩:=Iq hv;rw [hx'];obtain ⟨ax,cx,new,hxe,hR,hrun⟩:=GJ (M:=M) hI hv2 hy2 hok (n:=min m l) (Nat.min_le_left _ _);have hRl:new.length=min m l * s:=by simp only [R] at hR;exact hR.1
  obtain ⟨cells,el',hc,hsz',hRc⟩:=hI.cells k1 k2;have hlen:(cells.toList.take (hget H id).size).length=(hget H id).size:=FY;obtain ⟨g1,g2⟩:=E7 hRc hlen k3;rw [hlen] at g1;rw [hgt] at g1 g2;have g1':Az p + l' * s≤(hget H id).size:=g1;have h1c:=Lq (v:=.ar s (min m l) g) rfl hR;have hol:(o + min m l) * s≤l' * s:=Nat.mul_le_mul_right _ Aa;rw [Nat.add_mul] at hol;have hpos:Az p + o * s + new.length≤cells.size:=Aa;have hst:=run_storeCells_at M.P (e.ρ id) (Az p + o * s) el' new 0 cells e.w hc Ac5 h1c;simp only [Nat.add_zero] at hst;have hnew:(cells.toList.take (Az p + o * s) ++ new ++ cells.toList.drop (Az p + o * s + new.length))=A7 cells.toList (Az p + o * s) new:=rfl;rw [hnew] at hst;have hszn:(A7 cells.toList (Az p + o * s) new).toArray.size=cells.size:=by simpa using Bc (cs:=cells.toList) Ac5
  have hrange:=Ahd g2 hR (o:=o) Aa;have hsub:(A7 (((cells.toList.take (hget H id).size).drop (Az p)).take (l' * s)) (o * s) new).length=l' * s:=by
   rw [Bc]
   ·simp;omega
   ·simp;omega
  have CA:=QM (p:=p) (c:=hget H id) (y:=.ar s l' (fun i=>if o≤i∧i < o + min m l then g (i - o) else f i)) rfl hrange (by simpa [V.size] using hsub) hRc hlen k3' k3 (by rw [hgt];rfl);have hspl:A7 (cells.toList.take (hget H id).size) (Az p) (A7 (((cells.toList.take (hget H id).size).drop (Az p)).take (l' * s)) (o * s) new)=A7 (cells.toList.take (hget H id).size) (Az p + o * s) new :=
   Na Aa Aa
  have hset':R e (V.set (.ar s l' (fun i=>if o≤i∧i < o + min m l then g (i - o) else f i)) p (hget H id)) (A7 (cells.toList.take (hget H id).size) (Az p + o * s) new):=by
   rw [← hspl];exact CA
  have hzz:=V.set_size (.ar s l' (fun i=>if o≤i∧i < o + min m l then g (i - o) else f i)) p (hget H id) k3' k3 (by rw [hgt];rfl);have hzs:=V.set_solid (y:=.ar s l' (fun i=>if o≤i∧i < o + min m l then g (i - o) else f i)) rfl p (hget H id) k3' k3 k2;have htk:(A7 cells.toList (Az p + o * s) new).take (hget H id).size=A7 (cells.toList.take (hget H id).size) (Az p + o * s) new:=by
   have:=Fo (cs:=cells.toList) (ys:=new) (o:=Az p + o * s) (a:=0) (n:=(hget H id).size) (b:=Az p + o * s) Ac5 Aa Aa FY;simpa using this
  obtain ⟨r1,r2⟩:=hI.row k1 hc hszn hzs (by rw [hzz,hszn];exact hsz') (by rw [hzz,List.toList_toArray,htk];exact hset');have hempty:cap=0→new=[]:=fun hc0=>by
   have:min m l=0:=Aa;rw [this] at hRl;exact List.eq_nil_of_length_eq_zero (by simpa using hRl)
  have hself:cap=0→e.w.setRow (e.ρ id) (A7 cells.toList (Az p + o * s) new).toArray=e.w:=fun hc0=>by
   have:(A7 cells.toList (Az p + o * s) []).toArray=cells:=by simp [A7]
   rw [hempty hc0,this];exact setRow_self _ _ _ _ _ hc
  refine ⟨.int .i64 (min m l:Nat),_,.inl (AP ?_),r1,r2,BH _ _,fun _ h=>.inl h⟩;have hrun':=hrun e.w rfl;rw [hxe] at hrun' ⊢;have hmin:Nat.min m l=min m l:=rfl;cases base with
  | none =>
    have:=hself (hbb.resolve_right B9);simp only [Builtin.copy_,hts,Lbl,run_underlying hs,BU hz,hmin,hrun',goInt];rw [this]
  | some ad =>
    have hst1:(storeCells ad new).run M.P e.w = .ok () (e.w.setRow (e.ρ id) (A7 cells.toList (Az p + o * s) new).toArray):=by
     by_cases hc0:cap=0
     ·rw [hself hc0,hempty hc0];simp [storeCells]
     ·have hb:=hbb.resolve_left hc0;simp only [Option.some.injEq] at hb;subst hb;exact hst
    simp only [Builtin.copy_,hts,Lbl,run_underlying hs,BU hz,hmin,hrun',goInt,List.toList_toArray,hst1]
 ·rename_i id p o l sz'' hy1 hy2;rw [hy1] at hv;have hp:(match y2.ev A with | .nils=>True | _=>False):=hp;split at hp;case h_2=>exact hp.elim
  rename_i hy3;rw [hy3] at hv2;obtain ⟨hD,base,cap,hx',_⟩:=Iq hv;have hn:a.eval x2 = .slice none 0 0:=by simpa [RV,RS,V.isAgg,R] using hv2
  refine An hI (x:=.int .i64 0) (AP ?_) rfl (BH _ _);rw [hx',hn];have h0:Nat.min 0 l=0:=Nat.zero_min l;have hf:∀ w,(Builtin.firstCells sz 0 (.slice none 0 0)).run M.P w = .ok #[] w:=fun w=>by simp [Builtin.firstCells]
  cases base with
  | none=>simp only [Builtin.copy_,hts,Lbl,run_underlying hs,BU hz,h0,hf,goInt];rfl
  | some ad =>
    have hst1:(storeCells ad []).run M.P e.w = .ok () e.w:=by simp [storeCells]
    simp only [Builtin.copy_,hts,Lbl,run_underlying hs,BU hz,h0,hf,goInt,hst1];rfl
 ·exact hp.elim
theorem Qp (cs:Array Value) (v:Array Value) (off:Nat) (h:off + v.size≤cs.size) :
 v.zipIdx.foldl (fun cs (x,j)=>cs.setIfInBounds (off + j) x) cs=(A7 cs.toList off v.toList).toArray:=by
 have key:∀ (l:List Value) (k:Nat) (cs:Array Value),off + k + l.length≤cs.size→(l.zipIdx k).foldl (fun cs (x,j)=>cs.setIfInBounds (off + j) x) cs=(A7 cs.toList (off + k) l).toArray:=by
  intro l;induction l with
  | nil=>intro k cs _;simp [A7]
  | cons x l ih =>
    intro k cs hk;simp only [List.length_cons] at hk;simp only [List.zipIdx_cons,List.foldl_cons];rw [ih (k + 1) _ FY]
    congr 1
    simp only [A7,Array.toList_setIfInBounds];have e1:off + (k + 1)=off + k + 1:=Aa;rw [e1];have e2:(cs.toList.set (off + k) x).take (off + k + 1)=cs.toList.take (off + k) ++ [x]:=by
     rw [List.take_set,List.take_add_one];have:(cs.toList.take (off + k)).length=off + k:=FY;rw [List.set_append_right _ _ Aa];have h3:off + k < cs.toList.length:=FY;simp [this,List.getElem?_eq_getElem h3]
    have e3:(cs.toList.set (off + k) x).drop (off + k + 1 + l.length)=cs.toList.drop (off + k + 1 + l.length):=by
     rw [List.drop_set];simp;omega
    rw [e2,e3];simp [Nat.add_comm 1,Nat.add_left_comm,Nat.add_assoc]
 have:=key v.toList 0 cs MY;simp only [Nat.add_zero] at this;rw [← this,← Array.foldl_toList];simp [Array.toList_zipIdx]
def Cr (M:Seat) (place:Nat→Option (Nat × Nat)):List (Nat × Operand)→List (Stp × Nat × X)→Bool
 | [],[]=>true
 | (i,o) :: r,(s,sz,x) :: r'=>(match place i with | some (off,n)=>off == s.off && n == sz | none=>false) && A8 M o x && Cr M place r r'
 | _,_=>false
def Nn (M:Seat) (e:Env):List (Stp × Nat × X)→Prop
 | []=>True
 | (_,_,x) :: r=>DE M e x∧Nn M e r
theorem OS {e:Env} (hφ:e.φ=M.φ) {A:List V} {a:Act} (hA:FR e A a.tmps) (place:Nat→Option (Nat × Nat)):∀ (parts:List (Nat × Operand)) (ps:List (Stp × Nat × X)) (c:V) (cs:Array Value),
 Cr M place parts ps=true→Nn M e ps→R e c cs.toList→cs.size=c.size→c.solid=true→(∀ q ∈ ps,HV [q.1]=true)→BT c A ps →
 ∃ cs',Instr.fill place cs (parts.map fun q=>(q.1,a.eval q.2))=some cs'∧R e (CK c A ps) cs'.toList∧cs'.size=(CK c A ps).size∧(CK c A ps).solid=true∧cs'.size=cs.size
 | [],[],c,cs,_,_,hR,hl,hs,_,_=>⟨cs,rfl,hR,hl,hs,rfl⟩
 | (i, o) :: r, (s, sz, x) :: r', c, cs, hc, hg, hR, hl, hs, hn, hok => by
   simp only [Cr,Bool.and_eq_true] at hc;obtain ⟨⟨hp,hx⟩,hr⟩:=hc;simp only [BT] at hok;obtain ⟨⟨h1,h2,h3,h4⟩,hok'⟩:=hok;split at hp;case h_2=>cases hp
   rename_i off n hpl;simp only [Bool.and_eq_true,beq_iff_eq] at hp;obtain ⟨rfl,rfl⟩:=hp;have hv:=A9 hφ hA hx hg.1;rw [Bh h1] at hv;have hRy:=L9 h1 hv;have hyl:=Nz h1 hRy;have hnr:=hn _ (List.mem_cons_self);obtain ⟨g1,_⟩:=E7 hR PI h2;simp only [Az,Nat.add_zero] at g1;have hsz:(a.eval o).cells.size=n:=by
    have:(a.eval o).cells.toList.length=(a.eval o).cells.size:=B9;omega
   have hfit:s.off + (a.eval o).cells.size≤cs.size:=by
    have:cs.toList.length=cs.size:=B9;omega
   have h34:(x.ev A).size=(c.get [s]).size:=h3.trans h4.symm;have CA:=QM h1 hRy hyl hR PI hnr h2 h34;simp only [Az,Nat.add_zero] at CA;have hzz:=V.set_size (x.ev A) [s] c hnr h2 h34;have hzs:=V.set_solid h1 [s] c hnr h2 hs;have hlen:(A7 cs.toList s.off (a.eval o).cells.toList).length=cs.toList.length:=Bc (by simpa using hfit);obtain ⟨cs',k1,k2,k3,k4,k5⟩:=OS hφ hA place r r' (V.set (x.ev A) [s] c) (A7 cs.toList s.off (a.eval o).cells.toList).toArray hr hg.2 (by simpa using CA) (by rw [hzz];simpa [hl] using hlen) hzs (fun q hq=>hn q (List.mem_cons_of_mem _ hq)) hok';refine ⟨cs',?_,k2,k3,k4,by rw [k5];simpa using hlen⟩;simp only [List.map_cons,Instr.fill,hpl];have hcond:(decide ((a.eval o).cells.size ≠ n) || decide (s.off + (a.eval o).cells.size > cs.size))=false:=by
    simp [hsz];omega
   simp only [hcond,To];rw [Qp _ _ _ hfit];exact k1
 | [],_ :: _,_,_,hc,_,_,_,_,_,_=>by simp [Cr] at hc
 | _ :: _,[],_,_,hc,_,_,_,_,_,_=>by simp [Cr] at hc
theorem Afh {y:V} {s:Stp} {c:V} (hn:HV [s]=true) (hk:c.ok [s]):(V.set y [s] c).isAgg=true:=by
 cases s with
 | f o=>cases c <;> simp only [V.ok] at hk;rfl
 | i sz ix=>cases c <;> simp only [V.ok] at hk;rfl
 | r sz o n=>simp [HV] at hn
theorem HO (A:List V):∀ (l:List (Stp × Nat × X)) (c:V),c.isAgg=true→(∀ q ∈ l,HV [q.1]=true)→BT c A l→(CK c A l).isAgg=true
 | [],_,hc,_,_=>hc
 | (s, sz, x) :: l, c, _, hn, hok => by
   simp only [BT] at hok;exact HO A l _ (Afh (hn _ List.mem_cons_self) hok.1.2.1) (fun q hq=>hn q (List.mem_cons_of_mem _ hq)) hok.2
def sfs (M:Seat):List Field→Option (List (Nat × Nat))
 | []=>some []
 | f :: r => match Gl M f.type, sfs M r with
   | some n,some l=>some ((f.offset,n) :: l)
   | _,_=>none
theorem Mi (w:World):∀ (l:List Field) (pl:List (Nat × Nat)),sfs M l=some pl→(l.mapM (m:=Sem) fun f=>do pure (f.offset,← Go.sizeOf f.type)).run M.P w = .ok pl w
 | [],pl,h=>by simp only [sfs,Option.some.injEq] at h;subst h;rfl
 | f :: r, pl, h => by
   simp only [sfs] at h;split at h;case h_2=>cases h
   rename_i n l' h1 h2;simp only [Option.some.injEq] at h;subst h;have ih:=Mi w r l' h2;simp only [List.mapM_cons,FW,BU h1,ih]
theorem PY {w:World} {fs:Array Field} {pl:List (Nat × Nat)} (h:sfs M fs.toList=some pl):(fs.mapM (m:=Sem) fun f=>do pure (f.offset,← Go.sizeOf f.type)).run M.P w = .ok pl.toArray w:=by
 rw [Array.mapM_eq_mapM_toList,Sem.run_map,Mi w _ _ h];rfl
theorem MR {c:Ctx} {e:Env} {H:Hp} {A:List V} {a:Act} (hI:Inv M c e H) (hA:FR e A a.tmps) {n:Nat} {t:TypeId} {z:Z} {x:Value} {fs:Array Field} {pl:List (Nat × Nat)} {parts:Array (Nat × Operand)} {ps:List (Stp × Nat × X)}
 (hz:(M.P.info? t).bind (·.zero)=some x) (hzc:z.chk x=true) (hagg:(z.v 0).isAgg=true) (ht:M.P.underlying t=some (.struct fs)) (hpl:sfs M fs.toList=some pl) (hps:Cr M (fun i=>pl[i]?) parts.toList ps=true) (hg:Nn M e ps) (hn:∀ q ∈ ps,HV [q.1]=true)
 (hp:(Af A H n (.build z ps)).pre) :
 BO M c e n (Af A H n (.build z ps)) (Sem.run M.P (do pure (Next.value (← Instr.build t (parts.map fun (i,x)=>(i,a.eval x))))) e.w):=by
 obtain ⟨h1,h2,h3,h4⟩:=Z.chk_R e hzc;simp only [Af] at hp ⊢;obtain ⟨cs',k1,k2,k3,k4,k5⟩:=OS hI.φ hA (fun i=>pl[i]?) parts.toList ps (z.v 0) x.cells hps hg h2 (by rw [h1,h4]) h3 hn hp;have haggb:(CK (z.v 0) A ps).isAgg=true:=HO A ps _ hagg hn hp;refine An hI (x:=.agg cs') (AP ?_) rfl ?_
 ·simp only [Instr.build,Vc,GA hz,run_underlying ht,PY hpl];have hm:(parts.map fun (i,x)=>(i,a.eval x)).toList=parts.toList.map fun q=>(q.1,a.eval q.2):=B9;have hpf:(fun x=>pl.toArray[x]?)=fun i:Nat=>pl[i]?:=by funext i;simp
  simp only [hm,hpf,k1,Sem.run_pure]
 ·rw [Bh k4];unfold RS;rw [haggb];exact ⟨cs'.toList,by simp,k2⟩
theorem MM {c:Ctx} {e:Env} {H:Hp} {A:List V} {a:Act} (hI:Inv M c e H) (hA:FR e A a.tmps) {n:Nat} {t el:TypeId} {m sz:Nat} {z:Z} {x:Value} {parts:Array (Nat × Operand)} {ps:List (Stp × Nat × X)}
 (hz:(M.P.info? t).bind (·.zero)=some x) (hzc:z.chk x=true) (hagg:(z.v 0).isAgg=true) (ht:M.P.underlying t=some (.array m el)) (hsz:Gl M el=some sz) (hps:Cr M (fun i=>some (i * sz,sz)) parts.toList ps=true) (hg:Nn M e ps) (hn:∀ q ∈ ps,HV [q.1]=true)
 (hp:(Af A H n (.build z ps)).pre) :
 BO M c e n (Af A H n (.build z ps)) (Sem.run M.P (do pure (Next.value (← Instr.build t (parts.map fun (i,x)=>(i,a.eval x))))) e.w):=by
 obtain ⟨h1,h2,h3,h4⟩:=Z.chk_R e hzc;simp only [Af] at hp ⊢;obtain ⟨cs',k1,k2,k3,k4,k5⟩:=OS hI.φ hA (fun i=>some (i * sz,sz)) parts.toList ps (z.v 0) x.cells hps hg h2 (by rw [h1,h4]) h3 hn hp;have haggb:(CK (z.v 0) A ps).isAgg=true:=HO A ps _ hagg hn hp;refine An hI (x:=.agg cs') (AP ?_) rfl ?_
 ·simp only [Instr.build,Vc,GA hz,run_underlying ht,BU hsz];have hm:(parts.map fun (i,x)=>(i,a.eval x)).toList=parts.toList.map fun q=>(q.1,a.eval q.2):=B9;simp only [hm,k1,Sem.run_pure]
 ·rw [Bh k4];unfold RS;rw [haggb];exact ⟨cs'.toList,by simp,k2⟩
theorem UM {e:Env} {z:Z} {x:Value} (hzc:z.chk x=true) (hpos:0 < z.sz) (m:Nat):R e (.ar z.sz m (fun _=>z.v 0)) ((Array.range (m * z.sz)).map (x.cells[· % x.cells.size]!)).toList:=by
 obtain ⟨h1,h2,h3,h4⟩:=Z.chk_R e hzc;refine Ih B9 (fun i hi=>⟨⟨h3,h4⟩,?_⟩);have:((((Array.range (m * z.sz)).map (x.cells[· % x.cells.size]!)).toList.drop (i * z.sz)).take z.sz)=x.cells.toList:=by
  apply List.ext_getElem?;intro k;rw [List.getElem?_take,List.getElem?_drop];by_cases hk:k < z.sz
  ·have hb:=Fy (sz:=z.sz) hi;have hlt:i * z.sz + k < m * z.sz:=Aa;have hmod:(i * z.sz + k) % z.sz=k:=by rw [Nat.mul_comm,Nat.mul_add_mod,Nat.mod_eq_of_lt hk]
   have hkx:k < x.cells.size:=Aa;simp [hk,hlt,h1,hmod,hkx]
  ·simp only [hk,if_false];rw [List.getElem?_eq_none];simp [h1];omega
 rw [this];exact h2
theorem Aby {c:Ctx} {e:Env} {H:Hp} {A:List V} {a:Act} (hI:Inv M c e H) (hA:FR e A a.tmps) {n:Nat} (hnD:¬ e.D n) (hk:c.k≤n) {t el:TypeId} {m:Nat} {z:Z} {x:Value} {parts:Array (Nat × Operand)} {ps:List (Stp × Nat × X)}
 (hz:(M.P.info? el).bind (·.zero)=some x) (hzc:z.chk x=true) (hpos:0 < z.sz) (ht:M.P.underlying t=some (.slice el)) (hsz:Gl M el=some z.sz) (hlim:m * z.sz≤2 ^ 24) (hps:Cr M (fun i=>some (i * z.sz,z.sz)) parts.toList ps=true) (hg:Nn M e ps) (hn:∀ q ∈ ps,HV [q.1]=true)
 (hp:(Af A H n (.bsl z.sz m z ps)).pre) :
 BO M c e n (Af A H n (.bsl z.sz m z ps)) (Sem.run M.P (do pure (Next.value (← Instr.buildSlice t m (parts.map fun (i,x)=>(i,a.eval x))))) e.w):=by
 simp only [Af] at hp ⊢;have hz0:=UM (e:=e) hzc hpos m;obtain ⟨h1,h2,h3,h4⟩:=Z.chk_R e hzc;obtain ⟨cs',k1,k2,k3,k4,k5⟩:=OS hI.φ hA (fun i=>some (i * z.sz,z.sz)) parts.toList ps (.ar z.sz m (fun _=>z.v 0)) ((Array.range (m * z.sz)).map (x.cells[· % x.cells.size]!)) hps hg hz0 (by simp [V.size]) rfl hn hp;obtain ⟨r1,r2,r3,r4,r5⟩:=hI.newCells hnD hk (cells:=cs') (el:=el) k4 Aa (by rw [List.take_of_length_le FY];exact k2);refine ⟨.slice (some ⟨e.w.heap.size,0,none⟩) m m,_,.inl (AP ?_),r1,r2,?_,Hy⟩
 ·have hnl:¬ m * z.sz > 2 ^ 24:=Aa;have hm:(parts.map fun (i,x)=>(i,a.eval x)).toList=parts.toList.map fun q=>(q.1,a.eval q.2):=B9;simp only [Instr.buildSlice,FW,run_underlying ht,BU hsz,hnl,if_false];by_cases h0:m * z.sz=0
  ·rw [h0] at k1;simp only [h0,if_true];rw [Sem.run_bind,Sem.run_pure,Result.andThen_ok];have e0:(Array.range 0).map (fun i=>(#[]:Array Value)[i % (#[]:Array Value).size]!)=(Array.range 0).map (fun i=>x.cells[i % x.cells.size]!):=B9;simp only [hm];rw [e0,k1];rfl
  ·simp only [h0,if_false,FW,GA hz,hm,k1,newRow,run_newObj];rfl
 ·refine FP r4 (.inr Adp) (Nat.le_refl _) ?_;rw [r3,r5,k5];simp [Az]
theorem Xg {c:Ctx} {e:Env} {H:Hp} {A:List V} {a:Act} (hI:Inv M c e H) (hA:FR e A a.tmps) {n:Nat} (hnD:¬ e.D n) (hk:c.k≤n) {t el:TypeId} {bytes:Nat} {i:TypeInfo} {z:Z} {x:Value} {x1 x2:Operand} {y1 y2:X}
 (hi:M.P.info? el=some i) (hz:i.zero=some x) (hzc:z.chk x=true) (hpos:0 < z.sz) (ht:M.P.underlying t=some (.slice el)) (hsz:i.size=z.sz) (hby:i.bytes=bytes)
 (hx:A8 M x1 y1=true) (hg:DE M e y1) (hx2:A8 M x2 y2=true) (hg2:DE M e y2) (hp:(Af A H n (.mksl z.sz bytes z y1 y2)).pre) :
 BO M c e n (Af A H n (.mksl z.sz bytes z y1 y2)) (Sem.run M.P (do pure (Next.value (← Instr.makeSlice t (a.eval x1) (a.eval x2)))) e.w):=by
 have hv:=A9 hI.φ hA hx hg;have hv2:=A9 hI.φ hA hx2 hg2;simp only [Af] at hp ⊢;split at hp;case h_2=>exact hp.elim
 rename_i k l k' cp hy1 hy2;rw [hy1] at hv;rw [hy2] at hv2;obtain ⟨rfl,rfl,h0,hle,hroom,hlim⟩:=hp;rw [Ce hv,Ce hv2];have hz0:=UM (e:=e) hzc hpos cp.toNat;obtain ⟨h1,h2,h3,h4⟩:=Z.chk_R e hzc;obtain ⟨r1,r2,r3,r4,r5⟩:=hI.newCells hnD hk (cells:=(Array.range (cp.toNat * z.sz)).map (x.cells[· % x.cells.size]!)) (el:=el) (z:=.ar z.sz cp.toNat (fun _=>z.v 0)) rfl (by simp [V.size]) (by rw [List.take_of_length_le (by simp [V.size])];exact hz0);refine ⟨.slice (some ⟨e.w.heap.size,0,none⟩) l.toNat cp.toNat,_,.inl (AP ?_),r1,r2,?_,Hy⟩
 ·have p47:(2:Int) ^ 47=140737488355328:=Al;have p48:(2:Int) ^ 48=281474976710656:=Al;have w1:IntKind.i64.wrap l=l:=by
   unfold IntKind.wrap IntKind.bits IntKind.signed;have:(2:Int) ^ 64=18446744073709551616:=Al;have:(2:Int) ^ (64 - 1)=9223372036854775808:=Al;simp;omega
  have w2:IntKind.i64.wrap cp=cp:=by
   unfold IntKind.wrap IntKind.bits IntKind.signed;have:(2:Int) ^ 64=18446744073709551616:=Al;have:(2:Int) ^ (64 - 1)=9223372036854775808:=Al;simp;omega
  have hcond:((decide (cp < 0) || decide ((i.bytes:Int) * cp > 2 ^ 48)) || decide (l < 0) || decide (l > cp))=false:=by
   have hb:(i.bytes:Int) * cp≤2 ^ 47:=by rw [hby,Int.mul_comm];exact hroom
   simp only [Bool.or_eq_false_iff,decide_eq_false_iff_not];omega
  simp only [Instr.makeSlice,FW,run_underlying ht,asInt,asIntOf,typeInfo,run_program,hi,w1,w2];have hcond':¬ ((decide (cp < 0) || decide ((i.bytes:Int) * cp > 2 ^ 48) || decide (l < 0) || decide (l > cp))=true):=by simp only [hcond];simp
  rw [if_neg hcond'];have hs':Gl M el=some z.sz:=by simp [Gl,hi,hsz]
  simp only [Vc,run_askRoom,BU hs'];by_cases hc0:cp.toNat * z.sz=0
  ·simp only [hc0,if_true,FW,newRow,run_newObj];have e0:(Array.range 0).map (fun i=>(#[]:Array Value)[i % (#[]:Array Value).size]!)=(Array.range 0).map (fun i=>x.cells[i % x.cells.size]!):=B9;rw [e0];rfl
  ·simp only [hc0,if_false,FW,zeroValue,typeInfo,run_program,hi,hz,newRow,run_newObj];rfl
 ·refine FP r4 (.inr Adp) Aa ?_;rw [r3,r5];simp [Az]
variable {M:Seat}
def ES.ht:ES→Nat
 | .cons _ _ _ s r=>max s.ht r.ht
 | .st fs=>fs.ht + 1
 | .ar _ _ _ s=>s.ht + 1
 | .iface _=>2
 | _=>1
def OJ:ES→Bool
 | .st _=>true
 | .ar ..=>true
 | _=>false
def Fa:ES→Bool
 | .nil | .cons ..=>true
 | _=>false
def C7 (M:Seat):ES→TypeId→List Field→Bool
 | .int,t,_=>(match M.P.underlying t with | some (.int _)=>true | _=>false)
 | .bool,t,_=>(match M.P.underlying t with | some .bool=>true | _=>false)
 | .str,t,_=>(match M.P.underlying t with | some .string=>true | _=>false)
 | .ptr,t,_=>(match M.P.underlying t with | some (.pointer _)=>true | _=>false)
 | .nils k,t,_=>(match k,M.P.underlying t with | 0,some (.slice _) | 1,some (.map _ _) | 2,some (.func _ _ _)=>true | _,_=>false)
 | .iface ts,t,_=>(match M.P.underlying t with | some (.interface _)=>true | _=>false) &&
  ts.all (fun a=>(match M.P.info? (M.τ a) with | some i=>i.comparable | none=>false) && (match M.P.underlying (M.τ a) with | some (.int _)=>true | _=>false)) &&
  ts.all (fun a=>ts.all (fun b=>a == b || M.τ a != M.τ b))
 | .nil,_,fl=>fl.isEmpty
 | .cons o sz agg s r, t, fl => (match fl with
   | f :: fl' => (!Fa s && Fa r) && ((f.name != "_") && f.offset == o && Gl M f.type == some sz && I4 M f.type == some agg) && C7 M s f.type [] && C7 M r t fl'
   | []=>false)
 | .st fs,t,_=>(match M.P.underlying t with | some (.struct fl)=>Fa fs && (!M.P.stoodInHeld t) && C7 M fs t fl.toList | _=>false)
 | .ar n sz agg s,t,_=>(match M.P.underlying t with | some (.array m e)=>!Fa s && m == n && Gl M e == some sz && I4 M e == some agg && C7 M s e [] | _=>false)
def isC:Operand→Bool
 | .const _=>true
 | _=>false
def Ab9 (M:Seat) (c:Bool) (s:ES) (t:TypeId) (x y:Operand):Bool :=
 C7 M s t [] && !Fa s && decide (s.ht≤100) && (!c || isC x || isC y) && (!OJ s || !M.P.eqGuardType M.P.depth t)
theorem E6 {e:Env} {t:TypeId} {agg:Bool} {sz:Nat} (hs:Gl M t=some sz) (ha:I4 M t=some agg) {cs:List Value} {o:Nat} {v:V} (hsol:v.solid=true) (hsz:v.size=sz) (hag:v.isAgg=agg) (hl:o + sz≤cs.length) (hR:R e v ((cs.drop o).take sz)) :
 ∃ x,(part t cs.toArray o).run M.P e.w = .ok x e.w∧RS e v x:=by
 obtain ⟨k1,k2⟩:=E5 (c:=cs.toArray) (o:=o) hsol hsz hag PI (by simpa using hR);exact ⟨_,KK hs ha e.w PI k1,(Bh hsol).1 k2⟩
theorem QL {t:TypeId} {n:Nat} (h:Gl M t=some n):∃ i,M.P.info? t=some i∧M.P.cellsOf t=n:=by
 unfold Gl at h;cases hi:M.P.info? t with
 | none=>simp [hi] at h
 | some i=>simp [hi] at h;exact ⟨i,rfl,by simp [Program.cellsOf,hi,h]⟩
theorem Jv {e:Env} (hτ:e.τ=M.τ) (c:Bool):∀ (s:ES) (t:TypeId) (fl:List Field) (a b:V) (d:Nat),C7 M s t fl=true→AR c s a b →
 (Fa s=false→∀ x y,RS e a x→RS e b y→(Op.equalIn (s.ht + d) t x y).run M.P e.w = .ok (AX s a b) e.w) ∧
 (Fa s=true→∀ xs ys:List Value,R e a xs→R e b ys→(Op.eqFields (s.ht + d) xs.toArray ys.toArray fl).run M.P e.w = .ok (AX s a b) e.w)
 | .int,t,fl,a,b,d,hc,hp=>by
  refine ⟨fun _ x y hx hy=>?_,fun h=>by cases h⟩;cases a <;> cases b <;> simp only [AR] at hp;simp only [RS,V.isAgg,R,Gd] at hx hy;subst hx;subst hy;subst hp;simp only [C7] at hc;split at hc
  ·rename_i k hu;simp only [ES.ht,Nat.add_comm 1 d,Op.equalIn,FW,run_underlying hu,if_true,AX];rfl
  ·cases hc
 | .bool,t,fl,a,b,d,hc,hp=>by
  refine ⟨fun _ x y hx hy=>?_,fun h=>by cases h⟩;cases a <;> cases b <;> simp only [AR] at hp;simp only [RS,V.isAgg,R,Gd] at hx hy;subst hx;subst hy;simp only [C7] at hc;split at hc
  ·rename_i hu;simp only [ES.ht,Nat.add_comm 1 d,Op.equalIn,FW,run_underlying hu,AX];rfl
  ·cases hc
 | .str,t,fl,a,b,d,hc,hp=>by
  refine ⟨fun _ x y hx hy=>?_,fun h=>by cases h⟩;cases a <;> cases b <;> simp only [AR] at hp;simp only [RS,V.isAgg,R,Gd] at hx hy;subst hx;subst hy;simp only [C7] at hc;split at hc
  ·rename_i hu;simp only [ES.ht,Nat.add_comm 1 d,Op.equalIn,FW,run_underlying hu,AX]
  ·cases hc
 | .ptr,t,fl,a,b,d,hc,hp=>by
  refine ⟨fun _ x y hx hy=>?_,fun h=>by cases h⟩;simp only [C7] at hc;split at hc;case h_2=>cases hc
  rename_i el hu;have e1:ES.ptr.ht + d=d + 1:=by simp [ES.ht,Nat.add_comm]
  rw [e1];cases a <;> cases b <;> simp only [AR] at hp <;> simp only [RS,V.isAgg,R,Gd] at hx hy;case nilp.nilp=>subst hx;subst hy;simp [Op.equalIn,run_underlying hu,AX]
  case nilp.ptr=>obtain ⟨_,rfl⟩:=hy;subst hx;simp [Op.equalIn,run_underlying hu,AX]
  case ptr.nilp=>obtain ⟨_,rfl⟩:=hx;subst hy;simp [Op.equalIn,run_underlying hu,AX]
  case nilp.imm=>obtain ⟨_,_,_,_,_,rfl,_⟩:=hy;subst hx;simp [Op.equalIn,run_underlying hu,AX]
  case imm.nilp=>obtain ⟨_,_,_,_,_,rfl,_⟩:=hx;subst hy;simp [Op.equalIn,run_underlying hu,AX]
 | .nils k,t,fl,a,b,d,hc,hp=>by
  refine ⟨fun _ x y hx hy=>?_,fun h=>by cases h⟩;have e1:(ES.nils k).ht + d=d + 1:=by simp [ES.ht,Nat.add_comm]
  rw [e1];simp only [AR] at hp;split at hp <;> simp only [C7] at hc <;> (try exact hp.elim) <;> simp only [RS,V.isAgg,R,Gd] at hx hy <;> split at hc <;> (try cases hc) <;> (try (exfalso;omega)) <;> rename_i hu
  ·subst hx;subst hy;simp [Op.equalIn,run_underlying hu,AX]
  ·subst hx;subst hy;simp [Op.equalIn,run_underlying hu,AX]
  ·obtain ⟨_,rfl⟩:=hy;subst hx;simp [Op.equalIn,run_underlying hu,AX]
  ·obtain ⟨_,rfl⟩:=hx;subst hy;simp [Op.equalIn,run_underlying hu,AX]
  ·subst hx;subst hy;simp [Op.equalIn,run_underlying hu,AX]
  ·obtain ⟨_,rfl,_⟩:=hy;subst hx;unfold Sa;split <;> (try split) <;> simp [Op.equalIn,run_underlying hu,AX]
  ·obtain ⟨_,rfl,_⟩:=hx;subst hy;unfold Sa;split <;> (try split) <;> simp [Op.equalIn,run_underlying hu,AX]
  ·obtain ⟨_,b,cap,rfl,h1,h2,_⟩:=hy;rcases h1 with h1 | rfl
   ·omega
   ·subst hx;simp [Op.equalIn,run_underlying hu,AX]
  ·obtain ⟨_,b,cap,rfl,h1,h2,_⟩:=hx;rcases h1 with h1 | rfl
   ·omega
   ·subst hy;simp [Op.equalIn,run_underlying hu,AX]
  ·obtain ⟨b,cap,rfl,h1,h2⟩:=hy;obtain ⟨_,_,_,_,_,rfl,_⟩:=h2 hp;subst hx;simp [Op.equalIn,run_underlying hu,AX]
  ·obtain ⟨b,cap,rfl,h1,h2⟩:=hx;obtain ⟨_,_,_,_,_,rfl,_⟩:=h2 hp;subst hy;simp [Op.equalIn,run_underlying hu,AX]
  ·obtain ⟨_,_,_,rfl,_⟩:=hx;subst hy;simp [Op.equalIn,run_underlying hu,AX]
 | .iface ts,t,fl,a,b,d,hc,hp=>by
  refine ⟨fun _ x y hx hy=>?_,fun h=>by cases h⟩;simp only [C7,Lc6] at hc;obtain ⟨⟨hc,hts⟩,hdis⟩:=hc;split at hc;case h_2=>cases hc
  rename_i ms hu;have e1:(ES.iface ts).ht + d=(d + 1) + 1:=by simp [ES.ht];omega
  rw [e1];cases a <;> cases b <;> (try simp only [AR] at hp) <;> simp only [RS,V.isAgg,R,Gd] at hx hy;case nili.nili=>subst hx;subst hy;simp [Op.equalIn,run_underlying hu,AX]
  case nili.ifc=>obtain ⟨_,rfl,_⟩:=hy;subst hx;simp [Op.equalIn,run_underlying hu,AX]
  case ifc.nili=>obtain ⟨_,rfl,_⟩:=hx;subst hy;simp [Op.equalIn,run_underlying hu,AX]
  case ifc.ifc t1 v1 t2 v2 =>
   cases v1 <;> cases v2 <;> simp only [AR] at hp;rename_i k1 n1 k2 n2;obtain ⟨m1,m2,rfl⟩:=hp;simp only [V.isAgg,R,Gd] at hx hy;obtain ⟨_,rfl,_,rfl⟩:=hx;obtain ⟨_,rfl,_,rfl⟩:=hy;rw [hτ];have hd:=hdis t1 m1 t2 m2;simp only [Bool.or_eq_true,beq_iff_eq,bne_iff_ne,ne_eq] at hd;by_cases htt:t1=t2
   ·subst htt;have h1:=hts t1 m1;split at h1;case h_2=>exact absurd h1.1 B9
    rename_i i hi;obtain ⟨h1,h2⟩:=h1;split at h2;case h_2=>cases h2
    rename_i kk hk;simp only [Op.equalIn,FW,run_underlying hu,ne_eq,Lb9,typeInfo,run_program,hi,h1,Bool.not_true,Bool.false_eq_true,run_underlying hk,AX,beq_self_eq_true,Bool.true_and];rfl
   ·have hne:M.τ t1 ≠ M.τ t2:=hd.resolve_left htt;simp only [Op.equalIn,FW,run_underlying hu,ne_eq,hne,not_false_eq_true,if_true,AX];simp [htt]
 | .nil,t,fl,a,b,d,hc,hp=>by
  refine ⟨fun h=>(by cases h),fun _ xs ys hx hy=>?_⟩;simp only [C7,List.isEmpty_iff] at hc;subst hc;simp [Op.eqFields,AX]
 | .cons o sz agg s r,t,fl,a,b,d,hc,hp=>by
  refine ⟨fun h=>(by cases h),fun _ xs ys hx hy=>?_⟩;cases fl with
  | nil=>simp [C7] at hc
  | cons f fl' =>
    simp only [C7,Bool.and_eq_true,bne_iff_ne,ne_eq,beq_iff_eq] at hc;obtain ⟨⟨⟨⟨hfs,hfr⟩,⟨⟨hn,ho⟩,hs⟩,ha⟩,hcs⟩,hcr⟩:=hc;have hfs:Fa s=false:=by simpa using hfs
    simp only [AR] at hp;obtain ⟨⟨⟨h1,h2⟩,⟨a1,a2,a3⟩,⟨b1,b2,b3⟩,hps⟩,hpr⟩:=hp;obtain ⟨g1,g2⟩:=H7 hx h1;obtain ⟨g3,g4⟩:=H7 hy h2;rw [a2] at g1 g2;rw [b2] at g3 g4;subst ho;obtain ⟨x,r1,r2⟩:=E6 hs ha a1 a2 a3 g1 g2;obtain ⟨y,r3,r4⟩:=E6 hs ha b1 b2 b3 g3 g4;have hle1:s.ht≤max s.ht r.ht:=Nat.le_max_left _ _;have hle2:r.ht≤max s.ht r.ht:=Nat.le_max_right _ _;have q1:=(Jv hτ c s f.type [] _ _ (max s.ht r.ht - s.ht + d) hcs hps).1 hfs x y r2 r4;have q2:=(Jv hτ c r t fl' a b (max s.ht r.ht - r.ht + d) hcr hpr).2 hfr xs ys hx hy;have e1:s.ht + (max s.ht r.ht - s.ht + d)=max s.ht r.ht + d:=Aa;have e2:r.ht + (max s.ht r.ht - r.ht + d)=max s.ht r.ht + d:=Aa;rw [e1] at q1;rw [e2] at q2;simp only [ES.ht,Op.eqFields,hn,ne_eq,not_false_eq_true,if_true,Vc,r1,r3,q1,AX];cases hv:AX s (a.fget f.offset) (b.fget f.offset) with
    | false=>simp
    | true=>simpa using q2
 | .st fs,t,fl,a,b,d,hc,hp=>by
  refine ⟨fun _ x y hx hy=>?_,fun h=>by cases h⟩;cases a <;> cases b <;> simp only [AR] at hp;simp only [C7] at hc;split at hc;case h_2=>cases hc
  rename_i fl2 hu;simp only [Lb0] at hc;obtain ⟨⟨hfs,hst⟩,hc⟩:=hc;simp only [RS,V.isAgg,R] at hx hy;obtain ⟨xs,rfl,_,_,hx⟩:=hx;obtain ⟨ys,rfl,_,_,hy⟩:=hy;have hfo:M.P.fieldsOf t=fl2:=by simp [Program.fieldsOf,hu]
  have e1:(ES.st fs).ht + d=fs.ht + d + 1:=by simp [ES.ht];omega
  rw [e1,run_equalIn_struct e.w (fs.ht + d) t _ _ (by rw [hfo];exact hu) hst,hfo];exact (Jv hτ c fs t fl2.toList _ _ d hc hp).2 hfs xs ys hx hy
 | .ar n sz agg s,t,fl,a,b,d,hc,hp=>by
  refine ⟨fun _ x y hx hy=>?_,fun h=>by cases h⟩;cases a <;> cases b <;> simp only [AR] at hp;rename_i sz1 n1 f sz2 n2 g;obtain ⟨⟨rfl,rfl,rfl,rfl⟩,hp⟩:=hp;simp only [C7] at hc;split at hc;case h_2=>cases hc
  rename_i m el hu;simp only [Bool.and_eq_true,beq_iff_eq] at hc;obtain ⟨⟨⟨⟨hfs,rfl⟩,hs⟩,ha⟩,hcs⟩:=hc;have hfs:Fa s=false:=by simpa using hfs
  obtain ⟨i,hi,hcells⟩:=QL hs;simp only [RS,V.isAgg,R] at hx hy;obtain ⟨xs,rfl,hxl,hx⟩:=hx;obtain ⟨ys,rfl,hyl,hy⟩:=hy;have e1:(ES.ar m sz2 agg s).ht + d=s.ht + d + 1:=by simp [ES.ht];omega
  rw [e1,run_equalIn_array e.w (s.ht + d) _ _ hu hi,hcells];simp only [AX];have key:∀ l:List Nat,(∀ j ∈ l,j < m)→(Op.eqItems (s.ht + d) el sz2 xs.toArray ys.toArray l).run M.P e.w = .ok (l.all (fun i=>AX s (f i) (g i))) e.w:=by
   intro l;induction l with
   | nil=>intro _;simp [Op.eqItems]
   | cons j l ih =>
     intro hl;have hj:=hl j B9;obtain ⟨⟨x1,x2⟩,x3⟩:=hx j hj;obtain ⟨⟨y1,y2⟩,y3⟩:=hy j hj;obtain ⟨p1,p2,p3⟩:=hp j hj;have hm:j * sz2 + sz2≤m * sz2:=by
      have:(j + 1) * sz2≤m * sz2:=Nat.mul_le_mul_right _ hj;rw [Nat.add_mul] at this;omega
     obtain ⟨x,r1,r2⟩:=E6 hs ha x1 x2 p1 Aa x3;obtain ⟨y,r3,r4⟩:=E6 hs ha y1 y2 p2 Aa y3;have q1:=(Jv hτ c s el [] _ _ d hcs p3).1 hfs x y r2 r4;have ih':=ih (fun k hk=>hl k (by simp [hk]));simp only [Op.eqItems,Vc,r1,r3,q1,List.all_cons];cases hv:AX s (f j) (g j) with
     | false=>simp
     | true=>simpa using ih'
  exact key _ (fun j hj=>List.mem_range.1 hj)
theorem FZ {P:Program} {w:World} (op:BinOp) (t:TypeId) (x y:Operand) {a b:Value} (h:∀ cs,a ≠ .agg cs) (h2:a = .nilIface→b = .nilIface→isC x=true ∨ isC y=true):(eqGuard op t x y a b).run P w = .ok () w:=by
 have key:(a = .nilIface∧b = .nilIface) ∨ ¬ (a = .nilIface∧b = .nilIface):=Classical.em _;rcases key with ⟨rfl,rfl⟩ | hn
 ·unfold eqGuard;rcases h2 rfl rfl with h3 | h3
  ·cases x <;> simp only [isC,Bool.false_eq_true] at h3;cases op <;> rfl
  ·cases y <;> simp only [isC,Bool.false_eq_true] at h3;cases op <;> cases x <;> rfl
 ·unfold eqGuard;cases a <;> first
   | (exact absurd rfl (h _))
   | (cases b <;> first | (exact absurd ⟨rfl,rfl⟩ hn) | (cases op <;> rfl))
end Mv
