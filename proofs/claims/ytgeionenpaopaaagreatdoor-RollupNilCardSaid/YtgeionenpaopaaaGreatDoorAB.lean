/- A part. -/
import Derived.Test.YtgeionenpaopaaaGreatDoorAA
import Derived.Laws.CopyRow
import Derived.Laws.Cells
set_option linter.all false
namespace Mv
open Go
abbrev Hp:=List (Nat × V)
def hget:Hp→Nat→V
 | [],_=>.junk
 | (i,c) :: r,k=>if i=k then c else hget r k
def Af:Hp→Nat→Bool
 | [],_=>false
 | (i,_) :: r,k=>i == k || Af r k
def V1:=(Jr @Bool.or_eq_true @Af.eq_1 @Af.eq_2)
def BC:Hp→Nat→V→Hp
 | [],_,_=>[]
 | (i,c) :: r,k,v=>if i=k then (i,v) :: r else (i,c) :: BC r k v
def CT:Hp→Nat→Hp
 | [],_=>[]
 | (i,c) :: r,k=>if i=k then CT r k else (i,c) :: CT r k
theorem Cs (k j:Nat) (v:V):∀ H:Hp,Af (BC H k v) j=Af H j
 | []=>rfl
 | (i, c) :: r => by
   simp only [BC];split
   ·rfl
   ·simp only [Af,Cs k j v r]
theorem Ck (k:Nat) (v:V):∀ H:Hp,Af H k=true→hget (BC H k v) k=v
 | [],h=>by simp [Af] at h
 | (i, c) :: r, h => by
   simp only [BC];split
   ·rename_i hik;simp [hget,hik]
   ·rename_i hik;simp only [V1,beq_iff_eq,hik,false_or] at h;simp only [hget,hik,if_false];exact Ck k v r h
theorem BL (k j:Nat) (v:V) (hjk:j ≠ k):∀ H:Hp,hget (BC H k v) j=hget H j
 | []=>rfl
 | (i, c) :: r => by
   simp only [BC];split
   ·rename_i hik;subst hik;simp [hget,Ne.symm hjk]
   ·simp only [hget,BL k j v hjk r]
theorem CX (k j:Nat):∀ H:Hp,Af (CT H k) j=(Af H j && j != k)
 | []=>rfl
 | (i, c) :: r => by
   simp only [CT];split
   ·rename_i hik;subst hik;rw [CX i j r];simp only [Af];by_cases h:j=i
    ·subst h;simp
    ·have:(i == j)=false:=by simp;exact fun h'=>h h'.symm
     simp [this]
   ·rename_i hik;simp only [Af,CX k j r];by_cases h:i=j
    ·subst h;simp [hik]
    ·have:(i == j)=false:=V0;simp [this]
theorem CZ (k j:Nat) (hjk:j ≠ k):∀ H:Hp,hget (CT H k) j=hget H j
 | []=>rfl
 | (i, c) :: r => by
   simp only [CT];split
   ·rename_i hik;subst hik;rw [CZ i j hjk r];simp [hget,Ne.symm hjk]
   ·simp only [hget,CZ k j hjk r]
def rounds:List Int:=[1,32898,9223372036854808714,9223372039002292224,32907,2147483649,9223372039002292353,9223372036854808585,138,136,2147516425,2147483658,2147516555,9223372036854775947,9223372036854808713,9223372036854808579,9223372036854808578,9223372036854775936,32778,9223372039002259466,9223372039002292353,9223372036854808704,2147483649,9223372039002292232]
def lanes:List Int:=[10,7,11,17,18,3,5,16,8,21,24,4,15,23,19,13,12,2,20,14,22,9,6,1]
def turns:List Int:=[1,3,6,10,15,21,28,36,45,55,2,14,27,41,56,8,25,43,62,18,39,61,20,44]
def U8:Nat→V
 | 1=>.ar 1 24 (fun i=>.int .u64 (rounds.getD i 0))
 | 2=>.ar 1 24 (fun i=>.int .i64 (lanes.getD i 0))
 | 3=>.ar 1 24 (fun i=>.int .i64 (turns.getD i 0))
 | _=>.junk
structure Seat where
 P:Program
 φ:Nat→Nat
 τ:Nat→Nat
 γ:Nat→Nat
 gl:List Nat
 raw:List (Nat × Value):=[]
structure Ev (O:Nat→Prop) (w w':World):Prop where
 os:w'.os=w.os
 tape:w'.tape=w.tape
 output:w'.output=w.output
 size:w.heap.size≤w'.heap.size
 frame:∀ b,b < w.heap.size→¬ O b→w'.heap[b]?=w.heap[b]?
 bs:∀ b,BM w b≤BM w' b
theorem Ev.refl (O:Nat→Prop) (w:World):Ev O w w:=⟨rfl,rfl,rfl,Nat.le_refl _,fun _ _ _=>rfl,fun _=>Nat.le_refl _⟩
theorem Ev.trans {O O':Nat→Prop} {a b c:World} (h:Ev O a b) (k:Ev O' b c) (hO:∀ i,O' i→O i ∨ a.heap.size≤i):Ev O a c where
 os:=k.os.trans h.os
 tape:=k.tape.trans h.tape
 output:=k.output.trans h.output
 size:=Nat.le_trans h.size k.size
 frame i hi ho:=(k.frame i (Nat.lt_of_lt_of_le hi h.size) (fun ho'=>(hO i ho').elim ho Aa)).trans (h.frame i hi ho)
 bs i:=Nat.le_trans (h.bs i) (k.bs i)
theorem Ev.drew {O:Nat→Prop} {a w:World} (h:Ev O a w):Ev O a w.drew:=⟨h.os,h.tape,h.output,h.size,h.frame,h.bs⟩
structure Ctx where
 e0:Env
 O:Nat→Prop
 k:Nat
def C2 (e:Env) (id:Nat) (c:V):Prop :=
 match c with
 | .mp n ks vs=>∃ es clock,e.w.heap[e.ρ id]?=some (.map es clock)∧es.size=n∧WfE es clock∧∀ i x,es[i]?=some x→((ks i).solid=true∧RS e (ks i) x.key)∧(vs i).solid=true∧RS e (vs i) x.val
 | .tup (.map j)=>e.D j∧∃ since seen last,e.w.heap[e.ρ id]?=some (.mapIter (some (e.ρ j)) since seen last)
 | .tup (.fm ..)=>True
 | .tup (.fcons o (.fm n ks vs) (.ar _ N f))=>∃ r since seen last es clock,e.w.heap[e.ρ id]?=some (.mapIter (some r) since seen last)∧R e (.fm n ks vs) [.map (some r)]∧e.w.heap[r]?=some (.map es clock) ∧
  es.size≤N∧clock≤since∧clock≤last∧(∀ i x,es[i]?=some x→(seen.contains x.born=true ↔ f i = .bool true))∧∀ i,o=i + 1→last=clock∧∃ x,es[i]?=some x∧seen.back?=some x.born
 | c=>c.solid=true∧∃ cells el,e.w.heap[e.ρ id]?=some (.cells cells el (0,0))∧c.size≤cells.size∧R e c (cells.toList.take c.size)
def GS (M:Seat) (e:Env):Prop :=
 (∀ g,g ∈ M.gl→R e (.imm (U8 g)) [.pointer (some ⟨M.γ g,0,none⟩)])∧∀ p,p ∈ M.raw→e.im p.1∧∃ c el fz,e.w.heap[p.1]?=some (.cells c el fz)∧c[0]?=some p.2
theorem GS.mono {M:Seat} {e e':Env} (hle:e.le e') (h:GS M e):GS M e' :=
 ⟨fun g hg=>Bx hle (h.1 g hg),fun p hp=>by
  obtain ⟨h1,c,el,fz,h2,h3⟩:=h.2 p hp;obtain ⟨k1,k2,_⟩:=hle.im _ h1;obtain ⟨el',fz',k3⟩:=k2 c el fz h2
  exact ⟨k1,c,el',fz',k3,h3⟩⟩
structure Inv (M:Seat) (c:Ctx) (e:Env) (H:Hp):Prop where
 ev:Ev c.O c.e0.w e.w
 blk:∀ id,Af H id=true→e.D id∧C2 e id (hget H id)∧¬ e.im (e.ρ id)∧(c.O (e.ρ id) ∨ c.e0.w.heap.size≤e.ρ id)
 inj:∀ i j,Af H i=true→Af H j=true→e.ρ i=e.ρ j→i=j
 imo:∀ b,e.im b→c.e0.im b ∨ c.O b ∨ c.e0.w.heap.size≤b
 imb:∀ b,e.im b→(∃ cells el fz,e.w.heap[b]?=some (.cells cells el fz)) ∨ ∃ es ck,e.w.heap[b]?=some (.map es ck)
 rb:∀ id,e.D id→e.ρ id < e.w.heap.size
 keep:∀ b,c.e0.im b→e.im b
 low:∀ id,id < c.k→(e.D id ↔ c.e0.D id)∧(e.D id→e.ρ id=c.e0.ρ id)
 gs:GS M e
 φ:e.φ=M.φ
 τ:e.τ=M.τ
theorem Cn {e:Env} {id:Nat} {c:V} (hs:c.solid=true):C2 e id c ↔ ∃ cells el,e.w.heap[e.ρ id]?=some (.cells cells el (0,0))∧c.size≤cells.size∧R e c (cells.toList.take c.size):=by
 cases c <;> simp_all [C2,V.solid]
theorem D5 {e e':Env} (hle:e.le e') {id:Nat} {c:V} (hD:e.D id) (hb:e'.w.heap[e.ρ id]?=e.w.heap[e.ρ id]?) (h:C2 e id c):C2 e' id c:=by
 have hr:=(hle.D id hD).2;cases c;case mp n ks vs =>
  obtain ⟨es,clock,h1,h2,hw,h3⟩:=h;exact ⟨es,clock,by rw [hr,hb];exact h1,h2,hw,fun i x hx=>⟨⟨(h3 i x hx).1.1,C6 hle (h3 i x hx).1.2⟩,(h3 i x hx).2.1,C6 hle (h3 i x hx).2.2⟩⟩
 case tup fs =>
  cases fs;case map j =>
   obtain ⟨hj,since,seen,last,h1⟩:=h;obtain ⟨k1,k2⟩:=hle.D j hj;exact ⟨k1,since,seen,last,by rw [hr,hb,k2];exact h1⟩
  case fm=>trivial
  case fcons o v r =>
   cases v <;> try exact absurd (show false=true from h.1) Ab
   cases r <;> try exact absurd (show false=true from h.1) Ab
   obtain ⟨r,since,seen,last,es,clock,h1,h2,h3,h4⟩:=h;have h2':=h2;simp only [R] at h2;obtain ⟨r',es',ck',e1,e2,e3,_⟩:=h2;simp only [E0,Value.map.injEq,Option.some.injEq] at e1;subst e1;exact ⟨r,since,seen,last,es,clock,by rw [hr,hb];exact h1,Bx hle h2',(hle.im r e2).2.2 es clock h3,h4⟩
  all_goals exact absurd (show false=true from h.1) Ab
 all_goals
  obtain ⟨h0,cells,el,h1,h2,h3⟩:=h;exact ⟨h0,cells,el,by rw [hr,hb];exact h1,h2,Bx hle h3⟩
theorem IE (w:World) (o:Obj) (b:Nat):BM w b≤BM (w.alloc o) b:=by
 unfold BM;by_cases h:b < w.heap.size
 ·have:(w.alloc o).heap[b]?=w.heap[b]?:=by simp only [World.alloc,Array.getElem?_push];rw [if_neg Aa]
  rw [this];exact Nat.le_refl _
 ·have:w.heap[b]?=none:=Array.getElem?_eq_none Aa;rw [this];exact Nat.zero_le _
theorem BQ (w:World) (o:Obj) {b:Nat} (h:b < w.heap.size):(w.alloc o).heap[b]?=w.heap[b]?:=by
 simp only [World.alloc,Array.getElem?_push];rw [if_neg Aa]
theorem BG (w:World) (o:Obj):(w.alloc o).heap[w.heap.size]?=some o:=by
 show (w.heap.push o)[w.heap.size]?=_;simp
def Env.new (e:Env) (n:Nat) (o:Obj):Env :=
 { e with ρ:=fun i=>if i=n then e.w.heap.size else e.ρ i,D:=fun i=>i=n ∨ e.D i,w:=e.w.alloc o }
theorem Env.le_new {e:Env} {n:Nat} (o:Obj) (hn:¬ e.D n) (himb:∀ b,e.im b→b < e.w.heap.size):e.le (e.new n o) where
 D i hi:=⟨.inr hi,by
  have:i ≠ n:=fun h=>hn (h ▸ hi)
  simp [Env.new,this]⟩
 im b hb:=⟨hb,fun c el fz hc=>⟨el,fz,by
  show (e.w.alloc o).heap[b]?=_
  rw [BQ _ _ (himb b hb)];exact hc⟩,fun es ck hc=>by
  show (e.w.alloc o).heap[b]?=_
  rw [BQ _ _ (himb b hb)];exact hc⟩
 sz b:=IE _ _ _
 φ:=rfl
 τ:=rfl
theorem Inv.imlt {M:Seat} {c:Ctx} {e:Env} {H:Hp} (h:Inv M c e H):∀ b,e.im b→b < e.w.heap.size:=fun b hb=>by
 rcases h.imb b hb with ⟨cells,el,fz,hc⟩ | ⟨es,ck,hc⟩
 ·exact (Array.getElem?_eq_some_iff.1 hc).1
 ·exact (Array.getElem?_eq_some_iff.1 hc).1
theorem Inv.new {M:Seat} {c:Ctx} {e:Env} {H:Hp} (h:Inv M c e H) {n:Nat} (hn:¬ e.D n) (hk:c.k≤n) {o:Obj} {z:V} (hz:C2 (e.new n o) n z) :
 Inv M c (e.new n o) ((n,z) :: H):=by
 have hle:=Env.le_new o hn h.imlt;have hnH:Af H n=false:=by
  cases hh:Af H n with
  | false=>rfl
  | true=>exact absurd (h.blk n hh).1 hn
 have hρ:∀ i,e.D i→(e.new n o).ρ i=e.ρ i:=fun i hi=>(hle.D i hi).2;have hρn:(e.new n o).ρ n=e.w.heap.size:=QQ;have hge:=h.ev.size;refine ⟨?_,?_,?_,h.imo,?_,?_,h.keep,?_,?_,h.φ,h.τ⟩
 ·exact h.ev.trans (O':=fun _=>False) ⟨rfl,rfl,rfl,by simp [Env.new],fun b hb _=>BQ _ _ hb,fun b=>IE _ _ b⟩ (fun _ hf=>hf.elim)
 ·intro id hid;by_cases hidn:id=n
  ·subst hidn;refine ⟨.inl rfl,by simpa [hget] using hz,?_,.inr ?_⟩
   ·rw [hρn];intro him;have:=h.imlt _ him;omega
   ·rw [hρn];exact hge
  ·have hid':Af H id=true:=by
    simp only [V1,beq_iff_eq] at hid;exact hid.resolve_left (fun h'=>hidn h'.symm)
   obtain ⟨h1,h2,h3,h4⟩:=h.blk id hid';have hg:hget ((n,z) :: H) id=hget H id:=by simp [hget,Ne.symm hidn]
   rw [hg,hρ id h1];exact ⟨.inr h1,D5 hle h1 (BQ _ _ (h.rb id h1)) h2,h3,h4⟩
 ·have key:∀ i,Af ((n,z) :: H) i=true→i ≠ n→Af H i=true:=fun i hi hin=>by
   simp only [V1,beq_iff_eq] at hi;exact hi.resolve_left (fun h'=>hin h'.symm)
  intro i j hi hj hij;by_cases hin:i=n <;> by_cases hjn:j=n
  ·rw [hin,hjn]
  ·subst hin;have hj':=key j hj hjn;rw [hρn,hρ j (h.blk j hj').1] at hij;have:=h.rb j (h.blk j hj').1;omega
  ·subst hjn;have hi':=key i hi hin;rw [hρn,hρ i (h.blk i hi').1] at hij;have:=h.rb i (h.blk i hi').1;omega
  ·have hi':=key i hi hin;have hj':=key j hj hjn;rw [hρ i (h.blk i hi').1,hρ j (h.blk j hj').1] at hij;exact h.inj i j hi' hj' hij
 ·intro b hb;rcases h.imb b hb with ⟨cells,el,fz,hc⟩ | ⟨es,ck,hc⟩
  ·exact .inl ⟨cells,el,fz,by show (e.w.alloc o).heap[b]?=_;rw [BQ _ _ (h.imlt b hb)];exact hc⟩
  ·exact .inr ⟨es,ck,by show (e.w.alloc o).heap[b]?=_;rw [BQ _ _ (h.imlt b hb)];exact hc⟩
 ·intro id hid;rcases hid with rfl | hid
  ·rw [hρn];simp [Env.new]
  ·rw [hρ id hid];have:=h.rb id hid;simp [Env.new];omega
 ·intro id hid;obtain ⟨h1,h2⟩:=h.low id hid;have hne:id ≠ n:=Aa;exact ⟨⟨fun h=>h1.1 (h.resolve_left hne),fun h=>.inr (h1.2 h)⟩,fun hd=>(hρ id (hd.resolve_left hne)).trans (h2 (hd.resolve_left hne))⟩
 ·exact h.gs.mono hle
theorem Inv.cells {M:Seat} {c:Ctx} {e:Env} {H:Hp} (h:Inv M c e H) {id:Nat} (hid:Af H id=true) (hs:(hget H id).solid=true) :
 ∃ cells el,e.w.heap[e.ρ id]?=some (.cells cells el (0,0))∧(hget H id).size≤cells.size∧R e (hget H id) (cells.toList.take (hget H id).size) :=
 (Cn hs).1 (h.blk id hid).2.1
theorem ET {w:World} {g:Nat} {old new:Array Value} {el:TypeId} {fz:Nat × Nat} (hg:w.heap[g]?=some (.cells old el fz)) (hsz:new.size=old.size) (b:Nat):BM (w.setRow g new) b=BM w b:=by
 unfold BM;by_cases h:b=g
 ·subst h;rw [setRow_heap _ _ _ _ _ _ hg,hg];exact hsz
 ·rw [setRow_other _ _ _ _ h]
theorem Env.le_row {e:Env} {g:Nat} {old new:Array Value} {el:TypeId} {fz:Nat × Nat} (hg:e.w.heap[g]?=some (.cells old el fz)) (hsz:new.size=old.size) (him:¬ e.im g) :
 e.le { e with w:=e.w.setRow g new } where
 D _ hi:=⟨hi,rfl⟩
 im b hb:=⟨hb,fun c el fz hc=>⟨el,fz,by
  show (e.w.setRow g new).heap[b]?=_
  rw [setRow_other _ _ _ _ (fun h':b=g=>him (h' ▸ hb))];exact hc⟩,fun es ck hc=>by
  show (e.w.setRow g new).heap[b]?=_
  rw [setRow_other _ _ _ _ (fun h':b=g=>him (h' ▸ hb))];exact hc⟩
 sz b:=Nat.le_of_eq (ET hg hsz b).symm
 φ:=rfl
 τ:=rfl
theorem Inv.row {M:Seat} {c:Ctx} {e:Env} {H:Hp} (h:Inv M c e H) {id:Nat} (hid:Af H id=true) {old new:Array Value} {el:TypeId} (hg:e.w.heap[e.ρ id]?=some (.cells old el (0,0)))
 (hsz:new.size=old.size) {z:V} (hs:z.solid=true) (hzs:z.size≤new.size) (hz:R e z (new.toList.take z.size)) :
 e.le { e with w:=e.w.setRow (e.ρ id) new }∧Inv M c { e with w:=e.w.setRow (e.ρ id) new } (BC H id z):=by
 obtain ⟨hD,_,him,hO⟩:=h.blk id hid;have hle:=Env.le_row hg hsz him;have hge:=h.ev.size;refine ⟨hle,?_,?_,?_,h.imo,?_,?_,h.keep,h.low,h.gs.mono hle,h.φ,h.τ⟩
 ·refine h.ev.trans (O':=fun b=>b=e.ρ id) ⟨rfl,rfl,rfl,by simp,fun b _ hb=>setRow_other _ _ _ _ hb,fun b=>Nat.le_of_eq (ET hg hsz b).symm⟩ ?_;rintro i rfl;exact hO
 ·intro j hj;rw [Cs] at hj;obtain ⟨h1,h2,h3,h4⟩:=h.blk j hj;refine ⟨h1,?_,h3,h4⟩;by_cases hji:j=id
  ·subst hji;rw [Ck _ _ _ hj];exact (Cn hs).2 ⟨new,el,setRow_heap _ _ _ _ _ _ hg,hzs,Bx hle hz⟩
  ·rw [BL _ _ _ hji];refine D5 hle h1 ?_ h2;exact setRow_other _ _ _ _ (fun hne=>hji (h.inj j id hj hid hne))
 ·intro i j hi hj;rw [Cs] at hi hj;exact h.inj i j hi hj
 ·intro b hb;rcases h.imb b hb with ⟨cells,el',fz,hc⟩ | ⟨es,ck,hc⟩
  ·exact .inl ⟨cells,el',fz,by show (e.w.setRow (e.ρ id) new).heap[b]?=_;rw [setRow_other _ _ _ _ (fun h':b=e.ρ id=>him (h' ▸ hb))];exact hc⟩
  ·exact .inr ⟨es,ck,by show (e.w.setRow (e.ρ id) new).heap[b]?=_;rw [setRow_other _ _ _ _ (fun h':b=e.ρ id=>him (h' ▸ hb))];exact hc⟩
 ·intro j hj;show e.ρ j < (e.w.setRow (e.ρ id) new).heap.size;rw [setRow_size];exact h.rb j hj
theorem Inv.del {M:Seat} {c:Ctx} {e:Env} {H:Hp} (h:Inv M c e H) (id:Nat):Inv M c e (CT H id):=by
 have key:∀ j,Af (CT H id) j=true→Af H j=true∧j ≠ id:=fun j hj=>by rw [CX] at hj;simpa using hj
 refine ⟨h.ev,fun j hj=>?_,fun i j hi hj=>h.inj i j (key i hi).1 (key j hj).1,h.imo,h.imb,h.rb,h.keep,h.low,h.gs,h.φ,h.τ⟩;obtain ⟨h1,h2⟩:=key j hj;rw [CZ _ _ h2];exact h.blk j h1
def c7:=@hget.eq_1
def c8:=@hget.eq_2
def c9:=@Af.eq_1
def d7:=@Af.eq_2
inductive X where
 | t (i:Nat)
 | c (v:V)
 | g (g:Nat)
 | fn (f:Nat)
def X.ev (A:List V):X→V
 | .t i=>A.getD i .junk
 | .c v=>v
 | .g j=>.imm (U8 j)
 | .fn f=>.fn f (.st 0 .fnil)
inductive Z where
 | int (k:IntKind)
 | bool
 | str
 | ptr
 | slice
 | map
 | func
 | iface
 | nil
 | cons (z:Z) (r:Z)
 | st (fs:Z)
 | ar (n:Nat) (z:Z)
def Z.sz:Z→Nat
 | .nil=>0
 | .cons z r=>z.sz + r.sz
 | .st fs=>fs.sz
 | .ar n z=>n * z.sz
 | _=>1
def Z.v:Z→Nat→V
 | .int k,_=>.int k 0
 | .bool,_=>.bool false
 | .str,_=>.str ByteArray.empty
 | .ptr,_=>.nilp
 | .slice,_=>.nils
 | .map,_=>.nilm
 | .func,_=>.nilf
 | .iface,_=>.nili
 | .nil,_=>.fnil
 | .cons z r,o=>.fcons o (z.v 0) (r.v (o + z.sz))
 | .st fs,_=>.st fs.sz (fs.v 0)
 | .ar n z,_=>.ar z.sz n (fun _=>z.v 0)
def Z.one:Z→Bool
 | .nil | .cons ..=>false
 | _=>true
def Z.isFs:Z→Bool
 | .nil=>true
 | .cons z r=>z.one && r.isFs
 | _=>false
def Z.eat:Z→List Value→Option (List Value)
 | .int k,.int k' n :: r=>if k=k'∧n=0 then some r else none
 | .bool,.bool b :: r=>if b=false then some r else none
 | .str,.string s :: r=>if s.size=0 then some r else none
 | .ptr,.pointer none :: r=>some r
 | .slice,.slice none 0 0 :: r=>some r
 | .map,.map none :: r=>some r
 | .func,.nilFunc :: r=>some r
 | .iface,.nilIface :: r=>some r
 | .nil,cs=>some cs
 | .cons z r,cs=>if z.one && r.isFs then
  (match z.eat cs with
  | some cs'=>r.eat cs'
  | none=>none) else none
 | .st fs,cs=>if fs.isFs then fs.eat cs else none
 | .ar n z,cs=>if z.one then Nat.rec (some cs) (fun _ acc=>match acc with | some cs'=>z.eat cs' | none=>none) n else none
 | _,_=>none
theorem Z.one_fs {z:Z} (h:z.one=true):z.isFs=false:=by cases z <;> first | rfl | cases h
theorem Z.v_size:∀ (z:Z) (o:Nat),z.one=true→(z.v o).size=z.sz
 | .int _,_,_ | .bool,_,_ | .str,_,_ | .ptr,_,_ | .slice,_,_ | .map,_,_ | .func,_,_ | .iface,_,_ | .st _,_,_ | .ar _ _,_,_=>rfl
theorem Z.v_solid:∀ (z:Z) (o:Nat),z.one=true→(z.v o).solid=true
 | .int _,_,_ | .bool,_,_ | .str,_,_ | .ptr,_,_ | .slice,_,_ | .map,_,_ | .func,_,_ | .iface,_,_ | .st _,_,_ | .ar _ _,_,_=>rfl
theorem Z.flo_fs (d:Nat):∀ (z:Z) (o:Nat),z.isFs=true→o≤d→(z.v o).flo d=(match z with | .nil=>d | _=>o)
 | .nil,_,_,_=>rfl
 | .cons _ _,_,_,_=>rfl
theorem Z.chain_fs:∀ (z:Z) (o:Nat),z.isFs=true→(z.v o).chain=true
 | .nil,_,_=>rfl
 | .cons _ _,_,_=>rfl
theorem Z.eat_R (e:Env):∀ (z:Z) (cs rest:List Value),z.eat cs=some rest →
 ∃ pre,cs=pre ++ rest∧pre.length=z.sz∧(∀ x ∈ pre,x.oneCell'=true) ∧
  (if z.isFs=true then ∀ front back:List Value,R e (z.v front.length) (front ++ pre ++ back) else R e (z.v 0) pre)
 | .int k, cs, rest, h => by
   cases cs with
   | nil=>simp [Z.eat] at h
   | cons x r=>cases x <;> simp [Z.eat] at h;obtain ⟨⟨rfl,rfl⟩,rfl⟩:=h;exact ⟨[_],rfl,rfl,by simp [Value.oneCell'],by simp [Z.isFs,Z.v,R]⟩
 | .bool, cs, rest, h => by
   cases cs with
   | nil=>simp [Z.eat] at h
   | cons x r =>
     cases x;case bool b =>
      cases b
      ·simp only [Z.eat,if_true,Option.some.injEq] at h;subst h;exact ⟨[_],rfl,rfl,by simp [Value.oneCell'],by simp [Z.isFs,Z.v,R]⟩
      ·simp [Z.eat] at h
     all_goals simp [Z.eat] at h
 | .str, cs, rest, h => by
   cases cs with
   | nil=>simp [Z.eat] at h
   | cons x r =>
     cases x <;> simp [Z.eat] at h;rename_i s;obtain ⟨h0,rfl⟩:=h;have:s=ByteArray.empty:=by
      first | exact h0 | exact ByteArray.size_eq_zero_iff.1 h0
     subst this;exact ⟨[_],rfl,rfl,by simp [Value.oneCell'],by simp [Z.isFs,Z.v,R]⟩
 | .ptr, cs, rest, h => by
   rcases cs with _ | ⟨x,r⟩
   ·simp [Z.eat] at h
   ·cases x;case pointer a=>cases a with
     | none=>simp only [Z.eat,Option.some.injEq] at h;subst h;exact ⟨[_],rfl,rfl,by simp [Value.oneCell'],by simp [Z.isFs,Z.v,R]⟩
     | some _=>simp [Z.eat] at h
    all_goals simp [Z.eat] at h
 | .slice, cs, rest, h => by
   rcases cs with _ | ⟨x,r⟩
   ·simp [Z.eat] at h
   ·cases x;case slice a l c =>
     rcases a with _ | a <;> rcases l with _ | l <;> rcases c with _ | c
     ·simp only [Z.eat,Option.some.injEq] at h;subst h;exact ⟨[_],rfl,rfl,by simp [Value.oneCell'],by simp [Z.isFs,Z.v,R]⟩
     all_goals simp [Z.eat] at h
    all_goals simp [Z.eat] at h
 | .map, cs, rest, h => by
   rcases cs with _ | ⟨x,r⟩
   ·simp [Z.eat] at h
   ·cases x;case map a=>cases a with
     | none=>simp only [Z.eat,Option.some.injEq] at h;subst h;exact ⟨[_],rfl,rfl,by simp [Value.oneCell'],by simp [Z.isFs,Z.v,R]⟩
     | some _=>simp [Z.eat] at h
    all_goals simp [Z.eat] at h
 | .func, cs, rest, h => by
   rcases cs with _ | ⟨x,r⟩
   ·simp [Z.eat] at h
   ·cases x;case nilFunc=>simp only [Z.eat,Option.some.injEq] at h;subst h;exact ⟨[_],rfl,rfl,by simp [Value.oneCell'],by simp [Z.isFs,Z.v,R]⟩
    all_goals simp [Z.eat] at h
 | .iface, cs, rest, h => by
   rcases cs with _ | ⟨x,r⟩
   ·simp [Z.eat] at h
   ·cases x;case nilIface=>simp only [Z.eat,Option.some.injEq] at h;subst h;exact ⟨[_],rfl,rfl,by simp [Value.oneCell'],by simp [Z.isFs,Z.v,R]⟩
    all_goals simp [Z.eat] at h
 | .nil, cs, rest, h => by
   simp [Z.eat] at h;subst h;exact ⟨[],rfl,rfl,by simp,by simp [Z.isFs,Z.v,R]⟩
 | .cons z r, cs, rest, h => by
   simp only [Z.eat] at h;by_cases hfs:(z.one && r.isFs)=true;case neg=>rw [if_neg hfs] at h;cases h
   rw [if_pos hfs] at h;simp only [Bool.and_eq_true] at hfs;obtain ⟨hzs,hrs⟩:=hfs;cases hz:z.eat cs with
   | none=>simp [hz] at h
   | some cs' =>
     simp only [hz] at h;obtain ⟨p1,rfl,l1,o1,r1⟩:=Z.eat_R e z cs cs' hz;obtain ⟨p2,rfl,l2,o2,r2⟩:=Z.eat_R e r cs' rest h;have hall:(Z.cons z r).isFs=true:=by simp only [Z.isFs,Bool.and_eq_true];exact ⟨hzs,hrs⟩
     refine ⟨p1 ++ p2,by simp,by simp [Z.sz,l1,l2],fun x hx=>(List.mem_append.1 hx).elim (o1 x) (o2 x),?_⟩;simp only [hall,if_true];intro front back;have hznf:=Z.one_fs (by assumption);simp only [hznf,O3] at r1;simp only [hrs,if_true] at r2;have hsz:=Z.v_size z 0 hzs;simp only [Z.v,R];have e2:front ++ (p1 ++ p2) ++ back=(front ++ p1) ++ p2 ++ back:=BF;refine ⟨Z.chain_fs r _ hrs,?_,?_,?_,?_⟩
     ·rw [hsz,Z.flo_fs _ _ _ hrs (by simp [l1])];split <;> simp [l1] <;> omega
     ·rw [hsz];simp only [List.length_append,l1];omega
     ·rw [hsz,← l1];simpa [List.drop_append,List.take_append] using r1
     ·have:=r2 (front ++ p1) back;rw [e2];simpa [l1] using this
 | .st fs, cs, rest, h => by
   simp only [Z.eat] at h;split at h
   ·rename_i hfs;obtain ⟨p1,rfl,l1,o1,r1⟩:=Z.eat_R e fs cs rest h;simp only [hfs,if_true] at r1;refine ⟨p1,rfl,l1,o1,?_⟩;have:=r1 [] [];simp only [Z.isFs,O3,Z.v,R];exact ⟨l1,⟨Z.chain_fs fs 0 hfs,o1⟩,by simpa using this⟩
   ·cases h
 | .ar n z, cs, rest, h => by
   have ih:=Z.eat_R e z;simp only [Z.eat] at h;by_cases hzs:z.one=true;case neg=>rw [if_neg hzs] at h;cases h
   rw [if_pos hzs] at h;have hznf:=Z.one_fs hzs;simp only [hznf,O3] at ih;have h':=h;have key:∀ (n:Nat) (rest:List Value),Nat.rec (motive:=fun _=>Option (List Value)) (some cs) (fun _ acc=>match acc with | some cs'=>z.eat cs' | none=>none) n=some rest →
    ∃ pre,cs=pre ++ rest∧pre.length=n * z.sz∧(∀ x ∈ pre,x.oneCell'=true)∧∀ i,i < n→R e (z.v 0) ((pre.drop (i * z.sz)).take z.sz):=by
    intro n;induction n with
    | zero=>intro rest hr;have hr':some cs=some rest:=hr;cases hr';exact ⟨[],rfl,by simp,by simp,fun i hi=>absurd hi Aa⟩
    | succ n ihn =>
      intro rest hr;have hr':(match (Nat.rec (motive:=fun _=>Option (List Value)) (some cs) (fun _ acc=>match acc with | some cs'=>z.eat cs' | none=>none) n) with | some cs'=>z.eat cs' | none=>none)=some rest:=hr;clear hr
      rename (_=some rest)=>hr
      split at hr
      ·rename_i cs' hc;obtain ⟨p1,h1,l1,o1,r1⟩:=ihn cs' hc;obtain ⟨p2,h2,l2,o2,r2⟩:=ih cs' rest hr;refine ⟨p1 ++ p2,by rw [h1,h2];simp,by simp [l1,l2,Nat.add_mul],fun x hx=>(List.mem_append.1 hx).elim (o1 x) (o2 x),fun i hi=>?_⟩;by_cases hin:i < n
       ·have hm:i * z.sz + z.sz≤n * z.sz:=by
         have:(i + 1) * z.sz≤n * z.sz:=Nat.mul_le_mul_right _ hin;rw [Nat.add_mul] at this;omega
        have e1:((p1 ++ p2).drop (i * z.sz)).take z.sz=(p1.drop (i * z.sz)).take z.sz:=by
         rw [List.drop_append_of_le_length Aa,List.take_append_of_le_length F6]
        rw [e1];exact r1 i hin
       ·have hin':i=n:=Aa;subst hin';have e1:((p1 ++ p2).drop (i * z.sz)).take z.sz=p2:=by
         rw [← l1,List.drop_append_of_le_length (Nat.le_refl _),List.drop_length,List.nil_append,List.take_of_length_le Aa]
        rw [e1];exact r2
      ·cases hr
   obtain ⟨pre,h1,l1,o1,r1⟩:=key n rest h';refine ⟨pre,h1,l1,o1,?_⟩;simp only [Z.isFs,O3,Z.v,R];exact ⟨l1,fun i hi=>⟨⟨Z.v_solid z 0 hzs,Z.v_size z 0 hzs⟩,r1 i hi⟩⟩
def Z.chk (z:Z) (x:Value):Bool :=
 z.one && (match z.eat x.cells.toList with | some []=>true | _=>false)
theorem Z.chk_R (e:Env) {z:Z} {x:Value} (h:z.chk x=true):x.cells.size=z.sz∧R e (z.v 0) x.cells.toList∧(z.v 0).solid=true∧(z.v 0).size=z.sz:=by
 simp only [Z.chk,Bool.and_eq_true] at h;obtain ⟨h1,h2⟩:=h;split at h2
 ·rename_i hz;obtain ⟨pre,e1,l1,_,r1⟩:=Z.eat_R e z _ _ hz;have hznf:=Z.one_fs (by assumption);simp only [hznf,O3] at r1;simp only [List.append_nil] at e1;refine ⟨by rw [← l1,← e1];simp,by rw [e1];exact r1,Z.v_solid z 0 h1,Z.v_size z 0 h1⟩
 ·cases h2
def c4:=@Z.v.eq_1
end Mv
