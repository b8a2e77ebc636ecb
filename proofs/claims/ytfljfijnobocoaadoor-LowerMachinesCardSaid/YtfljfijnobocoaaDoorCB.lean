/- A part. -/
import Derived.Test.YtfljfijnobocoaaDoorCA
import Derived.Laws.CopyRow
import Derived.Laws.Cells
set_option linter.all false
namespace Mv
open Go
abbrev Hp:=List (Nat × V)
def hget:Hp→Nat→V
 | [],_=>.junk
 | (i,c) :: r,k=>if i=k then c else hget r k
def Af:Hp→Nat→Bool
 | [],_=>false
 | (i,_) :: r,k=>i == k || Af r k
def Pi:=(C4 @Bool.or_eq_true @Af.eq_1 @Af.eq_2)
def BU:Hp→Nat→V→Hp
 | [],_,_=>[]
 | (i,c) :: r,k,v=>if i=k then (i,v) :: r else (i,c) :: BU r k v
def BS:Hp→Nat→Hp
 | [],_=>[]
 | (i,c) :: r,k=>if i=k then BS r k else (i,c) :: BS r k
theorem CF (k j:Nat) (v:V):∀ H:Hp,Af (BU H k v) j=Af H j
 | []=>rfl
 | (i, c) :: r => by
   simp only [BU]
   split
   ·rfl
   ·simp only [Af,CF k j v r]
theorem Cy (k:Nat) (v:V):∀ H:Hp,Af H k=true→hget (BU H k v) k=v
 | [],h=>by simp [Af] at h
 | (i, c) :: r, h => by
   simp only [BU]
   split
   ·rename_i hik;simp [hget,hik]
   ·rename_i hik
    simp only [Pi,beq_iff_eq,hik,false_or] at h
    simp only [hget,hik,if_false]
    exact Cy k v r h
theorem Cq (k j:Nat) (v:V) (hjk:j ≠ k):∀ H:Hp,hget (BU H k v) j=hget H j
 | []=>rfl
 | (i, c) :: r => by
   simp only [BU]
   split
   ·rename_i hik;subst hik;simp [hget,Ne.symm hjk]
   ·simp only [hget,Cq k j v hjk r]
theorem CC (k j:Nat):∀ H:Hp,Af (BS H k) j=(Af H j && j != k)
 | []=>rfl
 | (i, c) :: r => by
   simp only [BS]
   split
   ·rename_i hik
    subst hik
    rw [CC i j r]
    simp only [Af]
    by_cases h:j=i
    ·subst h;simp
    ·have:(i == j)=false:=by simp;exact fun h'=>h h'.symm
     simp [this]
   ·rename_i hik
    simp only [Af,CC k j r]
    by_cases h:i=j
    ·subst h;simp [hik]
    ·have:(i == j)=false:=Ke
     simp [this]
theorem CD (k j:Nat) (hjk:j ≠ k):∀ H:Hp,hget (BS H k) j=hget H j
 | []=>rfl
 | (i, c) :: r => by
   simp only [BS]
   split
   ·rename_i hik;subst hik;rw [CD i j hjk r];simp [hget,Ne.symm hjk]
   ·simp only [hget,CD k j hjk r]
def rounds:List Int:=[1,32898,9223372036854808714,9223372039002292224,32907,2147483649,9223372039002292353,9223372036854808585,138,136,2147516425,2147483658,2147516555,9223372036854775947,9223372036854808713,9223372036854808579,9223372036854808578,9223372036854775936,32778,9223372039002259466,9223372039002292353,9223372036854808704,2147483649,9223372039002292232]
def lanes:List Int:=[10,7,11,17,18,3,5,16,8,21,24,4,15,23,19,13,12,2,20,14,22,9,6,1]
def turns:List Int:=[1,3,6,10,15,21,28,36,45,55,2,14,27,41,56,8,25,43,62,18,39,61,20,44]
def Sa:Nat→V
 | 1=>.ar 1 24 (fun i=>.int .u64 (rounds.getD i 0))
 | 2=>.ar 1 24 (fun i=>.int .i64 (lanes.getD i 0))
 | 3=>.ar 1 24 (fun i=>.int .i64 (turns.getD i 0))
 | _=>.junk
structure Seat where
 P:Program
 φ:Nat→Nat
 τ:Nat→Nat
 γ:Nat→Nat
 gl:List Nat
 raw:List (Nat × Value):=[]
structure Ev (O:Nat→Prop) (w w':World):Prop where
 os:w'.os=w.os
 tape:w'.tape=w.tape
 output:w'.output=w.output
 size:w.heap.size≤w'.heap.size
 frame:∀ b,b < w.heap.size→¬ O b→w'.heap[b]?=w.heap[b]?
 bs:∀ b,Cf w b≤Cf w' b
theorem Ev.refl (O:Nat→Prop) (w:World):Ev O w w:=⟨rfl,rfl,rfl,Nat.le_refl _,fun _ _ _=>rfl,fun _=>Nat.le_refl _⟩
theorem Ev.trans {O O':Nat→Prop} {a b c:World} (h:Ev O a b) (k:Ev O' b c) (hO:∀ i,O' i→O i ∨ a.heap.size≤i):Ev O a c where
 os:=k.os.trans h.os
 tape:=k.tape.trans h.tape
 output:=k.output.trans h.output
 size:=Nat.le_trans h.size k.size
 frame i hi ho:=(k.frame i (Nat.lt_of_lt_of_le hi h.size) (fun ho'=>(hO i ho').elim ho Aa)).trans (h.frame i hi ho)
 bs i:=Nat.le_trans (h.bs i) (k.bs i)
theorem Ev.drew {O:Nat→Prop} {a w:World} (h:Ev O a w):Ev O a w.drew:=⟨h.os,h.tape,h.output,h.size,h.frame,h.bs⟩
structure Ctx where
 e0:Env
 O:Nat→Prop
 k:Nat
def D8 (e:Env) (id:Nat) (c:V):Prop :=
 match c with
 | .mp n ks vs=>∃ es clock,e.w.heap[e.ρ id]?=some (.map es clock)∧es.size=n∧∀ i x,es[i]?=some x→((ks i).solid=true∧RS e (ks i) x.key)∧(vs i).solid=true∧RS e (vs i) x.val
 | .tup (.map j)=>e.D j∧∃ since seen last,e.w.heap[e.ρ id]?=some (.mapIter (some (e.ρ j)) since seen last)
 | .tup (.fm ..)=>True
 | c=>c.solid=true∧∃ cells el,e.w.heap[e.ρ id]?=some (.cells cells el (0,0))∧c.size≤cells.size∧R e c (cells.toList.take c.size)
def GS (M:Seat) (e:Env):Prop :=
 (∀ g,g ∈ M.gl→R e (.imm (Sa g)) [.pointer (some ⟨M.γ g,0,none⟩)])∧∀ p,p ∈ M.raw→e.im p.1∧∃ c el fz,e.w.heap[p.1]?=some (.cells c el fz)∧c[0]?=some p.2
theorem GS.mono {M:Seat} {e e':Env} (hle:e.le e') (h:GS M e):GS M e' :=
 ⟨fun g hg=>BX hle (h.1 g hg),fun p hp=>by
  obtain ⟨h1,c,el,fz,h2,h3⟩:=h.2 p hp
  obtain ⟨k1,k2,_⟩:=hle.im _ h1
  obtain ⟨el',fz',k3⟩:=k2 c el fz h2
  exact ⟨k1,c,el',fz',k3,h3⟩⟩
structure Inv (M:Seat) (c:Ctx) (e:Env) (H:Hp):Prop where
 ev:Ev c.O c.e0.w e.w
 blk:∀ id,Af H id=true→e.D id∧D8 e id (hget H id)∧¬ e.im (e.ρ id)∧(c.O (e.ρ id) ∨ c.e0.w.heap.size≤e.ρ id)
 inj:∀ i j,Af H i=true→Af H j=true→e.ρ i=e.ρ j→i=j
 imo:∀ b,e.im b→c.e0.im b ∨ c.O b ∨ c.e0.w.heap.size≤b
 imb:∀ b,e.im b→(∃ cells el fz,e.w.heap[b]?=some (.cells cells el fz)) ∨ ∃ es ck,e.w.heap[b]?=some (.map es ck)
 rb:∀ id,e.D id→e.ρ id < e.w.heap.size
 keep:∀ b,c.e0.im b→e.im b
 low:∀ id,id < c.k→e.D id∧e.ρ id=c.e0.ρ id
 gs:GS M e
 φ:e.φ=M.φ
 τ:e.τ=M.τ
theorem BZ {e:Env} {id:Nat} {c:V} (hs:c.solid=true):D8 e id c ↔ ∃ cells el,e.w.heap[e.ρ id]?=some (.cells cells el (0,0))∧c.size≤cells.size∧R e c (cells.toList.take c.size):=by
 cases c <;> simp_all [D8,V.solid]
theorem BA {e e':Env} (hle:e.le e') {id:Nat} {c:V} (hD:e.D id) (hb:e'.w.heap[e.ρ id]?=e.w.heap[e.ρ id]?) (h:D8 e id c):D8 e' id c:=by
 have hr:=(hle.D id hD).2
 cases c
 case mp n ks vs =>
  obtain ⟨es,clock,h1,h2,h3⟩:=h
  exact ⟨es,clock,by rw [hr,hb];exact h1,h2,fun i x hx=>⟨⟨(h3 i x hx).1.1,D9 hle (h3 i x hx).1.2⟩,(h3 i x hx).2.1,D9 hle (h3 i x hx).2.2⟩⟩
 case tup fs =>
  cases fs
  case map j =>
   obtain ⟨hj,since,seen,last,h1⟩:=h
   obtain ⟨k1,k2⟩:=hle.D j hj
   exact ⟨k1,since,seen,last,by rw [hr,hb,k2];exact h1⟩
  case fm=>trivial
  all_goals exact absurd (show false=true from h.1) Am
 all_goals
  obtain ⟨h0,cells,el,h1,h2,h3⟩:=h
  exact ⟨h0,cells,el,by rw [hr,hb];exact h1,h2,BX hle h3⟩
theorem D7 (w:World) (o:Obj) (b:Nat):Cf w b≤Cf (w.alloc o) b:=by
 unfold Cf
 by_cases h:b < w.heap.size
 ·have:(w.alloc o).heap[b]?=w.heap[b]?:=by simp only [World.alloc,Array.getElem?_push];rw [if_neg Aa]
  rw [this];exact Nat.le_refl _
 ·have:w.heap[b]?=none:=Array.getElem?_eq_none Aa
  rw [this];exact Nat.zero_le _
theorem A9 (w:World) (o:Obj) {b:Nat} (h:b < w.heap.size):(w.alloc o).heap[b]?=w.heap[b]?:=by
 simp only [World.alloc,Array.getElem?_push];rw [if_neg Aa]
theorem Dt (w:World) (o:Obj):(w.alloc o).heap[w.heap.size]?=some o:=by
 show (w.heap.push o)[w.heap.size]?=_
 simp
def Env.new (e:Env) (n:Nat) (o:Obj):Env :=
 { e with ρ:=fun i=>if i=n then e.w.heap.size else e.ρ i,D:=fun i=>i=n ∨ e.D i,w:=e.w.alloc o }
theorem Env.le_new {e:Env} {n:Nat} (o:Obj) (hn:¬ e.D n) (himb:∀ b,e.im b→b < e.w.heap.size):e.le (e.new n o) where
 D i hi:=⟨.inr hi,by
  have:i ≠ n:=fun h=>hn (h ▸ hi)
  simp [Env.new,this]⟩
 im b hb:=⟨hb,fun c el fz hc=>⟨el,fz,by
  show (e.w.alloc o).heap[b]?=_
  rw [A9 _ _ (himb b hb)];exact hc⟩,fun es ck hc=>by
  show (e.w.alloc o).heap[b]?=_
  rw [A9 _ _ (himb b hb)];exact hc⟩
 sz b:=D7 _ _ _
 φ:=rfl
 τ:=rfl
theorem Inv.imlt {M:Seat} {c:Ctx} {e:Env} {H:Hp} (h:Inv M c e H):∀ b,e.im b→b < e.w.heap.size:=fun b hb=>by
 rcases h.imb b hb with ⟨cells,el,fz,hc⟩ | ⟨es,ck,hc⟩
 ·exact (Array.getElem?_eq_some_iff.1 hc).1
 ·exact (Array.getElem?_eq_some_iff.1 hc).1
theorem Inv.new {M:Seat} {c:Ctx} {e:Env} {H:Hp} (h:Inv M c e H) {n:Nat} (hn:¬ e.D n) (hk:c.k≤n) {o:Obj} {z:V} (hz:D8 (e.new n o) n z) :
 Inv M c (e.new n o) ((n,z) :: H):=by
 have hle:=Env.le_new o hn h.imlt
 have hnH:Af H n=false:=by
  cases hh:Af H n with
  | false=>rfl
  | true=>exact absurd (h.blk n hh).1 hn
 have hρ:∀ i,e.D i→(e.new n o).ρ i=e.ρ i:=fun i hi=>(hle.D i hi).2
 have hρn:(e.new n o).ρ n=e.w.heap.size:=by simp [Env.new]
 have hge:=h.ev.size
 refine ⟨?_,?_,?_,h.imo,?_,?_,h.keep,?_,?_,h.φ,h.τ⟩
 ·exact h.ev.trans (O':=fun _=>False) ⟨rfl,rfl,rfl,by simp [Env.new],fun b hb _=>A9 _ _ hb,fun b=>D7 _ _ b⟩ (fun _ hf=>hf.elim)
 ·intro id hid
  by_cases hidn:id=n
  ·subst hidn
   refine ⟨.inl rfl,by simpa [hget] using hz,?_,.inr ?_⟩
   ·rw [hρn];intro him;have:=h.imlt _ him;omega
   ·rw [hρn];exact hge
  ·have hid':Af H id=true:=by
    simp only [Pi,beq_iff_eq] at hid
    exact hid.resolve_left (fun h'=>hidn h'.symm)
   obtain ⟨h1,h2,h3,h4⟩:=h.blk id hid'
   have hg:hget ((n,z) :: H) id=hget H id:=by simp [hget,Ne.symm hidn]
   rw [hg,hρ id h1]
   exact ⟨.inr h1,BA hle h1 (A9 _ _ (h.rb id h1)) h2,h3,h4⟩
 ·have key:∀ i,Af ((n,z) :: H) i=true→i ≠ n→Af H i=true:=fun i hi hin=>by
   simp only [Pi,beq_iff_eq] at hi
   exact hi.resolve_left (fun h'=>hin h'.symm)
  intro i j hi hj hij
  by_cases hin:i=n <;> by_cases hjn:j=n
  ·rw [hin,hjn]
  ·subst hin
   have hj':=key j hj hjn
   rw [hρn,hρ j (h.blk j hj').1] at hij
   have:=h.rb j (h.blk j hj').1
   omega
  ·subst hjn
   have hi':=key i hi hin
   rw [hρn,hρ i (h.blk i hi').1] at hij
   have:=h.rb i (h.blk i hi').1
   omega
  ·have hi':=key i hi hin
   have hj':=key j hj hjn
   rw [hρ i (h.blk i hi').1,hρ j (h.blk j hj').1] at hij
   exact h.inj i j hi' hj' hij
 ·intro b hb
  rcases h.imb b hb with ⟨cells,el,fz,hc⟩ | ⟨es,ck,hc⟩
  ·exact .inl ⟨cells,el,fz,by show (e.w.alloc o).heap[b]?=_;rw [A9 _ _ (h.imlt b hb)];exact hc⟩
  ·exact .inr ⟨es,ck,by show (e.w.alloc o).heap[b]?=_;rw [A9 _ _ (h.imlt b hb)];exact hc⟩
 ·intro id hid
  rcases hid with rfl | hid
  ·rw [hρn];simp [Env.new]
  ·rw [hρ id hid];have:=h.rb id hid;simp [Env.new];omega
 ·intro id hid
  obtain ⟨h1,h2⟩:=h.low id hid
  exact ⟨.inr h1,(hρ id h1).trans h2⟩
 ·exact h.gs.mono hle
theorem Inv.cells {M:Seat} {c:Ctx} {e:Env} {H:Hp} (h:Inv M c e H) {id:Nat} (hid:Af H id=true) (hs:(hget H id).solid=true) :
 ∃ cells el,e.w.heap[e.ρ id]?=some (.cells cells el (0,0))∧(hget H id).size≤cells.size∧R e (hget H id) (cells.toList.take (hget H id).size) :=
 (BZ hs).1 (h.blk id hid).2.1
theorem E1 {w:World} {g:Nat} {old new:Array Value} {el:TypeId} {fz:Nat × Nat} (hg:w.heap[g]?=some (.cells old el fz)) (hsz:new.size=old.size) (b:Nat):Cf (w.setRow g new) b=Cf w b:=by
 unfold Cf
 by_cases h:b=g
 ·subst h;rw [setRow_heap _ _ _ _ _ _ hg,hg];exact hsz
 ·rw [setRow_other _ _ _ _ h]
theorem Env.le_row {e:Env} {g:Nat} {old new:Array Value} {el:TypeId} {fz:Nat × Nat} (hg:e.w.heap[g]?=some (.cells old el fz)) (hsz:new.size=old.size) (him:¬ e.im g) :
 e.le { e with w:=e.w.setRow g new } where
 D _ hi:=⟨hi,rfl⟩
 im b hb:=⟨hb,fun c el fz hc=>⟨el,fz,by
  show (e.w.setRow g new).heap[b]?=_
  rw [setRow_other _ _ _ _ (fun h':b=g=>him (h' ▸ hb))];exact hc⟩,fun es ck hc=>by
  show (e.w.setRow g new).heap[b]?=_
  rw [setRow_other _ _ _ _ (fun h':b=g=>him (h' ▸ hb))];exact hc⟩
 sz b:=Nat.le_of_eq (E1 hg hsz b).symm
 φ:=rfl
 τ:=rfl
theorem Inv.row {M:Seat} {c:Ctx} {e:Env} {H:Hp} (h:Inv M c e H) {id:Nat} (hid:Af H id=true) {old new:Array Value} {el:TypeId} (hg:e.w.heap[e.ρ id]?=some (.cells old el (0,0)))
 (hsz:new.size=old.size) {z:V} (hs:z.solid=true) (hzs:z.size≤new.size) (hz:R e z (new.toList.take z.size)) :
 e.le { e with w:=e.w.setRow (e.ρ id) new }∧Inv M c { e with w:=e.w.setRow (e.ρ id) new } (BU H id z):=by
 obtain ⟨hD,_,him,hO⟩:=h.blk id hid
 have hle:=Env.le_row hg hsz him
 have hge:=h.ev.size
 refine ⟨hle,?_,?_,?_,h.imo,?_,?_,h.keep,h.low,h.gs.mono hle,h.φ,h.τ⟩
 ·refine h.ev.trans (O':=fun b=>b=e.ρ id) ⟨rfl,rfl,rfl,by simp,fun b _ hb=>setRow_other _ _ _ _ hb,fun b=>Nat.le_of_eq (E1 hg hsz b).symm⟩ ?_
  rintro i rfl
  exact hO
 ·intro j hj
  rw [CF] at hj
  obtain ⟨h1,h2,h3,h4⟩:=h.blk j hj
  refine ⟨h1,?_,h3,h4⟩
  by_cases hji:j=id
  ·subst hji
   rw [Cy _ _ _ hj]
   exact (BZ hs).2 ⟨new,el,setRow_heap _ _ _ _ _ _ hg,hzs,BX hle hz⟩
  ·rw [Cq _ _ _ hji]
   refine BA hle h1 ?_ h2
   exact setRow_other _ _ _ _ (fun hne=>hji (h.inj j id hj hid hne))
 ·intro i j hi hj
  rw [CF] at hi hj
  exact h.inj i j hi hj
 ·intro b hb
  rcases h.imb b hb with ⟨cells,el',fz,hc⟩ | ⟨es,ck,hc⟩
  ·exact .inl ⟨cells,el',fz,by show (e.w.setRow (e.ρ id) new).heap[b]?=_;rw [setRow_other _ _ _ _ (fun h':b=e.ρ id=>him (h' ▸ hb))];exact hc⟩
  ·exact .inr ⟨es,ck,by show (e.w.setRow (e.ρ id) new).heap[b]?=_;rw [setRow_other _ _ _ _ (fun h':b=e.ρ id=>him (h' ▸ hb))];exact hc⟩
 ·intro j hj
  show e.ρ j < (e.w.setRow (e.ρ id) new).heap.size
  rw [setRow_size];exact h.rb j hj
theorem Inv.del {M:Seat} {c:Ctx} {e:Env} {H:Hp} (h:Inv M c e H) (id:Nat):Inv M c e (BS H id):=by
 have key:∀ j,Af (BS H id) j=true→Af H j=true∧j ≠ id:=fun j hj=>by rw [CC] at hj;simpa using hj
 refine ⟨h.ev,fun j hj=>?_,fun i j hi hj=>h.inj i j (key i hi).1 (key j hj).1,h.imo,h.imb,h.rb,h.keep,h.low,h.gs,h.φ,h.τ⟩
 obtain ⟨h1,h2⟩:=key j hj
 rw [CD _ _ h2]
 exact h.blk j h1
end Mv
