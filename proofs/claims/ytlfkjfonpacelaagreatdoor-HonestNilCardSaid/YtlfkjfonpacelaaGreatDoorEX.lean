/- A part. -/
import Derived.Test.YtlfkjfonpacelaaGreatDoorEW
set_option linter.all false
namespace Mv
open Go
variable {M:Seat}
theorem Inv.sim2 {c c':Ctx} {e:Env} {H:Hp} (hI:Inv M c e H) {m z:List Nat} (hm:m.Nodup) (hz:∀ i ∈ z,i ∉ m) {H':Hp} (hH:Br H m z H')
 (hc:(c'=c∧∀ j,j < c.k→m[j]?=some j) ∨ (c'=⟨e.sim H m z,fun b=>∃ id,Af H' id=true∧(e.sim H m z).ρ id=b,m.length⟩∧∀ i ∈ m,e.D i)):Inv M c' (e.sim H m z) H':=by
 have hp:=Pull.of hI m z
 have hblk:∀ j,Af H' j=true→(e.sim H m z).D j∧D8 (e.sim H m z) j (hget H' j)∧¬ (e.sim H m z).im ((e.sim H m z).ρ j)∧(c.O ((e.sim H m z).ρ j) ∨ c.e0.w.heap.size≤(e.sim H m z).ρ j):=by
  intro j hj
  obtain ⟨i,h1,h2,h3⟩:=Cw hH j hj
  obtain ⟨k1,k2,k3,k4⟩:=hI.blk i h2
  have hρ:(e.sim H m z).ρ j=e.ρ i:=by simp [Env.sim,h1]
  refine ⟨⟨i,h1,k1⟩,KJ hp hρ h3 k2,?_,?_⟩
  ·rw [hρ]
   rintro (h | ⟨i',hf,he⟩)
   ·exact k3 h
   ·obtain ⟨f1,f2,_⟩:=Es hf
    have:=hI.inj i i' h2 f2 he
    subst this
    exact hz _ f1 (List.mem_of_getElem? h1)
  ·rw [hρ];exact k4
 have hinj:∀ i j,Af H' i=true→Af H' j=true→(e.sim H m z).ρ i=(e.sim H m z).ρ j→i=j:=by
  intro i j hi hj hij
  obtain ⟨i',h1,h2,_⟩:=Cw hH i hi
  obtain ⟨j',h3,h4,_⟩:=Cw hH j hj
  simp only [Env.sim,h1,h3] at hij
  have:=hI.inj i' j' h2 h4 hij
  subst this
  exact getElem?_nodup hm h1 h3
 have himo:∀ b,(e.sim H m z).im b→c.e0.im b ∨ c.O b ∨ c.e0.w.heap.size≤b:=by
  rintro b (h | ⟨i,hf,rfl⟩)
  ·exact hI.imo b h
  ·exact .inr (hI.blk i (Es hf).2.1).2.2.2
 have himb:∀ b,(e.sim H m z).im b→∃ cells el fz,(e.sim H m z).w.heap[b]?=some (.cells cells el fz):=by
  rintro b (h | ⟨i,hf,rfl⟩)
  ·exact hI.imb b h
  ·obtain ⟨_,cells,el,h1,_⟩:=hp.fz i hf
   exact ⟨cells,el,_,h1⟩
 have hrb:∀ id,(e.sim H m z).D id→(e.sim H m z).ρ id < (e.sim H m z).w.heap.size:=by
  rintro id ⟨i,h1,h2⟩
  simp only [Env.sim,h1]
  exact hI.rb i h2
 have hgs:GS M (e.sim H m z):=⟨fun g hg =>
  CW hp (show Az H m z (.imm (Sa g)) (.imm (Sa g)) from Qw H m z g) (hI.gs.1 g hg),fun p hp'=>⟨.inl (hI.gs.2 p hp').1,(hI.gs.2 p hp').2⟩⟩
 rcases hc with ⟨rfl,hlow⟩ | ⟨rfl,hall⟩
 ·refine ⟨hI.ev,hblk,hinj,himo,himb,hrb,fun b hb=>.inl (hI.keep b hb),fun id hid=>?_,hgs,hI.φ,hI.τ⟩
  obtain ⟨h1,h2⟩:=hI.low id hid
  exact ⟨⟨id,hlow id hid,h1⟩,by simp only [Env.sim,hlow id hid];exact h2⟩
 ·refine ⟨Ev.refl _ _,fun j hj=>⟨(hblk j hj).1,(hblk j hj).2.1,(hblk j hj).2.2.1,.inl ⟨j,hj,rfl⟩⟩,hinj,fun b hb=>.inl hb,himb,hrb,fun b hb=>hb,fun id hid=>⟨?_,rfl⟩,hgs,hI.φ,hI.τ⟩
  have hid':id < m.length:=hid
  exact ⟨m[id],List.getElem?_eq_getElem hid',hall _ (List.getElem_mem hid')⟩
def Cg (us:List V) (i:Nat):Bool:=us.any fun v=>match v with | .ptr j _=>j == i | .map j=>j == i | .sl j _ _ _ _=>j == i | _=>false
theorem UM {e:Env} {us:List V} {vs:Array Value} (h:HN e us vs) {i:Nat} (hi:Cg us i=true):e.D i:=by
 unfold Cg at hi
 rw [List.any_eq_true] at hi
 obtain ⟨v,hv,hvi⟩:=hi
 obtain ⟨t,ht,rfl⟩:=List.getElem_of_mem hv
 have:=h.2 t
 rw [show us.getD t .junk=us[t] by simp [List.getD,ht]] at this
 generalize us[t]=v at *
 cases v <;> simp only [Bool.false_eq_true,beq_iff_eq] at hvi
 all_goals (subst hvi;simp only [RV,RS,V.isAgg,R] at this;exact this.1)
def EM (i:Nat):V→Bool
 | .ptr j _=>j == i
 | .map j=>j == i
 | .sl j _ _ _ _=>j == i
 | .ifc _ v=>EM i v
 | .st _ fs=>EM i fs
 | .fcons _ v r=>EM i r || EM i v
 | _=>false
theorem Fo {e:Env} {i:Nat}:∀ {v:V} {cs:List Value},R e v cs→EM i v=true→e.D i
 | .ptr j p,cs,h,hi=>by simp only [EM,beq_iff_eq] at hi;subst hi;simp only [R] at h;exact h.1
 | .map j,cs,h,hi=>by simp only [EM,beq_iff_eq] at hi;subst hi;simp only [R] at h;exact h.1
 | .sl j _ _ _ _,cs,h,hi=>by simp only [EM,beq_iff_eq] at hi;subst hi;simp only [R] at h;exact h.1
 | .ifc _ v, cs, h, hi => by
   simp only [R] at h
   obtain ⟨x,_,_,h⟩:=h
   split at h
   ·obtain ⟨c,_,h⟩:=h;exact Fo h hi
   ·exact Fo h hi
 | .st _ fs,cs,h,hi=>by simp only [R] at h;exact Fo h.2.2 hi
 | .fcons _ v r, cs, h, hi => by
   simp only [R] at h
   simp only [EM,Bool.or_eq_true] at hi
   exact hi.elim (Fo h.2.2.2.2) (Fo h.2.2.2.1)
 | .junk,_,_,hi | .int ..,_,_,hi | .bool _,_,_,hi | .str _,_,_,hi | .nilp,_,_,hi | .imm _,_,_,hi | .nils,_,_,hi | .lst ..,_,_,hi | .nilm,_,_,hi | .nilf,_,_,hi | .fn ..,_,_,hi | .nili,_,_,hi | .ar ..,_,_,hi | .fnil,_,_,hi | .tup _,_,_,hi | .mp ..,_,_,hi=>by simp [EM] at hi
def GJ (l:List Nat) (H:Hp) (i:Nat):Bool:=l.any fun p=>Af H p && (hget H p).solid && EM i (hget H p)
theorem Ad9 {c:Ctx} {e:Env} {l:List Nat} {H:Hp} (hI:Inv M c e H) {i:Nat} (hi:GJ l H i=true):e.D i:=by
 unfold GJ at hi
 rw [List.any_eq_true] at hi
 obtain ⟨p,_,hp⟩:=hi
 simp only [Bool.and_eq_true] at hp
 obtain ⟨_,_,_,_,hR⟩:=hI.cells hp.1.1 hp.1.2
 exact Fo hR hp.2
theorem FV {f:Nat} {us:List V} {H:Hp} {n:Nat} {K:V→Hp→Prop} {us0:List V} {H0:Hp} {k:Nat} {Q:V→Hp→Nat→Prop} (hr:Ag M f us0 H0 k Q) (L:Prop) [Decidable L] (m m0 z:List Nat) (h0:∀ id i,Af H0 id=true→m[id]?=some i→i ∈ m0) (h0m:∀ i ∈ m0,i ∈ m)
 (hm:m.Nodup) (hz:∀ i ∈ z,i ∉ m) (hk:m.length=k) (hall0:∀ i ∈ m0,Af H i=true) (hall:∀ i ∈ m,Af H i=true ∨ Cg us i=true ∨ GJ m0 H i=true) (hus:Bd H m z us0 us) (hH:Br H m z H0)
 (hK:∀ v H' k',Q v H' k'→(k'≤k + 16∧(L→AC v∧QI H'))∧K (v.ren (Bh m n k')) (AV (Bh m n k') H' ++ A6 H (if L then m0 else m0 ++ z))):AR M f us H n K:=by
 intro c e vs hI hD hcn ⟨hvs,hargs⟩
 subst hk
 have hp:=Pull.of hI m z
 have hmD:∀ i ∈ m,e.D i:=fun i hi=>(hall i hi).elim (fun h=>(hI.blk i h).1) (fun h=>h.elim (UM ⟨hvs,hargs⟩) (Ad9 hI))
 have hI2:Inv M ⟨e.sim H m z,fun b=>∃ id,Af H0 id=true∧(e.sim H m z).ρ id=b,m.length⟩ (e.sim H m z) H0:=hI.sim2 hm hz hH (.inr ⟨rfl,hmD⟩)
 have hmn:∀ i ∈ m,i < n:=fun i hi=>Nat.lt_of_not_le (fun h=>hD i h (hmD i hi))
 refine (hr (e.sim H m z) vs hI2 ?_ ⟨hvs.trans (Gf hus).symm,fun t=>Lh hp (Gc hus t) (hargs t)⟩).mono ?_
 ·rintro id hid ⟨i,h1,_⟩
  have:=(List.getElem?_eq_some_iff.1 h1).1
  omega
 rintro en w' ⟨x,v,e2,H',k',rfl,rfl,hI',hv,hD',hkk,hQ⟩
 obtain ⟨⟨hk16,hL⟩,hKK⟩:=hK v H' k' hQ
 have hO:∀ b,(∃ id,Af H0 id=true∧(e.sim H m z).ρ id=b)→∃ i ∈ m0,e.ρ i=b:=by
  rintro b ⟨id,h1,h2⟩
  obtain ⟨i,k1,k2,_⟩:=Cw hH id h1
  exact ⟨i,h0 id i h1 k1,by simpa [Env.sim,k1] using h2⟩
 have hsame:∀ b,b < e.w.heap.size→(∀ i ∈ m0,e.ρ i ≠ b)→e2.w.heap[b]?=e.w.heap[b]?:=fun b hb hn =>
  hI'.ev.frame b hb (fun ho=>by obtain ⟨i,h1,h2⟩:=hO b ho;exact hn i h1 h2)
 have hsize:e.w.heap.size≤e2.w.heap.size:=hI'.ev.size
 let e' : Env := { ρ := fun i => if n ≤ i then e2.ρ (m.length + (i - n)) else e.ρ i
                   D:=fun i=>e.D i ∨ (n≤i∧e2.D (m.length + (i - n)))
                   im:=fun b=>if L then e.im b else e2.im b
                   w:=e2.w,φ:=e2.φ,τ:=e2.τ }
 have hφ:e2.φ=e.φ:=hI'.φ.trans hI.φ.symm
 have hτ:e2.τ=e.τ:=hI'.τ.trans hI.τ.symm
 have him2:∀ b,e.im b→e2.im b:=fun b hb=>hI'.keep b (.inl hb)
 have him':∀ b,e.im b→e'.im b:=fun b hb=>by
  show if L then _ else _
  split
  ·exact hb
  ·exact him2 b hb
 have him2':∀ b,e'.im b→e2.im b:=fun b hb=>by
  have hb:if L then e.im b else e2.im b:=hb
  split at hb
  ·exact him2 b hb
  ·exact hb
 have hρold:∀ i,e.D i→e'.ρ i=e.ρ i:=fun i hi=>by
  show (if n≤i then _ else _)=_
  rw [if_neg (fun h=>hD i h hi)]
 have hle:e.le e':=by
  refine ⟨fun i hi=>⟨.inl hi,hρold i hi⟩,fun b hb=>⟨him' b hb,fun cc el fz hc=>⟨el,fz,?_⟩⟩,hI'.ev.bs,hφ,hτ⟩
  show e2.w.heap[b]?=_
  rw [hsame b (hI.imlt b hb) (fun i hi he=>(hI.blk i (hall0 i hi)).2.2.1 (he ▸ hb))]
  exact hc
 have hpush:Push L (Bh m n k') e2 e':=by
  refine ⟨fun j hj=>?_,fun hnl b hb=>?_,rfl,rfl,rfl⟩
  ·have hjk:j < k':=Nat.lt_of_not_le (fun h=>hD' j h hj)
   have hg:=Nh (n:=n) hkk j hjk
   by_cases hjm:j < m.length
   ·rw [dif_pos hjm] at hg
    have hmj:=hmD m[j] (List.getElem_mem hjm)
    refine ⟨m[j],hg,.inl hmj,?_⟩
    rw [hρold _ hmj]
    have:=(hI'.low j hjm).2
    rw [this]
    simp [Env.sim,List.getElem?_eq_getElem hjm]
   ·rw [dif_neg hjm] at hg
    have e1:m.length + (n + (j - m.length) - n)=j:=Aa
    refine ⟨_,hg,.inr ⟨by omega,by rw [e1];exact hj⟩,?_⟩
    show (if _ then _ else _)=_
    rw [if_pos Aa,e1]
  ·show if L then _ else _
   rw [if_neg hnl];exact hb
 have hnd:(Bh m n k').Nodup:=JY hm hmn
 have hnew:∀ b,(∃ id,Af H0 id=true∧(e.sim H m z).ρ id=b) ∨ (e.sim H m z).w.heap.size≤b→c.O b ∨ c.e0.w.heap.size≤b:=by
  rintro b (h | h)
  ·obtain ⟨i,h1,rfl⟩:=hO b h
   exact (hI.blk i (hall0 i h1)).2.2.2
  ·have h:e.w.heap.size≤b:=h
   have:=hI.ev.size
   exact .inr Aa
 have hold:∀ id,Af (A6 H (if L then m0 else m0 ++ z)) id=true→Af H id=true∧id ∉ m0∧(¬ L→id ∉ z)∧hget (A6 H (if L then m0 else m0 ++ z)) id=hget H id:=by
  intro id hid
  rw [FQ] at hid
  simp only [Ww,List.contains_eq_mem,decide_eq_false_iff_not] at hid
  refine ⟨hid.1,?_,?_,FJ _ _ _ hid.2⟩
  ·intro h';apply hid.2;split
   ·exact h'
   ·exact List.mem_append_left _ h'
  ·intro hnl h';apply hid.2;rw [if_neg hnl];exact List.mem_append_right _ h'
 have hrenb:∀ id,Af (AV (Bh m n k') H') id=true→∃ j,Af H' j=true∧e'.D id∧e'.ρ id=e2.ρ j∧(Bh m n k')[j]?=some id∧hget (AV (Bh m n k') H') id=(hget H' j).ren (Bh m n k'):=by
  intro id hid
  obtain ⟨j,h1,h2,h3⟩:=GE hnd hid
  obtain ⟨i,k1,k2,k3⟩:=hpush.D j (hI'.blk j h2).1
  rw [h1] at k1
  simp only [Option.some.injEq] at k1
  subst k1
  exact ⟨j,h2,k2,k3,h1,h3⟩
 refine ⟨x,v.ren (Bh m n k'),e',AV (Bh m n k') H' ++ A6 H (if L then m0 else m0 ++ z),rfl,rfl,hle,?_,Ql hpush (fun hl=>(hL hl).1) hv,?_,hKK⟩
 ·have hblk:∀ id,Af (AV (Bh m n k') H' ++ A6 H (if L then m0 else m0 ++ z)) id=true→(Af (AV (Bh m n k') H') id=true∧hget (AV (Bh m n k') H' ++ A6 H (if L then m0 else m0 ++ z)) id=hget (AV (Bh m n k') H') id) ∨ (Af (A6 H (if L then m0 else m0 ++ z)) id=true∧hget (AV (Bh m n k') H' ++ A6 H (if L then m0 else m0 ++ z)) id=hget (A6 H (if L then m0 else m0 ++ z)) id):=by
   intro id hid
   rw [Ba] at hid
   cases hr':Af (AV (Bh m n k') H') id with
   | true=>exact .inl ⟨rfl,Cn hr'⟩
   | false=>rw [hr',Bool.false_or] at hid;exact .inr ⟨hid,AN hr'⟩
  have hsep:∀ i j,Af H i=true→i ∉ m0→Af H' j=true→e.ρ i ≠ e2.ρ j:=by
   intro i j hi him hj he
   rcases (hI'.blk j hj).2.2.2 with h | h
   ·obtain ⟨i',h1,h2⟩:=hO _ h
    exact him (by rw [hI.inj i i' hi (hall0 i' h1) (he.trans h2.symm)];exact h1)
   ·have h:e.w.heap.size≤e2.ρ j:=h
    have:=hI.rb i (hI.blk i hi).1
    omega
  refine ⟨?_,?_,?_,?_,?_,?_,fun b hb=>him' b (hI.keep b hb),?_,hI.gs.mono hle,hI'.φ,hI'.τ⟩
  ·exact hI.ev.trans hI'.ev (fun b hb=>by
    obtain ⟨i,h1,rfl⟩:=hO b hb
    rcases (hI.blk i (hall0 i h1)).2.2.2 with h | h
    ·exact .inl h
    ·exact .inr h)
  ·intro id hid
   rcases hblk id hid with ⟨h1,h2⟩ | ⟨h1,h2⟩
   ·obtain ⟨j,k1,k2,k3,k4,k5⟩:=hrenb id h1
    obtain ⟨q1,q2,q3,q4⟩:=hI'.blk j k1
    rw [h2,k5,k3]
    exact ⟨k2,Jo hpush k3 (fun hl=>(hL hl).2 j k1) q2,fun h=>q3 (him2' _ h),hnew _ q4⟩
   ·obtain ⟨k1,k2,k3,k4⟩:=hold id h1
    obtain ⟨q1,q2,q3,q4⟩:=hI.blk id k1
    have hne:∀ i ∈ m0,e.ρ i ≠ e.ρ id:=fun i hi he=>k2 (by rw [← hI.inj i id (hall0 i hi) k1 he];exact hi)
    rw [h2,k4,hρold id q1]
    refine ⟨.inl q1,BA hle q1 (hsame _ (hI.rb id q1) hne) q2,?_,q4⟩
    intro h
    have h:if L then e.im (e.ρ id) else e2.im (e.ρ id):=h
    split at h
    ·exact q3 h
    ·rename_i hnl
     rcases hI'.imo _ h with h | h | h
     ·rcases h with h | ⟨i,hf,he⟩
      ·exact q3 h
      ·obtain ⟨f1,f2,_⟩:=Es hf
       rw [hI.inj id i k1 f2 he] at k3
       exact k3 hnl f1
     ·obtain ⟨i,h1,h2⟩:=hO _ h
      exact hne i h1 h2
     ·have h:e.w.heap.size≤e.ρ id:=h
      have:=hI.rb id q1
      omega
  ·intro i j hi hj hij
   rcases hblk i hi with ⟨h1,_⟩ | ⟨h1,_⟩ <;> rcases hblk j hj with ⟨h2,_⟩ | ⟨h2,_⟩
   ·obtain ⟨a,a1,_,a3,a4,_⟩:=hrenb i h1
    obtain ⟨b,b1,_,b3,b4,_⟩:=hrenb j h2
    rw [a3,b3] at hij
    have:=hI'.inj a b a1 b1 hij
    subst this
    rw [a4] at b4
    simpa using b4
   ·obtain ⟨a,a1,_,a3,_⟩:=hrenb i h1
    obtain ⟨b1,b2,_⟩:=hold j h2
    rw [a3,hρold j (hI.blk j b1).1] at hij
    exact absurd hij.symm (hsep j a b1 b2 a1)
   ·obtain ⟨a,a1,_,a3,_⟩:=hrenb j h2
    obtain ⟨b1,b2,_⟩:=hold i h1
    rw [a3,hρold i (hI.blk i b1).1] at hij
    exact absurd hij (hsep i a b1 b2 a1)
   ·obtain ⟨b1,_⟩:=hold i h1
    obtain ⟨b2,_⟩:=hold j h2
    rw [hρold i (hI.blk i b1).1,hρold j (hI.blk j b2).1] at hij
    exact hI.inj i j b1 b2 hij
  ·intro b hb
   have hb:if L then e.im b else e2.im b:=hb
   split at hb
   ·exact hI.imo b hb
   ·rcases hI'.imo b hb with h | h | h
    ·rcases h with h | ⟨i,hf,rfl⟩
     ·exact hI.imo b h
     ·exact .inr (hI.blk i (Es hf).2.1).2.2.2
    ·exact .inr (hnew b (.inl h))
    ·exact .inr (hnew b (.inr h))
  ·intro b hb
   exact hI'.imb b (him2' b hb)
  ·intro id hid
   rcases hid with hid | ⟨h1,h2⟩
   ·rw [hρold id hid]
    have:=hI.rb id hid
    show e.ρ id < e2.w.heap.size
    omega
   ·show (if n≤id then _ else _) < _
    rw [if_pos h1]
    exact hI'.rb _ h2
  ·intro id hid
   obtain ⟨h1,h2⟩:=hI.low id hid
   exact ⟨.inl h1,(hρold id h1).trans h2⟩
 ·rintro id (h | ⟨h1,h2⟩)
  ·exact .inl h
  ·refine .inr ⟨h1,?_⟩
   have:=Nat.lt_of_not_le (fun h=>hD' _ h h2)
   omega
theorem Ok {f:Nat} {us:List V} {H:Hp} {n:Nat} {K:V→Hp→Prop} {us0:List V} {H0:Hp} {k:Nat} {Q:V→Hp→Nat→Prop} (hr:Ag M f us0 H0 k Q) (L:Prop) [Decidable L] (m m0 z:List Nat) (h0:∀ id i,Af H0 id=true→m[id]?=some i→i ∈ m0) (h0m:∀ i ∈ m0,i ∈ m)
 (hm:m.Nodup) (hz:∀ i ∈ z,i ∉ m) (hk:m.length=k) (hall0:∀ i ∈ m0,Af H i=true) (hall:∀ i ∈ m,Af H i=true ∨ Cg us i=true) (hus:Bd H m z us0 us) (hH:Br H m z H0)
 (hK:∀ v H' k',Q v H' k'→(k'≤k + 16∧(L→AC v∧QI H'))∧K (v.ren (Bh m n k')) (AV (Bh m n k') H' ++ A6 H (if L then m0 else m0 ++ z))):AR M f us H n K :=
 FV hr L m m0 z h0 h0m hm hz hk hall0 (fun i hi=>(hall i hi).imp_right .inl) hus hH hK
variable {M:Seat}
def ids:Hp→List Nat
 | []=>[]
 | (i,_) :: r=>i :: ids r
def BJ:Hp→List Nat→List Nat
 | [],_=>[]
 | (i,_) :: r,m=>if m.contains i then BJ r m else i :: BJ r m
theorem Gp (m:List Nat):∀ (H:Hp),∀ i ∈ BJ H m,i ∉ m
 | [],_,h=>by cases h
 | (j, _) :: r, i, h => by
   simp only [BJ] at h
   split at h
   ·exact Gp m r i h
   ·rename_i hj
    rcases List.mem_cons.1 h with rfl | h
    ·intro hm;exact hj (by simpa [List.contains_iff_mem] using hm)
    ·exact Gp m r i h
theorem Ib (j:Nat):∀ H:Hp,(ids H).contains j=Af H j
 | []=>rfl
 | (i, _) :: r => by
   simp only [ids,Af,List.contains_cons,Ib j r]
   rw [Bool.beq_comm]
theorem Aj1 (H:Hp) (i:Nat):Sj H (ids H) i=(Af H i && (hget H i).solid):=by
 simp only [Sj,Ib,Bool.and_self]
theorem JM (m:List Nat) (j:Nat):∀ H:Hp,(BJ H m).contains j=(Af H j && !m.contains j)
 | []=>by simp [BJ,Af]
 | (i, _) :: r => by
   simp only [BJ]
   by_cases h:m.contains i=true
   ·rw [if_pos h,JM m j r]
    simp only [Af]
    by_cases hij:i=j
    ·subst hij;rw [h];simp
    ·have:(i == j)=false:=by simpa using hij
     rw [this,Bool.false_or]
   ·rw [if_neg h]
    simp only [List.contains_cons,JM m j r,Af]
    by_cases hij:i=j
    ·subst hij
     rw [show m.contains i=false by simpa using h];simp
    ·have h1:(i == j)=false:=by simpa using hij
     have h2:(j == i)=false:=by simp;exact fun h=>hij h.symm
     rw [h1,h2];simp
theorem Ajc (H:Hp) (m:List Nat) (i:Nat):Sj H (BJ H m) i=((Af H i && !m.contains i) && (hget H i).solid):=by
 simp only [Sj,JM]
 cases Af H i <;> simp
def AB:List Nat→Nat→Nat→List Nat
 | [],_,0=>[]
 | [],n,k + 1=>n :: AB [] (n + 1) k
 | _ :: _,_,0=>[]
 | a :: m,n,k + 1=>a :: AB m n k
theorem Of:∀ (k n:Nat),(List.range k).map (fun i=>n + i)=AB [] n k
 | 0,_=>rfl
 | k + 1, n => by
   rw [List.range_succ_eq_map,List.map_cons,List.map_map,AB,← Of k (n + 1)]
   simp only [Nat.add_zero,List.cons.injEq,true_and]
   apply List.map_congr_left
   intro i _
   simp only [Function.comp];omega
theorem Jd:∀ (m:List Nat) (n k:Nat),m.length≤k→Bh m n k=AB m n k
 | [],n,k,_=>by simp only [Bh,List.length_nil,Nat.sub_zero,List.nil_append];exact Of k n
 | a :: m,n,0,h=>by simp at h
 | a :: m, n, k + 1, h => by
   rw [AB,← Jd m n k Ke]
   simp only [Bh,List.length_cons,List.cons_append,Nat.add_sub_add_right]
def BK:Hp→Prop
 | []=>True
 | (_,v) :: r=>AC v∧BK r
theorem BK.H:∀ {H:Hp},BK H→QI H
 | [],_,id,h=>by simp [Af] at h
 | (i, v) :: r, hn, id, h => by
   simp only [BK] at hn
   simp only [hget]
   split
   ·exact hn.1
   ·rename_i hi
    exact BK.H hn.2 id (by simpa [Af,hi] using h)
theorem Im {f:Nat} {us us0:List V} {H:Hp} {n:Nat} {K:V→Hp→Prop} {v:V} (hr:Ag M f us0 [] 0 (Q3 v [] 0)) (hus:Bd H [] (ids H) us0 us) (hv:v.ren (Bh [] n 0)=v) (hn:AC v) (hK:K v H):AR M f us H n K :=
 PE (ids H) hr hus hv hn hK
theorem L5 {f:Nat} {us us0:List V} {H H0 Hn:Hp} {n k kn:Nat} {K:V→Hp→Prop} {v:V} (m:List Nat) (hr:Ag M f us0 H0 k (Q3 v Hn kn))
 (hm:(decide m.Nodup && decide (m.length=k) && decide (k≤kn) && decide (kn≤k + 16))=true) (hall:(m.all fun i=>Af H i)=true) (hus:Bd H m (BJ H m) us0 us) (hH:Br H m (BJ H m) H0) (hv:AC v) (hn:BK Hn)
 (hK:K (v.ren (AB m n kn)) (AV (AB m n kn) Hn ++ A6 H m)):AR M f us H n K:=by
 simp only [Bool.and_eq_true,decide_eq_true_eq] at hm
 obtain ⟨⟨⟨h1,h2⟩,h3⟩,h4⟩:=hm
 refine BE hr True m (BJ H m) h1 (Gp m H) h2 (by simpa using hall) hus hH ?_
 rintro v' H' k' ⟨rfl,rfl,rfl⟩
 refine ⟨⟨h4,fun _=>⟨hv,hn.H⟩⟩,?_⟩
 rw [Jd m n k' Aa,if_pos trivial]
 exact hK
theorem Qs {f:Nat} {us us0:List V} {H Hn:Hp} {n kn:Nat} {K:V→Hp→Prop} {v:V} (hr:Ag M f us0 [] 0 (Q3 v Hn kn))
 (hk:decide (kn≤16)=true) (hus:Bd H [] (ids H) us0 us) (hv:AC v) (hn:BK Hn)
 (hK:K (v.ren (AB [] n kn)) (AV (AB [] n kn) Hn ++ H)):AR M f us H n K:=by
 refine BE hr True [] (ids H) List.nodup_nil B5 rfl B5 hus trivial ?_
 rintro v' H' k' ⟨rfl,rfl,rfl⟩
 refine ⟨⟨by have:=of_decide_eq_true hk;omega,fun _=>⟨hv,hn.H⟩⟩,?_⟩
 rw [Jd [] n k' B5,if_pos trivial]
 exact hK
theorem QY {f:Nat} {us us0:List V} {H H0 Hn:Hp} {n k kn:Nat} {K:V→Hp→Prop} {v:V} (m m0:List Nat) (hr:Ag M f us0 H0 k (Q3 v Hn kn))
 (h0:((ids H0).all fun id=>match m[id]? with | some i=>m0.contains i | none=>true)=true) (h0m:(m0.all fun i=>m.contains i)=true)
 (hm:(decide m.Nodup && decide (m.length=k) && decide (k≤kn) && decide (kn≤k + 16))=true) (hall:(m.all fun i=>Af H i || Cg us i)=true) (hall0:(m0.all fun i=>Af H i)=true) (hus:Bd H m (BJ H m) us0 us) (hH:Br H m (BJ H m) H0) (hv:AC v) (hn:BK Hn)
 (hK:K (v.ren (AB m n kn)) (AV (AB m n kn) Hn ++ A6 H m0)):AR M f us H n K:=by
 simp only [Bool.and_eq_true,decide_eq_true_eq] at hm
 obtain ⟨⟨⟨h1,h2⟩,h3⟩,h4⟩:=hm
 refine Ok hr True m m0 (BJ H m) (fun id i hid hi=>?_) (fun i hi=>?_) h1 (Gp m H) h2 (by simpa using hall0) (by simpa using hall) hus hH ?_
 ·rw [List.all_eq_true] at h0
  have hmem:id ∈ ids H0:=by
   have:=Ib id H0
   rw [hid] at this
   simpa [List.contains_iff_mem] using this
  have:=h0 id hmem
  rw [hi] at this
  simpa using this
 ·rw [List.all_eq_true] at h0m
  simpa using h0m i hi
 ·rintro v' H' k' ⟨rfl,rfl,rfl⟩
  refine ⟨⟨h4,fun _=>⟨hv,hn.H⟩⟩,?_⟩
  rw [Jd m n k' Aa,if_pos trivial]
  exact hK
theorem QC {f:Nat} {us us0:List V} {H H0 Hn:Hp} {n k kn:Nat} {K:V→Hp→Prop} {v:V} (m m0:List Nat) (hr:Ag M f us0 H0 k (Q3 v Hn kn))
 (h0:((ids H0).all fun id=>match m[id]? with | some i=>m0.contains i | none=>true)=true) (h0m:(m0.all fun i=>m.contains i)=true)
 (hm:(decide m.Nodup && decide (m.length=k) && decide (k≤kn) && decide (kn≤k + 16))=true) (hall:(m.all fun i=>Af H i || (GJ m0 H i || Cg us i))=true) (hall0:(m0.all fun i=>Af H i)=true) (hus:Bd H m [] us0 us) (hH:Br H m [] H0)
 (hK:K (v.ren (AB m n kn)) (AV (AB m n kn) Hn ++ A6 H m0)):AR M f us H n K:=by
 simp only [Bool.and_eq_true,decide_eq_true_eq] at hm
 obtain ⟨⟨⟨h1,h2⟩,h3⟩,h4⟩:=hm
 refine FV hr False m m0 [] (fun id i hid hi=>?_) (fun i hi=>?_) h1 B5 h2 (by simpa using hall0) (fun i hi=>by
  have:=List.all_eq_true.1 hall i hi
  simp only [Bool.or_eq_true] at this
  exact this.elim .inl (fun h=>.inr h.symm)) hus hH ?_
 ·rw [List.all_eq_true] at h0
  have hmem:id ∈ ids H0:=by
   have:=Ib id H0
   rw [hid] at this
   simpa [List.contains_iff_mem] using this
  have:=h0 id hmem
  rw [hi] at this
  simpa using this
 ·rw [List.all_eq_true] at h0m
  simpa using h0m i hi
 ·rintro v' H' k' ⟨rfl,rfl,rfl⟩
  refine ⟨⟨h4,fun h=>h.elim⟩,?_⟩
  rw [Jd m n k' Aa,if_neg id,List.append_nil]
  exact hK
theorem Wh {f:Nat} {us us0:List V} {H:Hp} {n:Nat} {C:V→Hp→Prop} {v:V} (hr:Ag M f us0 [] 0 (Q3 v [] 0)) (hus:Bd H [] (ids H) us0 us) (hv:v.ren (Bh [] n 0)=v) (hn:AC v) (hC:C v H):FD M f us H n C :=
 ⟨v,H,Im hr hus hv hn ⟨rfl,rfl⟩,hC⟩
theorem Aqx {f:Nat} {us us0:List V} {H Hn:Hp} {n kn:Nat} {C:V→Hp→Prop} {v:V} (hr:Ag M f us0 [] 0 (Q3 v Hn kn))
 (hk:decide (kn≤16)=true) (hus:Bd H [] (ids H) us0 us) (hv:AC v) (hn:BK Hn)
 (hC:C (v.ren (AB [] n kn)) (AV (AB [] n kn) Hn ++ H)):FD M f us H n C :=
 ⟨_,_,Qs hr hk hus hv hn ⟨rfl,rfl⟩,hC⟩
theorem UZ {f:Nat} {us us0:List V} {H H0 Hn:Hp} {n k kn:Nat} {C:V→Hp→Prop} {v:V} (m:List Nat) (hr:Ag M f us0 H0 k (Q3 v Hn kn))
 (hm:(decide m.Nodup && decide (m.length=k) && decide (k≤kn) && decide (kn≤k + 16))=true) (hall:(m.all fun i=>Af H i)=true) (hus:Bd H m (BJ H m) us0 us) (hH:Br H m (BJ H m) H0) (hv:AC v) (hn:BK Hn)
 (hC:C (v.ren (AB m n kn)) (AV (AB m n kn) Hn ++ A6 H m)):FD M f us H n C :=
 ⟨_,_,L5 m hr hm hall hus hH hv hn ⟨rfl,rfl⟩,hC⟩
theorem Acp {f:Nat} {us us0:List V} {H H0 Hn:Hp} {n k kn:Nat} {C:V→Hp→Prop} {v:V} (m m0:List Nat) (hr:Ag M f us0 H0 k (Q3 v Hn kn))
 (h0:((ids H0).all fun id=>match m[id]? with | some i=>m0.contains i | none=>true)=true) (h0m:(m0.all fun i=>m.contains i)=true)
 (hm:(decide m.Nodup && decide (m.length=k) && decide (k≤kn) && decide (kn≤k + 16))=true) (hall:(m.all fun i=>Af H i || (GJ m0 H i || Cg us i))=true) (hall0:(m0.all fun i=>Af H i)=true) (hus:Bd H m [] us0 us) (hH:Br H m [] H0)
 (hC:C (v.ren (AB m n kn)) (AV (AB m n kn) Hn ++ A6 H m0)):FD M f us H n C :=
 ⟨_,_,QC m m0 hr h0 h0m hm hall hall0 hus hH ⟨rfl,rfl⟩,hC⟩
theorem Ahl {f:Nat} {v:V} {us:List V} {H:Hp} {n:Nat} {K:V→Hp→Prop} (hf:EC M f) (hv:(v.solid && !v.isAgg)=true) (h:AR M f (us ++ [v]) H n K):Eo M (.fn f (.st 1 (.fcons 0 v .fnil))) us H n K:=by
 refine .inl ⟨⟨hf,?_⟩,h⟩
 simpa [V.fhas,V.fget] using hv
theorem Axb {f:Nat} {v:V} {us:List V} {H:Hp} {n:Nat} {K:V→Hp→Prop} (hf:EC M f) (hv:(v.solid && !v.isAgg)=true) (h:AR M f (v :: us) H n K):Eo M (.fn (f + 2000000) (.st 1 (.fcons 0 v .fnil))) us H n K:=by
 refine .inr ⟨by omega,⟨by rw [Nat.add_sub_cancel];exact hf,?_⟩,?_⟩
 ·simpa [V.fhas,V.fget] using hv
 ·rw [Nat.add_sub_cancel];exact h
theorem Ahw {f:Nat} {v:V} {us us0:List V} {H:Hp} {n:Nat} {C:V→Hp→Prop} {r:V} (hf:EC M f) (hv:(v.solid && !v.isAgg)=true) (hr:Ag M f us0 [] 0 (fun r' H' k'=>r'=r∧H'=[]∧k'=0)) (hus:Bd H [] (ids H) us0 (us ++ [v])) (hv2:r.ren (Bh [] n 0)=r) (hn:AC r) (hC:C r H):SI M (.fn f (.st 1 (.fcons 0 v .fnil))) us H n C :=
 ⟨r,H,Ahl hf hv (Im hr hus hv2 hn ⟨rfl,rfl⟩),hC⟩
def Io (v:V) (i:Nat) (r:V):V:=match v with | .junk=>r | v=>.fcons i v r
def Gb (v:V):Prop:=match v with | .junk=>True | v=>v.solid=true
theorem Afi (A:List V) (H:Hp) (r:RVr) (rs:List RVr) (i:Nat):FY A H (r :: rs) i=Io (DC A H r) i (FY A H rs (i + 1)):=by
 simp only [FY,Io];split <;> simp_all
theorem Afp (A:List V) (H:Hp) (i:Nat):FY A H [] i = .fnil:=rfl
theorem Ah8 (A:List V) (H:Hp) (r:RVr) (rs:List RVr):G5 A H (r :: rs)=(Gb (DC A H r)∧G5 A H rs):=by
 simp only [G5,Gb];split <;> simp_all
theorem Ae4 (A:List V) (H:Hp):G5 A H []=True:=rfl
theorem WU (k:IntKind) (n:Int) (ix:Nat) (r:V):Io (.int k n) ix r = .fcons ix (.int k n) r:=rfl
theorem X0 (k:IntKind) (n:Int):Gb (.int k n)=True:=EL
theorem Uy (b:Bool) (ix:Nat) (r:V):Io (.bool b) ix r = .fcons ix (.bool b) r:=rfl
theorem T9 (b:Bool):Gb (.bool b)=True:=EL
theorem XD (s:ByteArray) (ix:Nat) (r:V):Io (.str s) ix r = .fcons ix (.str s) r:=rfl
theorem Xw (s:ByteArray):Gb (.str s)=True:=EL
theorem V1  (ix:Nat) (r:V):Io (.nilp) ix r = .fcons ix (.nilp) r:=rfl
theorem UA :Gb (.nilp)=True:=EL
theorem YX (i:Nat) (p:List Stp) (ix:Nat) (r:V):Io (.ptr i p) ix r = .fcons ix (.ptr i p) r:=rfl
theorem XT (i:Nat) (p:List Stp):Gb (.ptr i p)=True:=EL
theorem TR  (ix:Nat) (r:V):Io (.nils) ix r = .fcons ix (.nils) r:=rfl
theorem SZ :Gb (.nils)=True:=EL
theorem Aas (i:Nat) (p:List Stp) (o n sz:Nat) (ix:Nat) (r:V):Io (.sl i p o n sz) ix r = .fcons ix (.sl i p o n sz) r:=rfl
theorem Ada (i:Nat) (p:List Stp) (o n sz:Nat):Gb (.sl i p o n sz)=True:=EL
theorem YJ (sz n:Nat) (f:Nat→V) (ix:Nat) (r:V):Io (.lst sz n f) ix r = .fcons ix (.lst sz n f) r:=rfl
theorem Xa (sz n:Nat) (f:Nat→V):Gb (.lst sz n f)=True:=EL
theorem Ui  (ix:Nat) (r:V):Io (.nili) ix r = .fcons ix (.nili) r:=rfl
theorem Vp :Gb (.nili)=True:=EL
theorem Xc (t:Nat) (v:V) (ix:Nat) (r:V):Io (.ifc t v) ix r = .fcons ix (.ifc t v) r:=rfl
theorem Ze (t:Nat) (v:V):Gb (.ifc t v)=True:=EL
theorem Ade (n:Nat) (v:V) (ix:Nat) (r:V):Io (.st n v) ix r = .fcons ix (.st n v) r:=rfl
theorem Abr (n:Nat) (v:V):Gb (.st n v)=True:=EL
theorem Aa8 (sz n:Nat) (f:Nat→V) (ix:Nat) (r:V):Io (.ar sz n f) ix r = .fcons ix (.ar sz n f) r:=rfl
theorem ZP (sz n:Nat) (f:Nat→V):Gb (.ar sz n f)=True:=EL
theorem Zf (v:V) (ix:Nat) (r:V):Io (.imm v) ix r = .fcons ix (.imm v) r:=rfl
theorem X5 (v:V):Gb (.imm v)=True:=EL
theorem X2 (i:Nat) (ix:Nat) (r:V):Io (.map i) ix r = .fcons ix (.map i) r:=rfl
theorem W4 (i:Nat):Gb (.map i)=True:=EL
theorem Vi  (ix:Nat) (r:V):Io (.nilm) ix r = .fcons ix (.nilm) r:=rfl
theorem TP :Gb (.nilm)=True:=EL
theorem Ab3 (f:Nat) (c:V) (ix:Nat) (r:V):Io (.fn f c) ix r = .fcons ix (.fn f c) r:=rfl
theorem Aax (f:Nat) (c:V):Gb (.fn f c)=True:=EL
theorem VI  (ix:Nat) (r:V):Io (.nilf) ix r = .fcons ix (.nilf) r:=rfl
theorem UK :Gb (.nilf)=True:=EL
theorem Aht (w:BitVec 64) (ix:Nat) (r:V):Io (W w) ix r = .fcons ix (W w) r:=rfl
theorem Ahr (w:BitVec 64):Gb (W w)=True:=by simp [Gb,V.solid,W]
theorem Aef (w:BitVec 8) (ix:Nat) (r:V):Io (B w) ix r = .fcons ix (B w) r:=rfl
theorem Afm (w:BitVec 8):Gb (B w)=True:=by simp [Gb,V.solid,B]
theorem Adr (d:Dg) (ix:Nat) (r:V):Io (dg d) ix r = .fcons ix (dg d) r:=rfl
theorem Acb (d:Dg):Gb (dg d)=True:=by simp [Gb,V.solid,dg]
def LTP:=(C4 (Er @Afi @Afp @Ah8 @Ae4 @WU @X0 @Uy @T9 @XD @Xw @V1 @UA @YX @XT) (CA @TR @SZ @Aas @Ada @YJ @Xa @Ui @Vp @Xc @Ze @Ade @Abr @Aa8 @ZP @Zf) (CA @X5 @X2 @W4 @Vi @TP @Ab3 @Aax @VI @UK @Aht @Ahr @Aef @Afm @Adr @Acb))
theorem UL (w:BitVec 64):AC (W w)=True:=rfl
theorem ZJ (w:BitVec 8):AC (B w)=True:=rfl
theorem Nn (d:Dg):AC (dg d)=True:=eq_true (by simp only [AC,dg,B,implies_true])
end Mv
