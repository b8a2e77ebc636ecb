/- A part. -/
import Derived.Test.YtfljfijnobocoaaDoorCT
set_option linter.all false
namespace Mv
open Go
abbrev Q3 (v:V) (Hn:Hp) (kn:Nat):V→Hp→Nat→Prop:=fun r H' k'=>r=v∧H'=Hn∧k'=kn
def Ag (M:Seat) (f:Nat) (us:List V) (H:Hp) (k:Nat) (Q:V→Hp→Nat→Prop):Prop :=
 ∀ (e:Env) (vs:Array Value),Inv M ⟨e,fun b=>∃ id,Af H id=true∧e.ρ id=b,k⟩ e H→(∀ id,k≤id→¬ e.D id)→HN e us vs →
  Calls M.P (M.φ f) vs e.w fun en w'=>∃ x v e' H' k',en = .returned x∧e'.w=w'∧Inv M ⟨e,fun b=>∃ id,Af H id=true∧e.ρ id=b,k⟩ e' H'∧RV e' v x∧(∀ id,k'≤id→¬ e'.D id)∧k≤k'∧Q v H' k'
theorem Ag.mono {M:Seat} {f:Nat} {us:List V} {H:Hp} {k:Nat} {Q Q':V→Hp→Nat→Prop} (h:Ag M f us H k Q) (hq:∀ v H' k',Q v H' k'→Q' v H' k'):Ag M f us H k Q':=by
 intro e vs h1 h2 h3
 refine (h e vs h1 h2 h3).mono ?_
 rintro en w' ⟨x,v,e',H',k',a,b,c,d,f,g,i⟩
 exact ⟨x,v,e',H',k',a,b,c,d,f,g,hq _ _ _ i⟩
def AV (m:List Nat):Hp→Hp
 | []=>[]
 | (j,v) :: r=>match m[j]? with | some i=>(i,v.ren m) :: AV m r | none=>AV m r
def A6 (H:Hp):List Nat→Hp
 | []=>H
 | i :: r=>BS (A6 H r) i
theorem FQ (H:Hp) (j:Nat):∀ m,Af (A6 H m) j=(Af H j && !m.contains j)
 | []=>by simp [A6]
 | i :: r => by
   rw [A6,CC,FQ H j r,List.contains_cons]
   by_cases h:j=i <;> simp [h,bne,Bool.and_comm,Bool.and_assoc]
theorem FJ (H:Hp) (j:Nat):∀ m,j ∉ m→hget (A6 H m) j=hget H j
 | [],_=>rfl
 | i :: r, h => by
   rw [A6,CD _ _ (by intro h';exact h (by simp [h'])),FJ H j r (by intro h';exact h (by simp [h']))]
theorem Ba (j:Nat):∀ H K:Hp,Af (H ++ K) j=(Af H j || Af K j)
 | [],_=>by simp [Af]
 | (i,v) :: r,K=>by simp [Af,Ba j r K,Bool.or_assoc]
theorem Cn {j:Nat}:∀ {H K:Hp},Af H j=true→hget (H ++ K) j=hget H j
 | [],_,h=>by simp [Af] at h
 | (i, v) :: r, K, h => by
   simp only [List.cons_append,hget]
   split
   ·rfl
   ·rename_i hij
    simp only [Pi,beq_iff_eq,hij,false_or] at h
    exact Cn h
theorem AN {j:Nat}:∀ {H K:Hp},Af H j=false→hget (H ++ K) j=hget K j
 | [],_,_=>rfl
 | (i, v) :: r, K, h => by
   simp only [Af,Bool.or_eq_false_iff,beq_eq_false_iff_ne,ne_eq] at h
   simp only [List.cons_append,hget,if_neg h.1]
   exact AN h.2
theorem GE {m:List Nat} (hm:m.Nodup):∀ {H:Hp} {id:Nat},Af (AV m H) id=true→∃ j,m[j]?=some id∧Af H j=true∧hget (AV m H) id=(hget H j).ren m
 | [],id,h=>by simp [AV,Af] at h
 | (j, v) :: r, id, h => by
   cases hi:m[j]? with
   | some i =>
     have hr:AV m ((j,v) :: r)=(i,v.ren m) :: AV m r:=by simp only [AV,hi]
     rw [hr] at h ⊢
     by_cases hid:i=id
     ·subst hid
      exact ⟨j,hi,by simp [Af],by simp [hget]⟩
     ·have h':Af (AV m r) id=true:=by
       simp only [Pi,beq_iff_eq] at h
       exact h.resolve_left hid
      obtain ⟨j',h1,h2,h3⟩:=GE hm h'
      have hjj:j ≠ j':=by
       rintro rfl
       rw [hi] at h1
       exact hid (by simpa using h1)
      exact ⟨j',h1,by simp [Af,h2],by simp [hget,hid,hjj,h3]⟩
   | none =>
     have hr:AV m ((j,v) :: r)=AV m r:=by simp only [AV,hi]
     rw [hr] at h ⊢
     obtain ⟨j',h1,h2,h3⟩:=GE hm h
     have hjj:j ≠ j':=by
      rintro rfl
      rw [hi] at h1
      cases h1
     exact ⟨j',h1,by simp [Af,h2],by simp [hget,hjj,h3]⟩
def QI (H:Hp):Prop:=∀ id,Af H id=true→AC (hget H id)
def Bh (m:List Nat) (n k':Nat):List Nat:=m ++ (List.range (k' - m.length)).map (fun i=>n + i)
theorem Nh {m:List Nat} {n k':Nat} (hk:m.length≤k') (j:Nat) (hj:j < k'):(Bh m n k')[j]?=if h:j < m.length then some m[j] else some (n + (j - m.length)):=by
 unfold Bh
 split
 ·rename_i h
  rw [List.getElem?_append_left h];exact List.getElem?_eq_getElem h
 ·rename_i h
  rw [List.getElem?_append_right Aa]
  simp only [List.getElem?_map]
  rw [List.getElem?_range Aa]
  rfl
theorem JY {m:List Nat} {n k':Nat} (hm:m.Nodup) (hn:∀ i ∈ m,i < n):(Bh m n k').Nodup:=by
 unfold Bh
 rw [List.nodup_append]
 refine ⟨hm,?_,?_⟩
 ·rw [List.Nodup,List.pairwise_map]
  exact (List.nodup_range (n:=k' - m.length)).imp (fun h h'=>h Aa)
 ·intro a ha b hb hab
  simp only [List.mem_map,List.mem_range] at hb
  obtain ⟨i,_,rfl⟩:=hb
  have:=hn a ha
  omega
theorem BE {M:Seat} {f:Nat} {us:List V} {H:Hp} {n:Nat} {K:V→Hp→Prop} {us0:List V} {H0:Hp} {k:Nat} {Q:V→Hp→Nat→Prop} (hr:Ag M f us0 H0 k Q) (L:Prop) [Decidable L] (m z:List Nat)
 (hm:m.Nodup) (hz:∀ i ∈ z,i ∉ m) (hk:m.length=k) (hall:∀ i ∈ m,Af H i=true) (hus:Bd H m z us0 us) (hH:Br H m z H0)
 (hK:∀ v H' k',Q v H' k'→(k'≤k + 16∧(L→AC v∧QI H'))∧K (v.ren (Bh m n k')) (AV (Bh m n k') H' ++ A6 H (if L then m else m ++ z))):AR M f us H n K:=by
 intro c e vs hI hD hcn ⟨hvs,hargs⟩
 subst hk
 have hp:=Pull.of hI m z
 have hI2:Inv M ⟨e.sim H m z,fun b=>∃ id,Af H0 id=true∧(e.sim H m z).ρ id=b,m.length⟩ (e.sim H m z) H0:=hI.sim hm hz hH (.inr ⟨rfl,hall⟩)
 have hmD:∀ i ∈ m,e.D i:=fun i hi=>(hI.blk i (hall i hi)).1
 have hmn:∀ i ∈ m,i < n:=fun i hi=>Nat.lt_of_not_le (fun h=>hD i h (hmD i hi))
 refine (hr (e.sim H m z) vs hI2 ?_ ⟨hvs.trans (Gf hus).symm,fun t=>Lh hp (Gc hus t) (hargs t)⟩).mono ?_
 ·rintro id hid ⟨i,h1,_⟩
  have:=(List.getElem?_eq_some_iff.1 h1).1
  omega
 rintro en w' ⟨x,v,e2,H',k',rfl,rfl,hI',hv,hD',hkk,hQ⟩
 obtain ⟨⟨hk16,hL⟩,hKK⟩:=hK v H' k' hQ
 have hO:∀ b,(∃ id,Af H0 id=true∧(e.sim H m z).ρ id=b)→∃ i ∈ m,e.ρ i=b:=by
  rintro b ⟨id,h1,h2⟩
  obtain ⟨i,k1,k2,_⟩:=Cw hH id h1
  exact ⟨i,List.mem_of_getElem? k1,by simpa [Env.sim,k1] using h2⟩
 have hsame:∀ b,b < e.w.heap.size→(∀ i ∈ m,e.ρ i ≠ b)→e2.w.heap[b]?=e.w.heap[b]?:=fun b hb hn =>
  hI'.ev.frame b hb (fun ho=>by obtain ⟨i,h1,h2⟩:=hO b ho;exact hn i h1 h2)
 have hsize:e.w.heap.size≤e2.w.heap.size:=hI'.ev.size
 let e' : Env := { ρ := fun i => if n ≤ i then e2.ρ (m.length + (i - n)) else e.ρ i
                   D:=fun i=>e.D i ∨ (n≤i∧e2.D (m.length + (i - n)))
                   im:=fun b=>if L then e.im b else e2.im b
                   w:=e2.w,φ:=e2.φ,τ:=e2.τ }
 have hφ:e2.φ=e.φ:=hI'.φ.trans hI.φ.symm
 have hτ:e2.τ=e.τ:=hI'.τ.trans hI.τ.symm
 have him2:∀ b,e.im b→e2.im b:=fun b hb=>hI'.keep b (.inl hb)
 have him':∀ b,e.im b→e'.im b:=fun b hb=>by
  show if L then _ else _
  split
  ·exact hb
  ·exact him2 b hb
 have him2':∀ b,e'.im b→e2.im b:=fun b hb=>by
  have hb:if L then e.im b else e2.im b:=hb
  split at hb
  ·exact him2 b hb
  ·exact hb
 have hρold:∀ i,e.D i→e'.ρ i=e.ρ i:=fun i hi=>by
  show (if n≤i then _ else _)=_
  rw [if_neg (fun h=>hD i h hi)]
 have hle:e.le e':=by
  refine ⟨fun i hi=>⟨.inl hi,hρold i hi⟩,fun b hb=>⟨him' b hb,fun cc el fz hc=>⟨el,fz,?_⟩,fun es ck hc=>?_⟩,hI'.ev.bs,hφ,hτ⟩
  ·show e2.w.heap[b]?=_
   rw [hsame b (hI.imlt b hb) (fun i hi he=>(hI.blk i (hall i hi)).2.2.1 (he ▸ hb))]
   exact hc
  ·show e2.w.heap[b]?=_
   rw [hsame b (hI.imlt b hb) (fun i hi he=>(hI.blk i (hall i hi)).2.2.1 (he ▸ hb))]
   exact hc
 have hpush:Push L (Bh m n k') e2 e':=by
  refine ⟨fun j hj=>?_,fun hnl b hb=>?_,rfl,rfl,rfl⟩
  ·have hjk:j < k':=Nat.lt_of_not_le (fun h=>hD' j h hj)
   have hg:=Nh (n:=n) hkk j hjk
   by_cases hjm:j < m.length
   ·rw [dif_pos hjm] at hg
    have hmj:=hmD m[j] (List.getElem_mem hjm)
    refine ⟨m[j],hg,.inl hmj,?_⟩
    rw [hρold _ hmj]
    have:=(hI'.low j hjm).2
    rw [this]
    simp [Env.sim,List.getElem?_eq_getElem hjm]
   ·rw [dif_neg hjm] at hg
    have e1:m.length + (n + (j - m.length) - n)=j:=Aa
    refine ⟨_,hg,.inr ⟨by omega,by rw [e1];exact hj⟩,?_⟩
    show (if _ then _ else _)=_
    rw [if_pos Aa,e1]
  ·show if L then _ else _
   rw [if_neg hnl];exact hb
 have hnd:(Bh m n k').Nodup:=JY hm hmn
 have hnew:∀ b,(∃ id,Af H0 id=true∧(e.sim H m z).ρ id=b) ∨ (e.sim H m z).w.heap.size≤b→c.O b ∨ c.e0.w.heap.size≤b:=by
  rintro b (h | h)
  ·obtain ⟨i,h1,rfl⟩:=hO b h
   exact (hI.blk i (hall i h1)).2.2.2
  ·have h:e.w.heap.size≤b:=h
   have:=hI.ev.size
   exact .inr Aa
 have hold:∀ id,Af (A6 H (if L then m else m ++ z)) id=true→Af H id=true∧id ∉ m∧(¬ L→id ∉ z)∧hget (A6 H (if L then m else m ++ z)) id=hget H id:=by
  intro id hid
  rw [FQ] at hid
  simp only [Ww,List.contains_eq_mem,decide_eq_false_iff_not] at hid
  refine ⟨hid.1,?_,?_,FJ _ _ _ hid.2⟩
  ·intro h';apply hid.2;split
   ·exact h'
   ·exact List.mem_append_left _ h'
  ·intro hnl h';apply hid.2;rw [if_neg hnl];exact List.mem_append_right _ h'
 have hrenb:∀ id,Af (AV (Bh m n k') H') id=true→∃ j,Af H' j=true∧e'.D id∧e'.ρ id=e2.ρ j∧(Bh m n k')[j]?=some id∧hget (AV (Bh m n k') H') id=(hget H' j).ren (Bh m n k'):=by
  intro id hid
  obtain ⟨j,h1,h2,h3⟩:=GE hnd hid
  obtain ⟨i,k1,k2,k3⟩:=hpush.D j (hI'.blk j h2).1
  rw [h1] at k1
  simp only [Option.some.injEq] at k1
  subst k1
  exact ⟨j,h2,k2,k3,h1,h3⟩
 refine ⟨x,v.ren (Bh m n k'),e',AV (Bh m n k') H' ++ A6 H (if L then m else m ++ z),rfl,rfl,hle,?_,Ql hpush (fun hl=>(hL hl).1) hv,?_,hKK⟩
 ·have hblk:∀ id,Af (AV (Bh m n k') H' ++ A6 H (if L then m else m ++ z)) id=true→(Af (AV (Bh m n k') H') id=true∧hget (AV (Bh m n k') H' ++ A6 H (if L then m else m ++ z)) id=hget (AV (Bh m n k') H') id) ∨ (Af (A6 H (if L then m else m ++ z)) id=true∧hget (AV (Bh m n k') H' ++ A6 H (if L then m else m ++ z)) id=hget (A6 H (if L then m else m ++ z)) id):=by
   intro id hid
   rw [Ba] at hid
   cases hr':Af (AV (Bh m n k') H') id with
   | true=>exact .inl ⟨rfl,Cn hr'⟩
   | false=>rw [hr',Bool.false_or] at hid;exact .inr ⟨hid,AN hr'⟩
  have hsep:∀ i j,Af H i=true→i ∉ m→Af H' j=true→e.ρ i ≠ e2.ρ j:=by
   intro i j hi him hj he
   rcases (hI'.blk j hj).2.2.2 with h | h
   ·obtain ⟨i',h1,h2⟩:=hO _ h
    exact him (by rw [hI.inj i i' hi (hall i' h1) (he.trans h2.symm)];exact h1)
   ·have h:e.w.heap.size≤e2.ρ j:=h
    have:=hI.rb i (hI.blk i hi).1
    omega
  refine ⟨?_,?_,?_,?_,?_,?_,fun b hb=>him' b (hI.keep b hb),?_,hI.gs.mono hle,hI'.φ,hI'.τ⟩
  ·exact hI.ev.trans hI'.ev (fun b hb=>by
    obtain ⟨i,h1,rfl⟩:=hO b hb
    rcases (hI.blk i (hall i h1)).2.2.2 with h | h
    ·exact .inl h
    ·exact .inr h)
  ·intro id hid
   rcases hblk id hid with ⟨h1,h2⟩ | ⟨h1,h2⟩
   ·obtain ⟨j,k1,k2,k3,k4,k5⟩:=hrenb id h1
    obtain ⟨q1,q2,q3,q4⟩:=hI'.blk j k1
    rw [h2,k5,k3]
    exact ⟨k2,Jo hpush k3 (fun hl=>(hL hl).2 j k1) q2,fun h=>q3 (him2' _ h),hnew _ q4⟩
   ·obtain ⟨k1,k2,k3,k4⟩:=hold id h1
    obtain ⟨q1,q2,q3,q4⟩:=hI.blk id k1
    have hne:∀ i ∈ m,e.ρ i ≠ e.ρ id:=fun i hi he=>k2 (by rw [← hI.inj i id (hall i hi) k1 he];exact hi)
    rw [h2,k4,hρold id q1]
    refine ⟨.inl q1,BA hle q1 (hsame _ (hI.rb id q1) hne) q2,?_,q4⟩
    intro h
    have h:if L then e.im (e.ρ id) else e2.im (e.ρ id):=h
    split at h
    ·exact q3 h
    ·rename_i hnl
     rcases hI'.imo _ h with h | h | h
     ·rcases h with h | ⟨i,hf,he⟩
      ·exact q3 h
      ·obtain ⟨f1,f2,_⟩:=Es hf
       rw [hI.inj id i k1 f2 he] at k3
       exact k3 hnl f1
     ·obtain ⟨i,h1,h2⟩:=hO _ h
      exact hne i h1 h2
     ·have h:e.w.heap.size≤e.ρ id:=h
      have:=hI.rb id q1
      omega
  ·intro i j hi hj hij
   rcases hblk i hi with ⟨h1,_⟩ | ⟨h1,_⟩ <;> rcases hblk j hj with ⟨h2,_⟩ | ⟨h2,_⟩
   ·obtain ⟨a,a1,_,a3,a4,_⟩:=hrenb i h1
    obtain ⟨b,b1,_,b3,b4,_⟩:=hrenb j h2
    rw [a3,b3] at hij
    have:=hI'.inj a b a1 b1 hij
    subst this
    rw [a4] at b4
    simpa using b4
   ·obtain ⟨a,a1,_,a3,_⟩:=hrenb i h1
    obtain ⟨b1,b2,_⟩:=hold j h2
    rw [a3,hρold j (hI.blk j b1).1] at hij
    exact absurd hij.symm (hsep j a b1 b2 a1)
   ·obtain ⟨a,a1,_,a3,_⟩:=hrenb j h2
    obtain ⟨b1,b2,_⟩:=hold i h1
    rw [a3,hρold i (hI.blk i b1).1] at hij
    exact absurd hij (hsep i a b1 b2 a1)
   ·obtain ⟨b1,_⟩:=hold i h1
    obtain ⟨b2,_⟩:=hold j h2
    rw [hρold i (hI.blk i b1).1,hρold j (hI.blk j b2).1] at hij
    exact hI.inj i j b1 b2 hij
  ·intro b hb
   have hb:if L then e.im b else e2.im b:=hb
   split at hb
   ·exact hI.imo b hb
   ·rcases hI'.imo b hb with h | h | h
    ·rcases h with h | ⟨i,hf,rfl⟩
     ·exact hI.imo b h
     ·exact .inr (hI.blk i (Es hf).2.1).2.2.2
    ·exact .inr (hnew b (.inl h))
    ·exact .inr (hnew b (.inr h))
  ·intro b hb
   exact hI'.imb b (him2' b hb)
  ·intro id hid
   rcases hid with hid | ⟨h1,h2⟩
   ·rw [hρold id hid]
    have:=hI.rb id hid
    show e.ρ id < e2.w.heap.size
    omega
   ·show (if n≤id then _ else _) < _
    rw [if_pos h1]
    exact hI'.rb _ h2
  ·intro id hid
   obtain ⟨h1,h2⟩:=hI.low id hid
   exact ⟨.inl h1,(hρold id h1).trans h2⟩
 ·rintro id (h | ⟨h1,h2⟩)
  ·exact .inl h
  ·refine .inr ⟨h1,?_⟩
   have:=Nat.lt_of_not_le (fun h=>hD' _ h h2)
   omega
end Mv
