/- A part. -/
import Derived.Test.YtgeionenpaopaaaGreatDoorAN
import Derived.Laws.Sem
set_option linter.all false
namespace Mv
open Go
abbrev Q3 (v:V) (Hn:Hp) (kn:Nat):V→Hp→Nat→Prop:=fun r H' k'=>r=v∧H'=Hn∧k'=kn
def As (M:Seat) (f:Nat) (us:List V) (H:Hp) (k:Nat) (Q:V→Hp→Nat→Prop):Prop :=
 ∀ (e:Env) (vs:Array Value),Inv M ⟨e,fun b=>∃ id,Af H id=true∧e.ρ id=b,k⟩ e H→(∀ id,k≤id→¬ e.D id)→Ob e us vs →
  Calls M.P (M.φ f) vs e.w fun en w'=>∃ x v e' H' k',en = .returned x∧e'.w=w'∧Inv M ⟨e,fun b=>∃ id,Af H id=true∧e.ρ id=b,k⟩ e' H'∧RV e' v x∧(∀ id,k'≤id→¬ e'.D id)∧k≤k'∧Q v H' k'
theorem As.mono {M:Seat} {f:Nat} {us:List V} {H:Hp} {k:Nat} {Q Q':V→Hp→Nat→Prop} (h:As M f us H k Q) (hq:∀ v H' k',Q v H' k'→Q' v H' k'):As M f us H k Q':=by
 intro e vs h1 h2 h3;refine (h e vs h1 h2 h3).mono ?_;rintro en w' ⟨x,v,e',H',k',a,b,c,d,f,g,i⟩;exact ⟨x,v,e',H',k',a,b,c,d,f,g,hq _ _ _ i⟩
def Bf (m:List Nat):Hp→Hp
 | []=>[]
 | (j,v) :: r=>match m[j]? with | some i=>(i,v.ren m) :: Bf m r | none=>Bf m r
def AH (H:Hp):List Nat→Hp
 | []=>H
 | i :: r=>CT (AH H r) i
theorem GX (H:Hp) (j:Nat):∀ m,Af (AH H m) j=(Af H j && !m.contains j)
 | []=>by simp [AH]
 | i :: r => by
   rw [AH,CX,GX H j r,List.contains_cons];by_cases h:j=i <;> simp [h,bne,Bool.and_comm,Bool.and_assoc]
theorem GP (H:Hp) (j:Nat):∀ m,j ∉ m→hget (AH H m) j=hget H j
 | [],_=>rfl
 | i :: r, h => by
   rw [AH,CZ _ _ (by intro h';exact h (by simp [h'])),GP H j r (by intro h';exact h (by simp [h']))]
theorem FK (j:Nat):∀ H K:Hp,Af (H ++ K) j=(Af H j || Af K j)
 | [],_=>by simp [Af]
 | (i,v) :: r,K=>by simp [Af,FK j r K,Bool.or_assoc]
theorem Ey {j:Nat}:∀ {H K:Hp},Af H j=true→hget (H ++ K) j=hget H j
 | [],_,h=>by simp [Af] at h
 | (i, v) :: r, K, h => by
   simp only [List.cons_append,hget];split
   ·rfl
   ·rename_i hij;simp only [V1,beq_iff_eq,hij,false_or] at h;exact Ey h
theorem Eu {j:Nat}:∀ {H K:Hp},Af H j=false→hget (H ++ K) j=hget K j
 | [],_,_=>rfl
 | (i, v) :: r, K, h => by
   simp only [Af,Bool.or_eq_false_iff,beq_eq_false_iff_ne,ne_eq] at h;simp only [List.cons_append,hget,if_neg h.1];exact Eu h.2
theorem Hu {m:List Nat} (hm:m.Nodup):∀ {H:Hp} {id:Nat},Af (Bf m H) id=true→∃ j,m[j]?=some id∧Af H j=true∧hget (Bf m H) id=(hget H j).ren m
 | [],id,h=>by simp [Bf,Af] at h
 | (j, v) :: r, id, h => by
   cases hi:m[j]? with
   | some i =>
     have hr:Bf m ((j,v) :: r)=(i,v.ren m) :: Bf m r:=by simp only [Bf,hi]
     rw [hr] at h ⊢;by_cases hid:i=id
     ·subst hid;exact ⟨j,hi,by simp [Af],by simp [hget]⟩
     ·have h':Af (Bf m r) id=true:=by
       simp only [V1,beq_iff_eq] at h;exact h.resolve_left hid
      obtain ⟨j',h1,h2,h3⟩:=Hu hm h';have hjj:j ≠ j':=by
       rintro rfl;rw [hi] at h1;exact hid Uz
      exact ⟨j',h1,by simp [Af,h2],by simp [hget,hid,hjj,h3]⟩
   | none =>
     have hr:Bf m ((j,v) :: r)=Bf m r:=by simp only [Bf,hi]
     rw [hr] at h ⊢;obtain ⟨j',h1,h2,h3⟩:=Hu hm h;have hjj:j ≠ j':=by
      rintro rfl;rw [hi] at h1;cases h1
     exact ⟨j',h1,by simp [Af,h2],by simp [hget,hjj,h3]⟩
def Oy (H:Hp):Prop:=∀ id,Af H id=true→AG (hget H id)
def Bo (m:List Nat) (n k':Nat):List Nat:=m ++ (List.range (k' - m.length)).map (fun i=>n + i)
theorem NU {m:List Nat} {n k':Nat} (hk:m.length≤k') (j:Nat) (hj:j < k'):(Bo m n k')[j]?=if h:j < m.length then some m[j] else some (n + (j - m.length)):=by
 unfold Bo;split
 ·rename_i h;rw [List.getElem?_append_left h];exact List.getElem?_eq_getElem h
 ·rename_i h;rw [List.getElem?_append_right Aa];simp only [List.getElem?_map];rw [List.getElem?_range Aa];rfl
theorem JV {m:List Nat} {n k':Nat} (hm:m.Nodup) (hn:∀ i ∈ m,i < n):(Bo m n k').Nodup:=by
 unfold Bo;rw [List.nodup_append];refine ⟨hm,?_,?_⟩
 ·rw [List.Nodup,List.pairwise_map];exact (List.nodup_range (n:=k' - m.length)).imp (fun h h'=>h Aa)
 ·intro a ha b hb hab;simp only [List.mem_map,List.mem_range] at hb;obtain ⟨i,_,rfl⟩:=hb;have:=hn a ha;omega
theorem EE {M:Seat} {f:Nat} {us:List V} {H:Hp} {n:Nat} {K:V→Hp→Prop} {us0:List V} {H0:Hp} {k:Nat} {Q:V→Hp→Nat→Prop} (hr:As M f us0 H0 k Q) (L:Prop) [Decidable L] (m z:List Nat)
 (hm:m.Nodup) (hz:∀ i ∈ z,i ∉ m) (hk:m.length=k) (hall:∀ i ∈ m,Af H i=true) (hus:Bh H m z us0 us) (hH:B3 H m z H0)
 (hK:∀ v H' k',Q v H' k'→(k'≤k + 16∧(L→AG v∧Oy H'))∧K (v.ren (Bo m n k')) (Bf (Bo m n k') H' ++ AH H (if L then m else m ++ z))):Bk M f us H n K:=by
 intro c e vs hI hD hcn ⟨hvs,hargs⟩;subst hk;have hp:=Pull.of hI m z;have hI2:Inv M ⟨e.sim H m z,fun b=>∃ id,Af H0 id=true∧(e.sim H m z).ρ id=b,m.length⟩ (e.sim H m z) H0:=hI.sim (IV.of hm H0) hz hH (.inr ⟨rfl,hall⟩);have hmD:∀ i ∈ m,e.D i:=fun i hi=>(hI.blk i (hall i hi)).1;have hmn:∀ i ∈ m,i < n:=fun i hi=>Nat.lt_of_not_le (fun h=>hD i h (hmD i hi));refine (hr (e.sim H m z) vs hI2 ?_ ⟨hvs.trans (Hm hus).symm,fun t=>N9 hp (HN hus t) (hargs t)⟩).mono ?_
 ·rintro id hid ⟨i,h1,_⟩;have:=(List.getElem?_eq_some_iff.1 h1).1;omega
 rintro en w' ⟨x,v,e2,H',k',rfl,rfl,hI',hv,hD',hkk,hQ⟩;obtain ⟨⟨hk16,hL⟩,hKK⟩:=hK v H' k' hQ;have hO:∀ b,(∃ id,Af H0 id=true∧(e.sim H m z).ρ id=b)→∃ i ∈ m,e.ρ i=b:=by
  rintro b ⟨id,h1,h2⟩;obtain ⟨i,k1,k2,_⟩:=CN hH id h1;exact ⟨i,List.mem_of_getElem? k1,by simpa [Env.sim,k1] using h2⟩
 have hsame:∀ b,b < e.w.heap.size→(∀ i ∈ m,e.ρ i ≠ b)→e2.w.heap[b]?=e.w.heap[b]?:=fun b hb hn =>
  hI'.ev.frame b hb (fun ho=>by obtain ⟨i,h1,h2⟩:=hO b ho;exact hn i h1 h2)
 have hsize:e.w.heap.size≤e2.w.heap.size:=hI'.ev.size
 let e' : Env := { ρ := fun i => if n ≤ i then e2.ρ (m.length + (i - n)) else e.ρ i
                   D:=fun i=>e.D i ∨ (n≤i∧e2.D (m.length + (i - n)))
                   im:=fun b=>if L then e.im b else e2.im b
                   w:=e2.w,φ:=e2.φ,τ:=e2.τ }
 have hφ:e2.φ=e.φ:=hI'.φ.trans hI.φ.symm;have hτ:e2.τ=e.τ:=hI'.τ.trans hI.τ.symm;have him2:∀ b,e.im b→e2.im b:=fun b hb=>hI'.keep b (.inl hb);have him':∀ b,e.im b→e'.im b:=fun b hb=>by
  show if L then _ else _;split
  ·exact hb
  ·exact him2 b hb
 have him2':∀ b,e'.im b→e2.im b:=fun b hb=>by
  have hb:if L then e.im b else e2.im b:=hb;split at hb
  ·exact him2 b hb
  ·exact hb
 have hρold:∀ i,e.D i→e'.ρ i=e.ρ i:=fun i hi=>by
  show (if n≤i then _ else _)=_;rw [if_neg (fun h=>hD i h hi)]
 have hle:e.le e':=by
  refine ⟨fun i hi=>⟨.inl hi,hρold i hi⟩,fun b hb=>⟨him' b hb,fun cc el fz hc=>⟨el,fz,?_⟩,fun es ck hc=>?_⟩,hI'.ev.bs,hφ,hτ⟩
  ·show e2.w.heap[b]?=_;rw [hsame b (hI.imlt b hb) (fun i hi he=>(hI.blk i (hall i hi)).2.2.1 (he ▸ hb))];exact hc
  ·show e2.w.heap[b]?=_;rw [hsame b (hI.imlt b hb) (fun i hi he=>(hI.blk i (hall i hi)).2.2.1 (he ▸ hb))];exact hc
 have hpush:Push L (Bo m n k') e2 e':=by
  refine ⟨fun j hj=>?_,fun hnl b hb=>?_,rfl,rfl,rfl⟩
  ·have hjk:j < k':=Nat.lt_of_not_le (fun h=>hD' j h hj);have hg:=NU (n:=n) hkk j hjk;by_cases hjm:j < m.length
   ·rw [dif_pos hjm] at hg;have hmj:e.D m[j]:=by
     obtain ⟨i,h1,h2⟩:=(hI'.low j hjm).1.1 hj;rw [List.getElem?_eq_getElem hjm,Option.some.injEq] at h1;exact h1 ▸ h2
    refine ⟨m[j],hg,.inl hmj,?_⟩;rw [hρold _ hmj];have:=(hI'.low j hjm).2 hj;rw [this];simp [Env.sim,List.getElem?_eq_getElem hjm]
   ·rw [dif_neg hjm] at hg;have e1:m.length + (n + (j - m.length) - n)=j:=Aa;refine ⟨_,hg,.inr ⟨by omega,by rw [e1];exact hj⟩,?_⟩;show (if _ then _ else _)=_;rw [if_pos Aa,e1]
  ·show if L then _ else _;rw [if_neg hnl];exact hb
 have hnd:(Bo m n k').Nodup:=JV hm hmn;have hnew:∀ b,(∃ id,Af H0 id=true∧(e.sim H m z).ρ id=b) ∨ (e.sim H m z).w.heap.size≤b→c.O b ∨ c.e0.w.heap.size≤b:=by
  rintro b (h | h)
  ·obtain ⟨i,h1,rfl⟩:=hO b h;exact (hI.blk i (hall i h1)).2.2.2
  ·have h:e.w.heap.size≤b:=h;have:=hI.ev.size;exact .inr Aa
 have hold:∀ id,Af (AH H (if L then m else m ++ z)) id=true→Af H id=true∧id ∉ m∧(¬ L→id ∉ z)∧hget (AH H (if L then m else m ++ z)) id=hget H id:=by
  intro id hid;rw [GX] at hid;simp only [X5,List.contains_eq_mem,decide_eq_false_iff_not] at hid;refine ⟨hid.1,?_,?_,GP _ _ _ hid.2⟩
  ·intro h';apply hid.2;split
   ·exact h'
   ·exact List.mem_append_left _ h'
  ·intro hnl h';apply hid.2;rw [if_neg hnl];exact List.mem_append_right _ h'
 have hrenb:∀ id,Af (Bf (Bo m n k') H') id=true→∃ j,Af H' j=true∧e'.D id∧e'.ρ id=e2.ρ j∧(Bo m n k')[j]?=some id∧hget (Bf (Bo m n k') H') id=(hget H' j).ren (Bo m n k'):=by
  intro id hid;obtain ⟨j,h1,h2,h3⟩:=Hu hnd hid;obtain ⟨i,k1,k2,k3⟩:=hpush.D j (hI'.blk j h2).1;rw [h1] at k1;simp only [Option.some.injEq] at k1;subst k1;exact ⟨j,h2,k2,k3,h1,h3⟩
 refine ⟨x,v.ren (Bo m n k'),e',Bf (Bo m n k') H' ++ AH H (if L then m else m ++ z),rfl,rfl,hle,?_,R6 hpush (fun hl=>(hL hl).1) hv,?_,hKK⟩
 ·have hblk:∀ id,Af (Bf (Bo m n k') H' ++ AH H (if L then m else m ++ z)) id=true→(Af (Bf (Bo m n k') H') id=true∧hget (Bf (Bo m n k') H' ++ AH H (if L then m else m ++ z)) id=hget (Bf (Bo m n k') H') id) ∨ (Af (AH H (if L then m else m ++ z)) id=true∧hget (Bf (Bo m n k') H' ++ AH H (if L then m else m ++ z)) id=hget (AH H (if L then m else m ++ z)) id):=by
   intro id hid;rw [FK] at hid;cases hr':Af (Bf (Bo m n k') H') id with
   | true=>exact .inl ⟨rfl,Ey hr'⟩
   | false=>rw [hr',Bool.false_or] at hid;exact .inr ⟨hid,Eu hr'⟩
  have hsep:∀ i j,Af H i=true→i ∉ m→Af H' j=true→e.ρ i ≠ e2.ρ j:=by
   intro i j hi him hj he;rcases (hI'.blk j hj).2.2.2 with h | h
   ·obtain ⟨i',h1,h2⟩:=hO _ h;exact him (by rw [hI.inj i i' hi (hall i' h1) (he.trans h2.symm)];exact h1)
   ·have h:e.w.heap.size≤e2.ρ j:=h;have:=hI.rb i (hI.blk i hi).1;omega
  refine ⟨?_,?_,?_,?_,?_,?_,fun b hb=>him' b (hI.keep b hb),?_,hI.gs.mono hle,hI'.φ,hI'.τ⟩
  ·exact hI.ev.trans hI'.ev (fun b hb=>by
    obtain ⟨i,h1,rfl⟩:=hO b hb;rcases (hI.blk i (hall i h1)).2.2.2 with h | h
    ·exact .inl h
    ·exact .inr h)
  ·intro id hid;rcases hblk id hid with ⟨h1,h2⟩ | ⟨h1,h2⟩
   ·obtain ⟨j,k1,k2,k3,k4,k5⟩:=hrenb id h1;obtain ⟨q1,q2,q3,q4⟩:=hI'.blk j k1;rw [h2,k5,k3];exact ⟨k2,Kh hpush k3 (fun hl=>(hL hl).2 j k1) q2,fun h=>q3 (him2' _ h),hnew _ q4⟩
   ·obtain ⟨k1,k2,k3,k4⟩:=hold id h1;obtain ⟨q1,q2,q3,q4⟩:=hI.blk id k1;have hne:∀ i ∈ m,e.ρ i ≠ e.ρ id:=fun i hi he=>k2 (by rw [← hI.inj i id (hall i hi) k1 he];exact hi);rw [h2,k4,hρold id q1];refine ⟨.inl q1,D5 hle q1 (hsame _ (hI.rb id q1) hne) q2,?_,q4⟩;intro h;have h:if L then e.im (e.ρ id) else e2.im (e.ρ id):=h;split at h
    ·exact q3 h
    ·rename_i hnl;rcases hI'.imo _ h with h | h | h
     ·rcases h with h | ⟨i,hf,he⟩
      ·exact q3 h
      ·obtain ⟨f1,f2,_⟩:=Fc hf;rw [hI.inj id i k1 f2 he] at k3;exact k3 hnl f1
     ·obtain ⟨i,h1,h2⟩:=hO _ h;exact hne i h1 h2
     ·have h:e.w.heap.size≤e.ρ id:=h;have:=hI.rb id q1;omega
  ·intro i j hi hj hij;rcases hblk i hi with ⟨h1,_⟩ | ⟨h1,_⟩ <;> rcases hblk j hj with ⟨h2,_⟩ | ⟨h2,_⟩
   ·obtain ⟨a,a1,_,a3,a4,_⟩:=hrenb i h1;obtain ⟨b,b1,_,b3,b4,_⟩:=hrenb j h2;rw [a3,b3] at hij;have:=hI'.inj a b a1 b1 hij;subst this;rw [a4] at b4;simpa using b4
   ·obtain ⟨a,a1,_,a3,_⟩:=hrenb i h1;obtain ⟨b1,b2,_⟩:=hold j h2;rw [a3,hρold j (hI.blk j b1).1] at hij;exact absurd hij.symm (hsep j a b1 b2 a1)
   ·obtain ⟨a,a1,_,a3,_⟩:=hrenb j h2;obtain ⟨b1,b2,_⟩:=hold i h1;rw [a3,hρold i (hI.blk i b1).1] at hij;exact absurd hij (hsep i a b1 b2 a1)
   ·obtain ⟨b1,_⟩:=hold i h1;obtain ⟨b2,_⟩:=hold j h2;rw [hρold i (hI.blk i b1).1,hρold j (hI.blk j b2).1] at hij;exact hI.inj i j b1 b2 hij
  ·intro b hb;have hb:if L then e.im b else e2.im b:=hb;split at hb
   ·exact hI.imo b hb
   ·rcases hI'.imo b hb with h | h | h
    ·rcases h with h | ⟨i,hf,rfl⟩
     ·exact hI.imo b h
     ·exact .inr (hI.blk i (Fc hf).2.1).2.2.2
    ·exact .inr (hnew b (.inl h))
    ·exact .inr (hnew b (.inr h))
  ·intro b hb;exact hI'.imb b (him2' b hb)
  ·intro id hid;rcases hid with hid | ⟨h1,h2⟩
   ·rw [hρold id hid];have:=hI.rb id hid;show e.ρ id < e2.w.heap.size;omega
   ·show (if n≤id then _ else _) < _;rw [if_pos h1];exact hI'.rb _ h2
  ·intro id hid;obtain ⟨h1,h2⟩:=hI.low id hid;have hres:∀ {p:Prop},(e.D id ∨ (n≤id∧p))→e.D id:=fun h=>h.resolve_right (fun h=>by have:=h.1;have:id < c.k:=hid;omega);exact ⟨⟨fun h=>h1.1 (hres h),fun h=>.inl (h1.2 h)⟩,fun hd=>(hρold id (hres hd)).trans (h2 (hres hd))⟩
 ·rintro id (h | ⟨h1,h2⟩)
  ·exact .inl h
  ·refine .inr ⟨h1,?_⟩;have:=Nat.lt_of_not_le (fun h=>hD' _ h h2);omega
variable {M:Seat}
inductive RVr where
 | tmp (t:Nat)
 | cell (a:Nat) (agg:Bool) (sz:Nat)
structure LF where
 c:LC
 np:Nat
 nf:Nat
 nt:Nat
 rs:List RVr
def Ez (A:List V) (H:Hp):RVr→V
 | .tmp t=>A.getD t .junk
 | .cell a agg sz=>(Ag A H 0 (.load agg sz (.t a))).v
def H9 (A:List V) (H:Hp):RVr→Prop
 | .tmp _=>True
 | .cell a agg sz=>(match A.getD a .junk with | .ptr _ _=>True | _=>False)∧(Ag A H 0 (.load agg sz (.t a))).pre
def Hy (A:List V) (H:Hp):List RVr→Prop
 | []=>True
 | r :: rs=>H9 A H r∧Hy A H rs
def KI (A:List V) (H:Hp):List RVr→Nat→V
 | [],_=>.fnil
 | r :: rs, i => match Ez A H r with
   | .junk=>KI A H rs (i + 1)
   | v=>.fcons i v (KI A H rs (i + 1))
def Lk (A:List V) (H:Hp):List RVr→Prop
 | []=>True
 | r :: rs=>(match Ez A H r with | .junk=>True | v=>v.solid=true)∧Lk A H rs
def EO (A:List V) (H:Hp) (rs:List RVr):Prop × V :=
 match rs with
 | [r]=>(H9 A H r,Ez A H r)
 | rs=>(Hy A H rs∧Lk A H rs,.tup (KI A H rs 0))
def Laj:=(aq8 @EO.eq_1 @EO.eq_2 @H9.eq_1 @H9.eq_2 @Hy.eq_1 @Hy.eq_2 @Ez.eq_1 @Ez.eq_2)
def Aj9 (M:Seat):ResultVar→RVr→Bool
 | .tmp t,.tmp t'=>t == t'
 | .cell a t,.cell a' agg sz=>a == a' && FD M t == some sz && H3 M t == some agg
 | _,_=>false
def JW (M:Seat):List ResultVar→List RVr→Bool
 | [],[]=>true
 | r :: rs,s :: ss=>Aj9 M r s && JW M rs ss
 | _,_=>false
def Ar (M:Seat) (f:Nat) (lf:LF):Bool :=
 match M.P.funcs[M.φ f]? with
 | some fn=>(match fn.body with | some c=>Bw M c lf.c | none=>false) && fn.ntmps == lf.nt && JW M fn.results.toList lf.rs
 | none=>false
def Hb (us:List V) (nt:Nat):List V:=us ++ List.replicate (nt - us.length) .junk
def Ani (M:Seat) (x:Ctx) (rs:List RVr) (Q:V→Hp→Nat→Prop) (A:List V) (H:Hp) (N:Nat):Prop :=
 ∃ A' H' N',Av M x A H N A' H' N'∧(EO A' H' rs).1∧Q (EO A' H' rs).2 H' N'
theorem Ani.now {x:Ctx} {rs:List RVr} {Q:V→Hp→Nat→Prop} {A:List V} {H:Hp} {N:Nat} (h:(EO A H rs).1∧Q (EO A H rs).2 H N):Ani M x rs Q A H N :=
 ⟨A,H,N,Av.refl,h⟩
def Acj (tmps:Array Value):ResultVar→Sem Value
 | .tmp t=>pure (tmps.getD t undef)
 | .cell a' t=>do loadVar t (← asAddr (tmps.getD a' undef))
theorem ZT {c:Ctx} {e:Env} {H:Hp} {A:List V} {a:Act} (hI:Inv M c e H) (hA:FR e A a.tmps) {r:ResultVar} {s:RVr} (hc:Aj9 M r s=true) (hp:H9 A H s) :
 ∃ v,Sem.run M.P (Acj a.tmps r) e.w = .ok v e.w∧RV e (Ez A H s) v:=by
 cases r <;> cases s <;> simp only [Aj9,Bool.false_eq_true] at hc;case tmp.tmp t t' =>
  simp only [beq_iff_eq] at hc;subst hc;exact ⟨_,rfl,hA.val t⟩
 case cell.cell a' t a'' agg sz =>
  simp only [Bool.and_eq_true,beq_iff_eq] at hc;obtain ⟨⟨rfl,hs⟩,ha⟩:=hc;obtain ⟨hptr,hp⟩:=hp;have hv:=hA.val a';simp only [Ez];simp only [Ag,X.ev] at hp ⊢;split at hptr;case h_2=>exact hptr.elim
  rename_i id p hy;rw [hy] at hv;simp only [hy] at hp ⊢;obtain ⟨⟨h1,h2,h3⟩,h4,h5,h6⟩:=hp;obtain ⟨cells,el,hcc,hsz,hR⟩:=hI.cells h1 h2;have hlen:(cells.toList.take (hget H id).size).length=(hget H id).size:=F6;obtain ⟨g1,g2⟩:=DP hR hlen h3;rw [hlen] at g1;have g3:R e ((hget H id).get p) ((cells.toList.drop (At p)).take sz):=by
   rw [List.drop_take,List.take_take,Nat.min_eq_left Aa,h5] at g2;exact g2
  have hle:At p + sz≤cells.size:=Aa;obtain ⟨k1,k2⟩:=DH (o:=At p) h4 h5 h6 hle g3;simp only [RV,RS,V.isAgg,R,E0] at hv;refine ⟨_,?_,k2⟩;have:=FO hs ha hcc hle k1;simp only [Acj];rw [hv.2];simpa [Instr.loadAt,Instr.sureAddr,asAddr] using this
theorem Ta {c:Ctx} {e:Env} {H:Hp} {A:List V} {a:Act} (hI:Inv M c e H) (hA:FR e A a.tmps):∀ (rs:List ResultVar) (ss:List RVr),JW M rs ss=true→Hy A H ss →
 ∃ vs:List Value,Sem.run M.P (rs.mapM (Acj a.tmps)) e.w = .ok vs e.w∧vs.length=ss.length∧∀ i (h:i < ss.length),RV e (Ez A H ss[i]) (vs.getD i undef)
 | [],[],_,_=>⟨[],by simp,rfl,fun i h=>by simp at h⟩
 | r :: rs, s :: ss, hc, hp => by
   simp only [JW,Bool.and_eq_true] at hc;simp only [Hy] at hp;obtain ⟨v,h1,h2⟩:=ZT hI hA hc.1 hp.1;obtain ⟨vs,h3,h4,h5⟩:=Ta hI hA rs ss hc.2 hp.2;refine ⟨v :: vs,?_,by simp [h4],fun i hi=>?_⟩
   ·rw [List.mapM_cons,Sem.run_bind,h1];simp only [Result.andThen_ok];rw [Sem.run_bind,h3];rfl
   ·cases i with
    | zero=>simpa using h2
    | succ i=>simpa using h5 i (by simpa using hi)
 | [],_ :: _,hc,_=>by simp [JW] at hc
 | _ :: _,[],hc,_=>by simp [JW] at hc
theorem Af0 {e:Env} {A:List V} {H:Hp}:∀ (ss:List RVr) (k:Nat) (xs:Array Value),Lk A H ss→(∀ i (h:i < ss.length),∃ y,xs[k + i]?=some y∧RV e (Ez A H ss[i]) y)→RT e (KI A H ss k) xs
 | [],_,_,_,_=>trivial
 | s :: ss, k, xs, hp, h => by
   simp only [Lk] at hp
   have AH:=Af0 ss (k + 1) xs hp.2 (fun i hi=>by
    have:=h (i + 1) (by simpa using hi);have e1:k + (i + 1)=k + 1 + i:=Aa;rw [e1] at this
    simpa using this)
   obtain ⟨y,h1,h2⟩:=h 0 BF;simp only [List.getElem_cons_zero,Nat.add_zero] at h1 h2;have h3:=hp.1;unfold KI;cases hv:Ez A H s with
   | junk=>exact AH
   | _ =>
     rw [hv] at h2 h3;exact ⟨⟨h3,y,h1,(Bb h3).1 h2⟩,AH⟩
theorem OS {c:Ctx} {e:Env} {H:Hp} {A:List V} {a:Act} (hI:Inv M c e H) (hA:FR e A a.tmps) {fn:Func} {ss:List RVr} (hc:JW M fn.results.toList ss=true) (hp:(EO A H ss).1) :
 ∃ v,(results fn a.tmps).run M.P e.w = .ok v e.w∧RV e (EO A H ss).2 v:=by
 have hps:Hy A H ss:=by
  unfold EO at hp;split at hp
  ·exact ⟨hp,trivial⟩
  ·exact hp.1
 obtain ⟨vs,h1,h2,h3⟩:=Ta hI hA _ _ hc hps;have hres:results fn a.tmps=(do let vs ← fn.results.mapM (Acj a.tmps);pure (if h:vs.size=1 then vs[0] else .tuple vs)):=by
  unfold results
  congr 1
  try (congr 1;funext r;cases r <;> rfl)
 rw [hres,Array.mapM_eq_mapM_toList];simp only [map_eq_pure_bind,bind_assoc,pure_bind];rw [Sem.run_bind,h1];simp only [Result.andThen_ok,Sem.run_pure];refine ⟨_,rfl,?_⟩;unfold EO;split
 ·rename_i s;have hl:vs.length=1:=h2;rw [dif_pos OG];have:=h3 0 BF;simp only [List.getElem_cons_zero] at this;have e1:vs.getD 0 undef=vs[0]'(by omega):=by simp [List.getD,hl]
  rw [e1] at this;simpa using this
 ·rename_i hne;have hl:vs.length ≠ 1:=by
   rw [h2];intro hl
   match ss,hl,hne with
   | [s],_,hne=>exact hne s rfl
  rw [dif_neg OG];refine ⟨_,rfl,Af0 ss 0 _ ?_ (fun i hi=>?_)⟩
  ·unfold EO at hp;split at hp
   ·rename_i s;exact absurd rfl (hne s)
   ·exact hp.2
  ·have:=h3 i hi;have hi':i < vs.length:=Aa;refine ⟨vs[i],by simp [hi'],?_⟩;simpa [List.getD,hi'] using this
theorem UM {e:Env} {us:List V} {vs:Array Value} (h:Ob e us vs) (nt:Nat):FR e (Hb us nt) (vs ++ Array.replicate (nt - vs.size) undef):=by
 obtain ⟨h1,h2⟩:=h;refine ⟨by simp [Hb,h1],fun t=>?_⟩;unfold Hb;by_cases ht:t < us.length
 ·have e1:(us ++ List.replicate (nt - us.length) V.junk).getD t .junk=us.getD t .junk:=by
   simp only [List.getD,List.getElem?_append,ht,if_true]
  have e2:(vs ++ Array.replicate (nt - vs.size) undef).getD t undef=vs.getD t undef:=by
   have:t < vs.size:=Aa;simp [Array.getElem?_append,this]
  rw [e1,e2];exact h2 t
 ·have e1:(us ++ List.replicate (nt - us.length) V.junk).getD t .junk = .junk:=by
   simp only [List.getD,List.getElem?_append,ht,if_false,List.getElem?_replicate];split <;> rfl
  rw [e1];trivial
def Ay (M:Seat) (x:Ctx) (rs:List RVr) (Q:V→Hp→Nat→Prop) (A:List V) (H:Hp) (N:Nat):Prop :=
 ∃ (m z:List Nat) (v:V) (H':Hp) (N':Nat),IV m H'∧(z.all (fun i=>!m.contains i) && decide (m.length≤N') && decide (x.k≤N') && (List.range x.k).all (fun j=>m[j]? == some j))=true ∧
  (EO A H rs).1∧B5 H m z v (EO A H rs).2∧B3 H m z H'∧Q v H' N'
theorem Ay.mk {x:Ctx} {rs:List RVr} {Q:V→Hp→Nat→Prop} {A:List V} {H:Hp} {N:Nat} {k:Nat} (hx:x.k=k) (m z:List Nat) (v:V) (H':Hp) (N':Nat)
 (hm:(decide m.Nodup && z.all (fun i=>!m.contains i) && decide (m.length≤N') && decide (k≤N') && (List.range k).all (fun j=>m[j]? == some j))=true) (h1:(EO A H rs).1) (h2:B5 H m z v (EO A H rs).2) (h3:B3 H m z H') (h4:Q v H' N'):Ay M x rs Q A H N :=
 ⟨m,z,v,H',N',by
  simp only [Bool.and_eq_true,decide_eq_true_eq] at hm
  exact IV.of hm.1.1.1.1 H',by rw [hx];simp only [Bool.and_eq_true] at hm ⊢;exact ⟨⟨⟨hm.1.1.1.2,hm.1.1.2⟩,hm.1.2⟩,hm.2⟩,h1,h2,h3,h4⟩
theorem Ay.mkO {x:Ctx} {rs:List RVr} {Q:V→Hp→Nat→Prop} {A:List V} {H:Hp} {N:Nat} {k:Nat} (hx:x.k=k) (m z L:List Nat) (v:V) (H':Hp) (N':Nat) (hL:V5 H' L)
 (hm:((L.all fun i=>L.all fun j=>i == j || m[i]? != m[j]?) && z.all (fun i=>!m.contains i) && decide (m.length≤N') && decide (k≤N') && (List.range k).all (fun j=>m[j]? == some j))=true) (h1:(EO A H rs).1) (h2:B5 H m z v (EO A H rs).2) (h3:B3 H m z H') (h4:Q v H' N'):Ay M x rs Q A H N :=
 ⟨m,z,v,H',N',by
  simp only [Bool.and_eq_true] at hm
  exact IV.at L hL hm.1.1.1.1,by rw [hx];simp only [Bool.and_eq_true] at hm ⊢;exact ⟨⟨⟨hm.1.1.1.2,hm.1.1.2⟩,hm.1.2⟩,hm.2⟩,h1,h2,h3,h4⟩
theorem TY {f:Nat} {lf:LF} {us:List V} {H:Hp} {k:Nat} {Q:V→Hp→Nat→Prop} (hf:Ar M f lf=true)
 (h:∀ x:Ctx,x.k=k→F8 M x (fun A' H' N'=>Ay M x lf.rs Q A' H' N') [.code lf.c] k (Hb us lf.nt) H):As M f us H k Q:=by
 intro e vs hI hD hargs;unfold Ar at hf;split at hf;case h_2=>cases hf
 rename_i fn hfn;simp only [Bool.and_eq_true,beq_iff_eq] at hf;obtain ⟨⟨hb,hnt⟩,hrs⟩:=hf;split at hb;case h_2=>cases hb
 rename_i C hC;refine calls_of_wp hfn hC ?_;rw [hnt];have hsat:U5 M ⟨e,fun b=>∃ id,Af H id=true∧e.ρ id=b,k⟩ (Hb us lf.nt) H k { tmps:=vs ++ Array.replicate (lf.nt - vs.size) undef,defers:=[] } e.w :=
  ⟨e,rfl,hI,UM hargs lf.nt,hD,Nat.le_refl k,rfl⟩
 have:=h ⟨e,fun b=>∃ id,Af H id=true∧e.ρ id=b,k⟩ rfl _ _ [.code C] hsat ⟨hb,trivial⟩;have h2:C.wp M.P (C9 M ⟨e,fun b=>∃ id,Af H id=true∧e.ρ id=b,k⟩ (fun A' H' N'=>Ay M ⟨e,fun b=>∃ id,Af H id=true∧e.ρ id=b,k⟩ lf.rs Q A' H' N') []) { tmps:=vs ++ Array.replicate (lf.nt - vs.size) undef,defers:=[] } e.w:=this;refine Code.wp_mono (fun ex a w hx=>?_) h2;have key:(∃ A H' N,U5 M ⟨e,fun b=>∃ id,Af H id=true∧e.ρ id=b,k⟩ A H' N a w∧Ay M ⟨e,fun b=>∃ id,Af H id=true∧e.ρ id=b,k⟩ lf.rs Q A H' N) →
  a.defers=[]∧∃ v,(results fn a.tmps).run M.P w = .ok v w∧∃ x v' e' H' k',(Ending.returned v:Ending) = .returned x∧e'.w=w∧Inv M ⟨e,fun b=>∃ id,Af H id=true∧e.ρ id=b,k⟩ e' H'∧RV e' v' x∧(∀ id,k'≤id→¬ e'.D id)∧k≤k'∧Q v' H' k':=by
  rintro ⟨A,H1,N,hs,m,z,v',H',N',m1,hm,hpre,hv',hH',hq⟩;simp only [X5,decide_eq_true_eq,List.all_eq_true,List.mem_range,beq_iff_eq,List.contains_eq_mem,decide_eq_false_iff_not] at hm;obtain ⟨⟨⟨m2,m3⟩,m4⟩,m5⟩:=hm;obtain ⟨e',rfl,hI',hF',hD',hk',hdef⟩:=hs;obtain ⟨v,hv,hRV⟩:=OS hI' hF' hrs hpre;refine ⟨hdef,v,hv,v,v',e'.sim H1 m z,H',N',rfl,rfl,hI'.sim m1 m2 hH' (.inl ⟨rfl,m5⟩),N9 (Pull.of hI' m z) hv' hRV,?_,m4,hq⟩;rintro id hid ⟨i,h1,_⟩;have:=(List.getElem?_eq_some_iff.1 h1).1;omega
 cases ex <;> try (exact hx.elim)
 ·exact key hx
 ·exact key hx
end Mv
