/- A part. -/
import Derived.Test.YtgeionenpaopaaaGreatDoorAV
set_option linter.all false
namespace Mv
open Go
variable {M:Seat}
theorem Inv.sim2 {c c':Ctx} {e:Env} {H:Hp} (hI:Inv M c e H) {m z:List Nat} (hm:m.Nodup) (hz:∀ i ∈ z,i ∉ m) {H':Hp} (hH:B3 H m z H')
 (hc:(c'=c∧∀ j,j < c.k→m[j]?=some j) ∨ (c'=⟨e.sim H m z,fun b=>∃ id,Af H' id=true∧(e.sim H m z).ρ id=b,m.length⟩)):Inv M c' (e.sim H m z) H':=by
 have hp:=Pull.of hI m z;have hblk:∀ j,Af H' j=true→(e.sim H m z).D j∧C2 (e.sim H m z) j (hget H' j)∧¬ (e.sim H m z).im ((e.sim H m z).ρ j)∧(c.O ((e.sim H m z).ρ j) ∨ c.e0.w.heap.size≤(e.sim H m z).ρ j):=by
  intro j hj;obtain ⟨i,h1,h2,h3⟩:=CN hH j hj;obtain ⟨k1,k2,k3,k4⟩:=hI.blk i h2;have hρ:(e.sim H m z).ρ j=e.ρ i:=by simp [Env.sim,h1]
  refine ⟨⟨i,h1,k1⟩,Lu hp hρ h3 k2,?_,?_⟩
  ·rw [hρ];rintro (h | ⟨i',hf,he⟩)
   ·exact k3 h
   ·obtain ⟨f1,f2,_⟩:=Fc hf;have:=hI.inj i i' h2 f2 he;subst this;exact hz _ f1 (List.mem_of_getElem? h1)
  ·rw [hρ];exact k4
 have hinj:∀ i j,Af H' i=true→Af H' j=true→(e.sim H m z).ρ i=(e.sim H m z).ρ j→i=j:=by
  intro i j hi hj hij;obtain ⟨i',h1,h2,_⟩:=CN hH i hi;obtain ⟨j',h3,h4,_⟩:=CN hH j hj;simp only [Env.sim,h1,h3] at hij;have:=hI.inj i' j' h2 h4 hij;subst this;exact getElem?_nodup hm h1 h3
 have himo:∀ b,(e.sim H m z).im b→c.e0.im b ∨ c.O b ∨ c.e0.w.heap.size≤b:=by
  rintro b (h | ⟨i,hf,rfl⟩)
  ·exact hI.imo b h
  ·exact .inr (hI.blk i (Fc hf).2.1).2.2.2
 have himb:∀ b,(e.sim H m z).im b→(∃ cells el fz,(e.sim H m z).w.heap[b]?=some (.cells cells el fz)) ∨ ∃ es ck,(e.sim H m z).w.heap[b]?=some (.map es ck):=by
  rintro b (h | ⟨i,hf,rfl⟩)
  ·exact hI.imb b h
  ·rcases (Bool.or_eq_true _ _).mp hf with hf | hf
   ·obtain ⟨_,cells,el,h1,_⟩:=hp.fz i hf;exact .inl ⟨cells,el,_,h1⟩
   ·obtain ⟨_,h1⟩:=hp.fm i hf;obtain ⟨n,ks,vs,hg⟩:=Sh hf;rw [hg] at h1;obtain ⟨es,ck,h2,_⟩:=h1;exact .inr ⟨es,ck,h2⟩
 have hrb:∀ id,(e.sim H m z).D id→(e.sim H m z).ρ id < (e.sim H m z).w.heap.size:=by
  rintro id ⟨i,h1,h2⟩;simp only [Env.sim,h1];exact hI.rb i h2
 have hgs:GS M (e.sim H m z):=⟨fun g hg =>
  BN hp (show Aw H m z (.imm (U8 g)) (.imm (U8 g)) from SW H m z g) (hI.gs.1 g hg),fun p hp'=>⟨.inl (hI.gs.2 p hp').1,(hI.gs.2 p hp').2⟩⟩
 rcases hc with ⟨rfl,hlow⟩ | rfl
 ·refine ⟨hI.ev,hblk,hinj,himo,himb,hrb,fun b hb=>.inl (hI.keep b hb),fun id hid=>?_,hgs,hI.φ,hI.τ⟩;obtain ⟨h1,h2⟩:=hI.low id hid;have hd:(e.sim H m z).D id ↔ e.D id:=⟨fun ⟨i,k1,k2⟩=>by rw [hlow id hid,Option.some.injEq] at k1;exact k1 ▸ k2,fun h=>⟨id,hlow id hid,h⟩⟩
  exact ⟨hd.trans h1,fun h=>by simp only [Env.sim,hlow id hid];exact h2 (hd.1 h)⟩
 ·refine ⟨Ev.refl _ _,fun j hj=>⟨(hblk j hj).1,(hblk j hj).2.1,(hblk j hj).2.2.1,.inl ⟨j,hj,rfl⟩⟩,hinj,fun b hb=>.inl hb,himb,hrb,fun b hb=>hb,fun id hid=>⟨Iff.rfl,fun _=>rfl⟩,hgs,hI.φ,hI.τ⟩
def E7 (i:Nat):V→Bool
 | .ptr j _=>j == i
 | .map j=>j == i
 | .sl j _ _ _ _=>j == i
 | .ifc _ v=>E7 i v
 | .imm v=>E7 i v
 | .st _ fs=>E7 i fs
 | .fcons _ v r=>E7 i r || E7 i v
 | _=>false
theorem Ep {e:Env} {i:Nat}:∀ {v:V} {cs:List Value},R e v cs→E7 i v=true→e.D i
 | .ptr j p,cs,h,hi=>by simp only [E7,beq_iff_eq] at hi;subst hi;simp only [R] at h;exact h.1
 | .map j,cs,h,hi=>by simp only [E7,beq_iff_eq] at hi;subst hi;simp only [R] at h;exact h.1
 | .sl j _ _ _ _,cs,h,hi=>by simp only [E7,beq_iff_eq] at hi;subst hi;simp only [R] at h;exact h.1
 | .ifc _ v, cs, h, hi => by
   simp only [R] at h;obtain ⟨x,_,_,h⟩:=h;split at h
   ·obtain ⟨c,_,h⟩:=h;exact Ep h hi
   ·exact Ep h hi
 | .imm v, cs, h, hi => by
   simp only [R] at h;obtain ⟨_,_,_,_,_,_,_,_,_,h⟩:=h;exact Ep h hi
 | .st _ fs,cs,h,hi=>by simp only [R] at h;exact Ep h.2.2 hi
 | .fcons _ v r, cs, h, hi => by
   simp only [R] at h;simp only [E7,Bool.or_eq_true] at hi;exact hi.elim (Ep h.2.2.2.2) (Ep h.2.2.2.1)
 | .junk,_,_,hi | .int ..,_,_,hi | .bool _,_,_,hi | .str _,_,_,hi | .nilp,_,_,hi | .nils,_,_,hi | .lst ..,_,_,hi | .nilm,_,_,hi | .nilf,_,_,hi | .fn ..,_,_,hi | .nili,_,_,hi | .ar ..,_,_,hi | .fnil,_,_,hi | .tup _,_,_,hi | .mp ..,_,_,hi | .fm ..,_,_,hi=>by simp [E7] at hi
def DV (us:List V) (i:Nat):Bool:=us.any fun v=>match v with | .ptr j _=>j == i | .map j=>j == i | .sl j _ _ _ _=>j == i | .imm w=>E7 i w | _=>false
theorem VR {e:Env} {us:List V} {vs:Array Value} (h:Ob e us vs) {i:Nat} (hi:DV us i=true):e.D i:=by
 unfold DV at hi;rw [List.any_eq_true] at hi;obtain ⟨v,hv,hvi⟩:=hi;obtain ⟨t,ht,rfl⟩:=List.getElem_of_mem hv;have:=h.2 t;rw [show us.getD t .junk=us[t] by simp [List.getD,ht]] at this;generalize us[t]=v at *
 cases v <;> simp only [Bool.false_eq_true,beq_iff_eq] at hvi;case imm w =>
  simp only [RV,RS,V.isAgg,R] at this;obtain ⟨_,_,_,_,_,_,_,_,_,h⟩:=this;exact Ep h hvi
 all_goals (subst hvi;simp only [RV,RS,V.isAgg,R] at this;exact this.1)
def Qq (l:List Nat) (H:Hp) (i:Nat):Bool:=l.any fun p=>Af H p && (hget H p).solid && E7 i (hget H p)
theorem Ai7 {c:Ctx} {e:Env} {l:List Nat} {H:Hp} (hI:Inv M c e H) {i:Nat} (hi:Qq l H i=true):e.D i:=by
 unfold Qq at hi;rw [List.any_eq_true] at hi;obtain ⟨p,_,hp⟩:=hi;simp only [Bool.and_eq_true] at hp;obtain ⟨_,_,_,_,hR⟩:=hI.cells hp.1.1 hp.1.2;exact Ep hR hp.2
theorem GY {f:Nat} {us:List V} {H:Hp} {n:Nat} {K:V→Hp→Prop} {us0:List V} {H0:Hp} {k:Nat} {Q:V→Hp→Nat→Prop} (hr:As M f us0 H0 k Q) (L:Prop) [Decidable L] (m m0 z:List Nat) (h0:∀ id i,Af H0 id=true→m[id]?=some i→i ∈ m0) (h0m:∀ i ∈ m0,i ∈ m)
 (hm:m.Nodup) (hz:∀ i ∈ z,i ∉ m) (hk:m.length=k) (hmn:∀ i ∈ m,i < n) (hus:Bh H m z us0 us) (hH:B3 H m z H0)
 (hK:∀ v H' k',Q v H' k'→(k'≤k + 16∧(L→AG v∧Oy H'))∧K (v.ren (Bo m n k')) (Bf (Bo m n k') H' ++ AH H (if L then m0 else m0 ++ z))):Bk M f us H n K:=by
 intro c e vs hI hD hcn ⟨hvs,hargs⟩;subst hk;have hp:=Pull.of hI m z;have hI2:Inv M ⟨e.sim H m z,fun b=>∃ id,Af H0 id=true∧(e.sim H m z).ρ id=b,m.length⟩ (e.sim H m z) H0:=hI.sim2 hm hz hH (.inr rfl);refine (hr (e.sim H m z) vs hI2 ?_ ⟨hvs.trans (Hm hus).symm,fun t=>N9 hp (HN hus t) (hargs t)⟩).mono ?_
 ·rintro id hid ⟨i,h1,_⟩;have:=(List.getElem?_eq_some_iff.1 h1).1;omega
 rintro en w' ⟨x,v,e2,H',k',rfl,rfl,hI',hv,hD',hkk,hQ⟩;obtain ⟨⟨hk16,hL⟩,hKK⟩:=hK v H' k' hQ;have hO:∀ b,(∃ id,Af H0 id=true∧(e.sim H m z).ρ id=b)→∃ i ∈ m0,Af H i=true∧e.ρ i=b:=by
  rintro b ⟨id,h1,h2⟩;obtain ⟨i,k1,k2,_⟩:=CN hH id h1;exact ⟨i,h0 id i h1 k1,k2,by simpa [Env.sim,k1] using h2⟩
 have hsame:∀ b,b < e.w.heap.size→(∀ i ∈ m0,Af H i=true→e.ρ i ≠ b)→e2.w.heap[b]?=e.w.heap[b]?:=fun b hb hn =>
  hI'.ev.frame b hb (fun ho=>by obtain ⟨i,h1,h3,h2⟩:=hO b ho;exact hn i h1 h3 h2)
 have hsize:e.w.heap.size≤e2.w.heap.size:=hI'.ev.size
 let e' : Env := { ρ := fun i => if n ≤ i then e2.ρ (m.length + (i - n)) else e.ρ i
                   D:=fun i=>e.D i ∨ (n≤i∧e2.D (m.length + (i - n)))
                   im:=fun b=>if L then e.im b else e2.im b
                   w:=e2.w,φ:=e2.φ,τ:=e2.τ }
 have hφ:e2.φ=e.φ:=hI'.φ.trans hI.φ.symm;have hτ:e2.τ=e.τ:=hI'.τ.trans hI.τ.symm;have him2:∀ b,e.im b→e2.im b:=fun b hb=>hI'.keep b (.inl hb);have him':∀ b,e.im b→e'.im b:=fun b hb=>by
  show if L then _ else _;split
  ·exact hb
  ·exact him2 b hb
 have him2':∀ b,e'.im b→e2.im b:=fun b hb=>by
  have hb:if L then e.im b else e2.im b:=hb;split at hb
  ·exact him2 b hb
  ·exact hb
 have hρold:∀ i,e.D i→e'.ρ i=e.ρ i:=fun i hi=>by
  show (if n≤i then _ else _)=_;rw [if_neg (fun h=>hD i h hi)]
 have hle:e.le e':=by
  refine ⟨fun i hi=>⟨.inl hi,hρold i hi⟩,fun b hb=>⟨him' b hb,fun cc el fz hc=>⟨el,fz,?_⟩,fun es ck hc=>?_⟩,hI'.ev.bs,hφ,hτ⟩
  ·show e2.w.heap[b]?=_;rw [hsame b (hI.imlt b hb) (fun i hi hq he=>(hI.blk i hq).2.2.1 (he ▸ hb))];exact hc
  ·show e2.w.heap[b]?=_;rw [hsame b (hI.imlt b hb) (fun i hi hq he=>(hI.blk i hq).2.2.1 (he ▸ hb))];exact hc
 have hpush:Push L (Bo m n k') e2 e':=by
  refine ⟨fun j hj=>?_,fun hnl b hb=>?_,rfl,rfl,rfl⟩
  ·have hjk:j < k':=Nat.lt_of_not_le (fun h=>hD' j h hj);have hg:=NU (n:=n) hkk j hjk;by_cases hjm:j < m.length
   ·rw [dif_pos hjm] at hg;have hmj:e.D m[j]:=by
     obtain ⟨i,h1,h2⟩:=(hI'.low j hjm).1.1 hj;rw [List.getElem?_eq_getElem hjm,Option.some.injEq] at h1;exact h1 ▸ h2
    refine ⟨m[j],hg,.inl hmj,?_⟩;rw [hρold _ hmj];have:=(hI'.low j hjm).2 hj;rw [this];simp [Env.sim,List.getElem?_eq_getElem hjm]
   ·rw [dif_neg hjm] at hg;have e1:m.length + (n + (j - m.length) - n)=j:=Aa;refine ⟨_,hg,.inr ⟨by omega,by rw [e1];exact hj⟩,?_⟩;show (if _ then _ else _)=_;rw [if_pos Aa,e1]
  ·show if L then _ else _;rw [if_neg hnl];exact hb
 have hnd:(Bo m n k').Nodup:=JV hm hmn;have hnew:∀ b,(∃ id,Af H0 id=true∧(e.sim H m z).ρ id=b) ∨ (e.sim H m z).w.heap.size≤b→c.O b ∨ c.e0.w.heap.size≤b:=by
  rintro b (h | h)
  ·obtain ⟨i,h1,h3,rfl⟩:=hO b h;exact (hI.blk i h3).2.2.2
  ·have h:e.w.heap.size≤b:=h;have:=hI.ev.size;exact .inr Aa
 have hold:∀ id,Af (AH H (if L then m0 else m0 ++ z)) id=true→Af H id=true∧id ∉ m0∧(¬ L→id ∉ z)∧hget (AH H (if L then m0 else m0 ++ z)) id=hget H id:=by
  intro id hid;rw [GX] at hid;simp only [X5,List.contains_eq_mem,decide_eq_false_iff_not] at hid;refine ⟨hid.1,?_,?_,GP _ _ _ hid.2⟩
  ·intro h';apply hid.2;split
   ·exact h'
   ·exact List.mem_append_left _ h'
  ·intro hnl h';apply hid.2;rw [if_neg hnl];exact List.mem_append_right _ h'
 have hrenb:∀ id,Af (Bf (Bo m n k') H') id=true→∃ j,Af H' j=true∧e'.D id∧e'.ρ id=e2.ρ j∧(Bo m n k')[j]?=some id∧hget (Bf (Bo m n k') H') id=(hget H' j).ren (Bo m n k'):=by
  intro id hid;obtain ⟨j,h1,h2,h3⟩:=Hu hnd hid;obtain ⟨i,k1,k2,k3⟩:=hpush.D j (hI'.blk j h2).1;rw [h1] at k1;simp only [Option.some.injEq] at k1;subst k1;exact ⟨j,h2,k2,k3,h1,h3⟩
 refine ⟨x,v.ren (Bo m n k'),e',Bf (Bo m n k') H' ++ AH H (if L then m0 else m0 ++ z),rfl,rfl,hle,?_,R6 hpush (fun hl=>(hL hl).1) hv,?_,hKK⟩
 ·have hblk:∀ id,Af (Bf (Bo m n k') H' ++ AH H (if L then m0 else m0 ++ z)) id=true→(Af (Bf (Bo m n k') H') id=true∧hget (Bf (Bo m n k') H' ++ AH H (if L then m0 else m0 ++ z)) id=hget (Bf (Bo m n k') H') id) ∨ (Af (AH H (if L then m0 else m0 ++ z)) id=true∧hget (Bf (Bo m n k') H' ++ AH H (if L then m0 else m0 ++ z)) id=hget (AH H (if L then m0 else m0 ++ z)) id):=by
   intro id hid;rw [FK] at hid;cases hr':Af (Bf (Bo m n k') H') id with
   | true=>exact .inl ⟨rfl,Ey hr'⟩
   | false=>rw [hr',Bool.false_or] at hid;exact .inr ⟨hid,Eu hr'⟩
  have hsep:∀ i j,Af H i=true→i ∉ m0→Af H' j=true→e.ρ i ≠ e2.ρ j:=by
   intro i j hi him hj he;rcases (hI'.blk j hj).2.2.2 with h | h
   ·obtain ⟨i',h1,h3,h2⟩:=hO _ h;exact him (by rw [hI.inj i i' hi h3 (he.trans h2.symm)];exact h1)
   ·have h:e.w.heap.size≤e2.ρ j:=h;have:=hI.rb i (hI.blk i hi).1;omega
  refine ⟨?_,?_,?_,?_,?_,?_,fun b hb=>him' b (hI.keep b hb),?_,hI.gs.mono hle,hI'.φ,hI'.τ⟩
  ·exact hI.ev.trans hI'.ev (fun b hb=>by
    obtain ⟨i,h1,h3,rfl⟩:=hO b hb;rcases (hI.blk i h3).2.2.2 with h | h
    ·exact .inl h
    ·exact .inr h)
  ·intro id hid;rcases hblk id hid with ⟨h1,h2⟩ | ⟨h1,h2⟩
   ·obtain ⟨j,k1,k2,k3,k4,k5⟩:=hrenb id h1;obtain ⟨q1,q2,q3,q4⟩:=hI'.blk j k1;rw [h2,k5,k3];exact ⟨k2,Kh hpush k3 (fun hl=>(hL hl).2 j k1) q2,fun h=>q3 (him2' _ h),hnew _ q4⟩
   ·obtain ⟨k1,k2,k3,k4⟩:=hold id h1;obtain ⟨q1,q2,q3,q4⟩:=hI.blk id k1;have hne:∀ i ∈ m0,Af H i=true→e.ρ i ≠ e.ρ id:=fun i hi hq he=>k2 (by rw [← hI.inj i id hq k1 he];exact hi);rw [h2,k4,hρold id q1];refine ⟨.inl q1,D5 hle q1 (hsame _ (hI.rb id q1) hne) q2,?_,q4⟩;intro h;have h:if L then e.im (e.ρ id) else e2.im (e.ρ id):=h;split at h
    ·exact q3 h
    ·rename_i hnl;rcases hI'.imo _ h with h | h | h
     ·rcases h with h | ⟨i,hf,he⟩
      ·exact q3 h
      ·obtain ⟨f1,f2,_⟩:=Fc hf;rw [hI.inj id i k1 f2 he] at k3;exact k3 hnl f1
     ·obtain ⟨i,h1,h3,h2⟩:=hO _ h;exact hne i h1 h3 h2
     ·have h:e.w.heap.size≤e.ρ id:=h;have:=hI.rb id q1;omega
  ·intro i j hi hj hij;rcases hblk i hi with ⟨h1,_⟩ | ⟨h1,_⟩ <;> rcases hblk j hj with ⟨h2,_⟩ | ⟨h2,_⟩
   ·obtain ⟨a,a1,_,a3,a4,_⟩:=hrenb i h1;obtain ⟨b,b1,_,b3,b4,_⟩:=hrenb j h2;rw [a3,b3] at hij;have:=hI'.inj a b a1 b1 hij;subst this;rw [a4] at b4;simpa using b4
   ·obtain ⟨a,a1,_,a3,_⟩:=hrenb i h1;obtain ⟨b1,b2,_⟩:=hold j h2;rw [a3,hρold j (hI.blk j b1).1] at hij;exact absurd hij.symm (hsep j a b1 b2 a1)
   ·obtain ⟨a,a1,_,a3,_⟩:=hrenb j h2;obtain ⟨b1,b2,_⟩:=hold i h1;rw [a3,hρold i (hI.blk i b1).1] at hij;exact absurd hij (hsep i a b1 b2 a1)
   ·obtain ⟨b1,_⟩:=hold i h1;obtain ⟨b2,_⟩:=hold j h2;rw [hρold i (hI.blk i b1).1,hρold j (hI.blk j b2).1] at hij;exact hI.inj i j b1 b2 hij
  ·intro b hb;have hb:if L then e.im b else e2.im b:=hb;split at hb
   ·exact hI.imo b hb
   ·rcases hI'.imo b hb with h | h | h
    ·rcases h with h | ⟨i,hf,rfl⟩
     ·exact hI.imo b h
     ·exact .inr (hI.blk i (Fc hf).2.1).2.2.2
    ·exact .inr (hnew b (.inl h))
    ·exact .inr (hnew b (.inr h))
  ·intro b hb;exact hI'.imb b (him2' b hb)
  ·intro id hid;rcases hid with hid | ⟨h1,h2⟩
   ·rw [hρold id hid];have:=hI.rb id hid;show e.ρ id < e2.w.heap.size;omega
   ·show (if n≤id then _ else _) < _;rw [if_pos h1];exact hI'.rb _ h2
  ·intro id hid;obtain ⟨h1,h2⟩:=hI.low id hid;have hres:∀ {p:Prop},(e.D id ∨ (n≤id∧p))→e.D id:=fun h=>h.resolve_right (fun h=>by have:=h.1;have:id < c.k:=hid;omega);exact ⟨⟨fun h=>h1.1 (hres h),fun h=>.inl (h1.2 h)⟩,fun hd=>(hρold id (hres hd)).trans (h2 (hres hd))⟩
 ·rintro id (h | ⟨h1,h2⟩)
  ·exact .inl h
  ·refine .inr ⟨h1,?_⟩;have:=Nat.lt_of_not_le (fun h=>hD' _ h h2);omega
theorem J0 {f:Nat} {us:List V} {H:Hp} {n:Nat} {K:V→Hp→Prop} {us0:List V} {H0:Hp} {k:Nat} {Q:V→Hp→Nat→Prop} (hr:As M f us0 H0 k Q) (L:Prop) [Decidable L] (m m0 z:List Nat) (h0:∀ id i,Af H0 id=true→m[id]?=some i→i ∈ m0) (h0m:∀ i ∈ m0,i ∈ m)
 (hm:m.Nodup) (hz:∀ i ∈ z,i ∉ m) (hk:m.length=k) (hall0:∀ i ∈ m0,Af H i=true) (hall:∀ i ∈ m,Af H i=true ∨ DV us i=true ∨ Qq m0 H i=true) (hus:Bh H m z us0 us) (hH:B3 H m z H0)
 (hK:∀ v H' k',Q v H' k'→(k'≤k + 16∧(L→AG v∧Oy H'))∧K (v.ren (Bo m n k')) (Bf (Bo m n k') H' ++ AH H (if L then m0 else m0 ++ z))):Bk M f us H n K:=by
 intro c e vs hI hD hcn ha;have hmD:∀ i ∈ m,e.D i:=fun i hi=>(hall i hi).elim (fun h=>(hI.blk i h).1) (fun h=>h.elim (VR ha) (Ai7 hI));exact GY hr L m m0 z h0 h0m hm hz hk (fun i hi=>Nat.lt_of_not_le (fun h=>hD i h (hmD i hi))) hus hH hK c e vs hI hD hcn ha
theorem Re {f:Nat} {us:List V} {H:Hp} {n:Nat} {K:V→Hp→Prop} {us0:List V} {H0:Hp} {k:Nat} {Q:V→Hp→Nat→Prop} (hr:As M f us0 H0 k Q) (L:Prop) [Decidable L] (m m0 z:List Nat) (h0:∀ id i,Af H0 id=true→m[id]?=some i→i ∈ m0) (h0m:∀ i ∈ m0,i ∈ m)
 (hm:m.Nodup) (hz:∀ i ∈ z,i ∉ m) (hk:m.length=k) (hall0:∀ i ∈ m0,Af H i=true) (hall:∀ i ∈ m,Af H i=true ∨ DV us i=true) (hus:Bh H m z us0 us) (hH:B3 H m z H0)
 (hK:∀ v H' k',Q v H' k'→(k'≤k + 16∧(L→AG v∧Oy H'))∧K (v.ren (Bo m n k')) (Bf (Bo m n k') H' ++ AH H (if L then m0 else m0 ++ z))):Bk M f us H n K :=
 J0 hr L m m0 z h0 h0m hm hz hk hall0 (fun i hi=>(hall i hi).imp_right .inl) hus hH hK
end Mv
namespace Mv
open Go
variable {M:Seat}
def ids:Hp→List Nat
 | []=>[]
 | (i,_) :: r=>i :: ids r
def CV:Hp→List Nat→List Nat
 | [],_=>[]
 | (i,_) :: r,m=>if m.contains i then CV r m else i :: CV r m
theorem HC (m:List Nat):∀ (H:Hp),∀ i ∈ CV H m,i ∉ m
 | [],_,h=>by cases h
 | (j, _) :: r, i, h => by
   simp only [CV] at h;split at h
   ·exact HC m r i h
   ·rename_i hj;rcases List.mem_cons.1 h with rfl | h
    ·intro hm;exact hj (by simpa [List.contains_iff_mem] using hm)
    ·exact HC m r i h
theorem Jv (j:Nat):∀ H:Hp,(ids H).contains j=Af H j
 | []=>rfl
 | (i, _) :: r => by
   simp only [ids,Af,List.contains_cons,Jv j r];rw [Bool.beq_comm]
theorem Aqc (H:Hp) (i:Nat):TG H (ids H) i=(Af H i && (hget H i).solid):=by
 simp only [TG,Jv,Bool.and_self]
theorem Km (m:List Nat) (j:Nat):∀ H:Hp,(CV H m).contains j=(Af H j && !m.contains j)
 | []=>by simp [CV,Af]
 | (i, _) :: r => by
   simp only [CV];by_cases h:m.contains i=true
   ·rw [if_pos h,Km m j r];simp only [Af];by_cases hij:i=j
    ·subst hij;rw [h];simp
    ·have:(i == j)=false:=by simpa using hij
     rw [this,Bool.false_or]
   ·rw [if_neg h];simp only [List.contains_cons,Km m j r,Af];by_cases hij:i=j
    ·subst hij;rw [show m.contains i=false by simpa using h];simp
    ·have h1:(i == j)=false:=by simpa using hij
     have h2:(j == i)=false:=by simp;exact fun h=>hij h.symm
     rw [h1,h2];simp
theorem Aqk (H:Hp) (m:List Nat) (i:Nat):TG H (CV H m) i=((Af H i && !m.contains i) && (hget H i).solid):=by
 simp only [TG,Km];cases Af H i <;> simp
def AM:List Nat→Nat→Nat→List Nat
 | [],_,0=>[]
 | [],n,k + 1=>n :: AM [] (n + 1) k
 | _ :: _,_,0=>[]
 | a :: m,n,k + 1=>a :: AM m n k
theorem Of:∀ (k n:Nat),(List.range k).map (fun i=>n + i)=AM [] n k
 | 0,_=>rfl
 | k + 1, n => by
   rw [List.range_succ_eq_map,List.map_cons,List.map_map,AM,← Of k (n + 1)];simp only [Nat.add_zero,List.cons.injEq,true_and];apply List.map_congr_left;intro i _;simp only [Function.comp];omega
theorem GQ:∀ (m:List Nat) (n k:Nat),m.length≤k→Bo m n k=AM m n k
 | [],n,k,_=>by simp only [Bo,List.length_nil,Nat.sub_zero,List.nil_append];exact Of k n
 | a :: m,n,0,h=>by simp at h
 | a :: m, n, k + 1, h => by
   rw [AM,← GQ m n k V0];simp only [Bo,List.length_cons,List.cons_append,Nat.add_sub_add_right]
def Cw:Hp→Prop
 | []=>True
 | (_,v) :: r=>AG v∧Cw r
theorem Cw.H:∀ {H:Hp},Cw H→Oy H
 | [],_,id,h=>by simp [Af] at h
 | (i, v) :: r, hn, id, h => by
   simp only [Cw] at hn;simp only [hget];split
   ·exact hn.1
   ·rename_i hi;exact Cw.H hn.2 id (by simpa [Af,hi] using h)
theorem HD {f:Nat} {us us0:List V} {H:Hp} {n:Nat} {K:V→Hp→Prop} {v:V} (hr:As M f us0 [] 0 (Q3 v [] 0)) (hus:Bh H [] (ids H) us0 us) (hv:v.ren (Bo [] n 0)=v) (hn:AG v) (hK:K v H):Bk M f us H n K :=
 QT (ids H) hr hus hv hn hK
theorem Sf {f:Nat} {us us0:List V} {H H0 Hn:Hp} {n k kn:Nat} {K:V→Hp→Prop} {v:V} (m:List Nat) (hr:As M f us0 H0 k (Q3 v Hn kn))
 (hm:(decide m.Nodup && decide (m.length=k) && decide (k≤kn) && decide (kn≤k + 16))=true) (hall:(m.all fun i=>Af H i)=true) (hus:Bh H m (CV H m) us0 us) (hH:B3 H m (CV H m) H0) (hv:AG v) (hn:Cw Hn)
 (hK:K (v.ren (AM m n kn)) (Bf (AM m n kn) Hn ++ AH H m)):Bk M f us H n K:=by
 simp only [Bool.and_eq_true,decide_eq_true_eq] at hm;obtain ⟨⟨⟨h1,h2⟩,h3⟩,h4⟩:=hm;refine EE hr True m (CV H m) h1 (HC m H) h2 (by simpa using hall) hus hH ?_;rintro v' H' k' ⟨rfl,rfl,rfl⟩;refine ⟨⟨h4,fun _=>⟨hv,hn.H⟩⟩,?_⟩;rw [GQ m n k' Aa,if_pos trivial];exact hK
theorem Si {f:Nat} {us us0:List V} {H Hn:Hp} {n kn:Nat} {K:V→Hp→Prop} {v:V} (hr:As M f us0 [] 0 (Q3 v Hn kn))
 (hk:decide (kn≤16)=true) (hus:Bh H [] (ids H) us0 us) (hv:AG v) (hn:Cw Hn)
 (hK:K (v.ren (AM [] n kn)) (Bf (AM [] n kn) Hn ++ H)):Bk M f us H n K:=by
 refine EE hr True [] (ids H) List.nodup_nil BF rfl BF hus trivial ?_;rintro v' H' k' ⟨rfl,rfl,rfl⟩;refine ⟨⟨by have:=of_decide_eq_true hk;omega,fun _=>⟨hv,hn.H⟩⟩,?_⟩;rw [GQ [] n k' BF,if_pos trivial];exact hK
theorem Adh {f:Nat} {us us0:List V} {H H0 Hn:Hp} {n k kn:Nat} {K:V→Hp→Prop} {v:V} (m m0:List Nat) (hr:As M f us0 H0 k (Q3 v Hn kn))
 (h0:((ids H0).all fun id=>match m[id]? with | some i=>m0.contains i | none=>true)=true) (h0m:(m0.all fun i=>m.contains i)=true)
 (hm:(decide m.Nodup && decide (m.length=k) && decide (k≤kn) && decide (kn≤k + 16))=true) (hall:(m.all fun i=>Af H i || DV us i)=true) (hall0:(m0.all fun i=>Af H i)=true) (hus:Bh H m (CV H m) us0 us) (hH:B3 H m (CV H m) H0) (hv:AG v) (hn:Cw Hn)
 (hK:K (v.ren (AM m n kn)) (Bf (AM m n kn) Hn ++ AH H m0)):Bk M f us H n K:=by
 simp only [Bool.and_eq_true,decide_eq_true_eq] at hm;obtain ⟨⟨⟨h1,h2⟩,h3⟩,h4⟩:=hm;refine Re hr True m m0 (CV H m) (fun id i hid hi=>?_) (fun i hi=>?_) h1 (HC m H) h2 (by simpa using hall0) (by simpa using hall) hus hH ?_
 ·rw [List.all_eq_true] at h0;have hmem:id ∈ ids H0:=by
   have:=Jv id H0;rw [hid] at this;simpa [List.contains_iff_mem] using this
  have:=h0 id hmem;rw [hi] at this;simpa using this
 ·rw [List.all_eq_true] at h0m;simpa using h0m i hi
 ·rintro v' H' k' ⟨rfl,rfl,rfl⟩;refine ⟨⟨h4,fun _=>⟨hv,hn.H⟩⟩,?_⟩;rw [GQ m n k' Aa,if_pos trivial];exact hK
theorem SP {f:Nat} {us us0:List V} {H H0 Hn:Hp} {n k kn:Nat} {K:V→Hp→Prop} {v:V} (m m0:List Nat) (hr:As M f us0 H0 k (Q3 v Hn kn))
 (h0:((ids H0).all fun id=>match m[id]? with | some i=>m0.contains i | none=>true)=true) (h0m:(m0.all fun i=>m.contains i)=true)
 (hm:(decide m.Nodup && decide (m.length=k) && decide (k≤kn) && decide (kn≤k + 16))=true) (hall:(m.all fun i=>Af H i || (Qq m0 H i || DV us i))=true) (hall0:(m0.all fun i=>Af H i)=true) (hus:Bh H m [] us0 us) (hH:B3 H m [] H0)
 (hK:K (v.ren (AM m n kn)) (Bf (AM m n kn) Hn ++ AH H m0)):Bk M f us H n K:=by
 simp only [Bool.and_eq_true,decide_eq_true_eq] at hm;obtain ⟨⟨⟨h1,h2⟩,h3⟩,h4⟩:=hm
 refine J0 hr False m m0 [] (fun id i hid hi=>?_) (fun i hi=>?_) h1 BF h2 (by simpa using hall0) (fun i hi=>by
  have:=List.all_eq_true.1 hall i hi;simp only [Bool.or_eq_true] at this
  exact this.elim .inl (fun h=>.inr h.symm)) hus hH ?_
 ·rw [List.all_eq_true] at h0;have hmem:id ∈ ids H0:=by
   have:=Jv id H0;rw [hid] at this;simpa [List.contains_iff_mem] using this
  have:=h0 id hmem;rw [hi] at this;simpa using this
 ·rw [List.all_eq_true] at h0m;simpa using h0m i hi
 ·rintro v' H' k' ⟨rfl,rfl,rfl⟩;refine ⟨⟨h4,fun h=>h.elim⟩,?_⟩;rw [GQ m n k' Aa,if_neg id,List.append_nil];exact hK
theorem WE {f:Nat} {us us0:List V} {H:Hp} {n:Nat} {C:V→Hp→Prop} {v:V} (hr:As M f us0 [] 0 (Q3 v [] 0)) (hus:Bh H [] (ids H) us0 us) (hv:v.ren (Bo [] n 0)=v) (hn:AG v) (hC:C v H):IR M f us H n C :=
 ⟨v,H,HD hr hus hv hn ⟨rfl,rfl⟩,hC⟩
theorem Agp {f:Nat} {us us0:List V} {H Hn:Hp} {n kn:Nat} {C:V→Hp→Prop} {v:V} (hr:As M f us0 [] 0 (Q3 v Hn kn))
 (hk:decide (kn≤16)=true) (hus:Bh H [] (ids H) us0 us) (hv:AG v) (hn:Cw Hn)
 (hC:C (v.ren (AM [] n kn)) (Bf (AM [] n kn) Hn ++ H)):IR M f us H n C :=
 ⟨_,_,Si hr hk hus hv hn ⟨rfl,rfl⟩,hC⟩
theorem Air {f:Nat} {us us0:List V} {H H0 Hn:Hp} {n k kn:Nat} {C:V→Hp→Prop} {v:V} (m:List Nat) (hr:As M f us0 H0 k (Q3 v Hn kn))
 (hm:(decide m.Nodup && decide (m.length=k) && decide (k≤kn) && decide (kn≤k + 16))=true) (hall:(m.all fun i=>Af H i)=true) (hus:Bh H m (CV H m) us0 us) (hH:B3 H m (CV H m) H0) (hv:AG v) (hn:Cw Hn)
 (hC:C (v.ren (AM m n kn)) (Bf (AM m n kn) Hn ++ AH H m)):IR M f us H n C :=
 ⟨_,_,Sf m hr hm hall hus hH hv hn ⟨rfl,rfl⟩,hC⟩
theorem Awv {f:Nat} {us us0:List V} {H H0 Hn:Hp} {n k kn:Nat} {C:V→Hp→Prop} {v:V} (m m0:List Nat) (hr:As M f us0 H0 k (Q3 v Hn kn))
 (h0:((ids H0).all fun id=>match m[id]? with | some i=>m0.contains i | none=>true)=true) (h0m:(m0.all fun i=>m.contains i)=true)
 (hm:(decide m.Nodup && decide (m.length=k) && decide (k≤kn) && decide (kn≤k + 16))=true) (hall:(m.all fun i=>Af H i || (Qq m0 H i || DV us i))=true) (hall0:(m0.all fun i=>Af H i)=true) (hus:Bh H m [] us0 us) (hH:B3 H m [] H0)
 (hC:C (v.ren (AM m n kn)) (Bf (AM m n kn) Hn ++ AH H m0)):IR M f us H n C :=
 ⟨_,_,SP m m0 hr h0 h0m hm hall hall0 hus hH ⟨rfl,rfl⟩,hC⟩
def KK (v:V) (i:Nat) (r:V):V:=match v with | .junk=>r | v=>.fcons i v r
def HT (v:V):Prop:=match v with | .junk=>True | v=>v.solid=true
theorem Ape (A:List V) (H:Hp) (r:RVr) (rs:List RVr) (i:Nat):KI A H (r :: rs) i=KK (Ez A H r) i (KI A H rs (i + 1)):=by
 simp only [KI,KK];split <;> simp_all
theorem Al4 (A:List V) (H:Hp) (i:Nat):KI A H [] i = .fnil:=rfl
theorem Anw (A:List V) (H:Hp) (r:RVr) (rs:List RVr):Lk A H (r :: rs)=(HT (Ez A H r)∧Lk A H rs):=by
 simp only [Lk,HT];split <;> simp_all
theorem Apf (A:List V) (H:Hp):Lk A H []=True:=rfl
theorem Afh (k:IntKind) (n:Int) (ix:Nat) (r:V):KK (.int k n) ix r = .fcons ix (.int k n) r:=rfl
theorem Abt (k:IntKind) (n:Int):HT (.int k n)=True:=FP
theorem Xl (b:Bool) (ix:Nat) (r:V):KK (.bool b) ix r = .fcons ix (.bool b) r:=rfl
theorem XJ (b:Bool):HT (.bool b)=True:=FP
theorem Abd (s:ByteArray) (ix:Nat) (r:V):KK (.str s) ix r = .fcons ix (.str s) r:=rfl
theorem Aad (s:ByteArray):HT (.str s)=True:=FP
theorem Zk  (ix:Nat) (r:V):KK (.nilp) ix r = .fcons ix (.nilp) r:=rfl
theorem X9 :HT (.nilp)=True:=FP
theorem Abx (i:Nat) (p:List Stp) (ix:Nat) (r:V):KK (.ptr i p) ix r = .fcons ix (.ptr i p) r:=rfl
theorem Aa0 (i:Nat) (p:List Stp):HT (.ptr i p)=True:=FP
theorem Zj  (ix:Nat) (r:V):KK (.nils) ix r = .fcons ix (.nils) r:=rfl
theorem YY :HT (.nils)=True:=FP
theorem Ak0 (i:Nat) (p:List Stp) (o n sz:Nat) (ix:Nat) (r:V):KK (.sl i p o n sz) ix r = .fcons ix (.sl i p o n sz) r:=rfl
theorem Agz (i:Nat) (p:List Stp) (o n sz:Nat):HT (.sl i p o n sz)=True:=FP
theorem Ae7 (sz n:Nat) (f:Nat→V) (ix:Nat) (r:V):KK (.lst sz n f) ix r = .fcons ix (.lst sz n f) r:=rfl
theorem Abe (sz n:Nat) (f:Nat→V):HT (.lst sz n f)=True:=FP
theorem Z0  (ix:Nat) (r:V):KK (.nili) ix r = .fcons ix (.nili) r:=rfl
theorem Zn :HT (.nili)=True:=FP
theorem Afc (t:Nat) (v:V) (ix:Nat) (r:V):KK (.ifc t v) ix r = .fcons ix (.ifc t v) r:=rfl
theorem Adf (t:Nat) (v:V):HT (.ifc t v)=True:=FP
theorem Ai8 (n:Nat) (v:V) (ix:Nat) (r:V):KK (.st n v) ix r = .fcons ix (.st n v) r:=rfl
theorem Akr (n:Nat) (v:V):HT (.st n v)=True:=FP
theorem Akn (sz n:Nat) (f:Nat→V) (ix:Nat) (r:V):KK (.ar sz n f) ix r = .fcons ix (.ar sz n f) r:=rfl
theorem Akj (sz n:Nat) (f:Nat→V):HT (.ar sz n f)=True:=FP
theorem Aeo (v:V) (ix:Nat) (r:V):KK (.imm v) ix r = .fcons ix (.imm v) r:=rfl
theorem Ae6 (v:V):HT (.imm v)=True:=FP
theorem Aai (i:Nat) (ix:Nat) (r:V):KK (.map i) ix r = .fcons ix (.map i) r:=rfl
theorem Acf (i:Nat):HT (.map i)=True:=FP
theorem YF  (ix:Nat) (r:V):KK (.nilm) ix r = .fcons ix (.nilm) r:=rfl
theorem YZ :HT (.nilm)=True:=FP
theorem Aki (f:Nat) (c:V) (ix:Nat) (r:V):KK (.fn f c) ix r = .fcons ix (.fn f c) r:=rfl
theorem Ajo (f:Nat) (c:V):HT (.fn f c)=True:=FP
theorem Xn  (ix:Nat) (r:V):KK (.nilf) ix r = .fcons ix (.nilf) r:=rfl
theorem Y6 :HT (.nilf)=True:=FP
theorem Aor (w:BitVec 64) (ix:Nat) (r:V):KK (W w) ix r = .fcons ix (W w) r:=rfl
theorem Amn (w:BitVec 64):HT (W w)=True:=by simp [HT,V.solid,W]
theorem Amy (w:BitVec 8) (ix:Nat) (r:V):KK (B w) ix r = .fcons ix (B w) r:=rfl
theorem Ank (w:BitVec 8):HT (B w)=True:=by simp [HT,V.solid,B]
theorem Ag9 (d:Dg) (ix:Nat) (r:V):KK (dg d) ix r = .fcons ix (dg d) r:=rfl
theorem Alk (d:Dg):HT (dg d)=True:=by simp [HT,V.solid,dg]
def LTP:=(Jr (Ik @Ape @Al4 @Anw @Apf @Afh @Abt @Xl @XJ @Abd @Aad @Zk @X9 @Abx @Aa0) (Dm @Zj @YY @Ak0 @Agz @Ae7 @Abe @Z0 @Zn @Afc @Adf @Ai8 @Akr @Akn @Akj @Aeo) (Dm @Ae6 @Aai @Acf @YF @YZ @Aki @Ajo @Xn @Y6 @Aor @Amn @Amy @Ank @Ag9 @Alk))
theorem P9 (w:BitVec 64):AG (W w)=True:=rfl
theorem Ai6 (w:BitVec 8):AG (B w)=True:=rfl
theorem Pc (d:Dg):AG (dg d)=True:=eq_true (by simp only [AG,dg,B,implies_true])
end Mv
