/- A part. -/
import Derived.Test.YtgeionenpaopaaaGreatDoorAM
set_option linter.all false
namespace Mv
open Go
variable {M:Seat}
def Bh (H:Hp) (m z:List Nat):List V→List V→Prop
 | [],[]=>True
 | v :: r,u :: r'=>B5 H m z v u∧Bh H m z r r'
 | _,_=>False
def B3 (H:Hp) (m z:List Nat):Hp→Prop
 | []=>True
 | (j,v) :: r=>(match m[j]? with | some i=>Af H i=true∧Aw H m z v (hget H i) | none=>False)∧B3 H m z r
theorem Hm {H:Hp} {m z:List Nat}:∀ {A B:List V},Bh H m z A B→A.length=B.length
 | [],[],_=>rfl
 | _ :: r,_ :: r',h=>by simp only [Bh] at h;simp [Hm h.2]
 | [],_ :: _,h=>by simp [Bh] at h
 | _ :: _,[],h=>by simp [Bh] at h
theorem HN {H:Hp} {m z:List Nat}:∀ {A B:List V},Bh H m z A B→∀ t,B5 H m z (A.getD t .junk) (B.getD t .junk)
 | [],[],_,t=>by simp [B5]
 | _ :: r, _ :: r', h, t => by
   simp only [Bh] at h;cases t with
   | zero=>simpa using h.1
   | succ t=>simpa using HN h.2 t
 | [],_ :: _,h,_=>by simp [Bh] at h
 | _ :: _,[],h,_=>by simp [Bh] at h
theorem CN {H:Hp} {m z:List Nat}:∀ {H':Hp},B3 H m z H'→∀ j,Af H' j=true→∃ i,m[j]?=some i∧Af H i=true∧Aw H m z (hget H' j) (hget H i)
 | [],_,j,hj=>by simp [Af] at hj
 | (k, v) :: r, h, j, hj => by
   simp only [B3] at h;by_cases hkj:k=j
   ·subst hkj;obtain ⟨h1,_⟩:=h;split at h1
    ·rename_i i hi;exact ⟨i,hi,h1.1,by simpa [hget] using h1.2⟩
    ·exact h1.elim
   ·have hj':Af r j=true:=by
     simp only [V1,beq_iff_eq] at hj;exact hj.resolve_left hkj
    obtain ⟨i,h1,h2,h3⟩:=CN h.2 j hj';exact ⟨i,h1,h2,by simpa [hget,hkj] using h3⟩
def Env.sim (e:Env) (H:Hp) (m z:List Nat):Env :=
 { ρ := fun j => match m[j]? with | some i => e.ρ i | none => 0
   D:=fun j=>∃ i,m[j]?=some i∧e.D i
   im:=fun b=>e.im b ∨ ∃ i,TW H z i=true∧b=e.ρ i
   w:=e.w,φ:=e.φ,τ:=e.τ }
theorem Ae4 {H:Hp} {z:List Nat} {i:Nat} (h:TG H z i=true):i ∈ z∧Af H i=true∧(hget H i).solid=true:=by
 simp only [TG,Bool.and_eq_true,List.contains_iff_mem] at h;exact ⟨h.1.1,h.1.2,h.2⟩
theorem Fc {H:Hp} {z:List Nat} {i:Nat} (h:TW H z i=true):i ∈ z∧Af H i=true∧True:=by
 simp only [TW,TG,Tu,Bool.or_eq_true,Bool.and_eq_true,List.contains_iff_mem] at h;rcases h with h | h
 ·exact ⟨h.1.1,h.1.2,trivial⟩
 ·exact ⟨h.1.1,h.1.2,trivial⟩
theorem Sh {H:Hp} {z:List Nat} {i:Nat} (h:Tu H z i=true):∃ n ks vs,hget H i = .mp n ks vs:=by
 simp only [Tu,Bool.and_eq_true] at h;cases hg:hget H i with
 | mp n ks vs=>exact ⟨n,ks,vs,rfl⟩
 | _=>rw [hg] at h;exact absurd h.2 (by simp [V.isMp])
theorem Pull.of {c:Ctx} {e:Env} {H:Hp} (hI:Inv M c e H) (m z:List Nat):Pull H m z e (e.sim H m z) where
 D j i hj hd:=⟨⟨i,hj,hd⟩,by simp [Env.sim,hj]⟩
 im b hb:=.inl hb
 fz i hi:=by
  obtain ⟨_,h1,h2⟩:=Ae4 hi;obtain ⟨cells,el,h3,h4,h5⟩:=hI.cells h1 h2;exact ⟨.inr ⟨i,by simp [TW,hi],rfl⟩,cells,el,h3,h4,h5⟩
 fm i hi:=by
  have hi':TW H z i=true:=by simp [TW,hi]
  obtain ⟨_,h1,_⟩:=Fc hi';exact ⟨.inr ⟨i,hi',rfl⟩,(hI.blk i h1).2.1⟩
 w:=rfl
 φ:=rfl
 τ:=rfl
theorem SW (H:Hp) (m z:List Nat):∀ g,Aw H m z (U8 g) (U8 g)
 | 0=>rfl
 | 1=>⟨⟨rfl,rfl⟩,fun _ _=>rfl⟩
 | 2=>⟨⟨rfl,rfl⟩,fun _ _=>rfl⟩
 | 3=>⟨⟨rfl,rfl⟩,fun _ _=>rfl⟩
 | _ + 4=>rfl
theorem Ty {H:Hp} {m z:List Nat} {v:V} (h:Aw H m z v (.bool true)):v = .bool true:=by
 cases v <;> simp_all [Aw]
theorem Lu {H:Hp} {m z:List Nat} {e e2:Env} (hp:Pull H m z e e2) {i j:Nat} (hρ:e2.ρ j=e.ρ i) {v u:V} (hs:Aw H m z v u) (h:C2 e i u):C2 e2 j v:=by
 cases v;case mp n ks vs =>
  cases u <;> simp only [Aw] at hs;obtain ⟨rfl,hs⟩:=hs;obtain ⟨es,clock,h1,h2,hw,h3⟩:=h;refine ⟨es,clock,by rw [hρ,hp.w];exact h1,h2,hw,fun i x hx=>?_⟩;have hi:i < es.size:=(Array.getElem?_eq_some_iff.1 hx).1;obtain ⟨k1,k2⟩:=hs i Aa;obtain ⟨⟨q1,q2⟩,q3,q4⟩:=h3 i x hx;exact ⟨⟨by rw [B0 k1];exact q1,Nr hp k1 q2⟩,by rw [B0 k2];exact q3,Nr hp k2 q4⟩
 case tup fs =>
  cases u <;> simp only [Aw] at hs;rename_i fs';cases fs';case fm=>cases fs <;> first | (simp [Aw] at hs;done) | trivial
  case map k =>
   cases fs <;> first | (simp [Aw] at hs;done) | skip
   case fm=>trivial
   simp only [Aw] at hs;obtain ⟨hk,since,seen,last,h1⟩:=h;obtain ⟨a1,a2⟩:=hp.D _ _ hs hk;exact ⟨a1,since,seen,last,by rw [hρ,hp.w,a2];exact h1⟩
  case fcons o u1 u2 =>
   cases u1 <;> try exact absurd (show false=true from h.1) Ab
   cases u2 <;> try exact absurd (show false=true from h.1) Ab
   cases fs <;> first | (simp [Aw] at hs;done) | skip
   simp only [Aw] at hs;obtain ⟨rfl,hs1,hs2⟩:=hs;rename_i v1 v2;cases v1 <;> first | (simp [Aw] at hs1;done) | skip
   cases v2 <;> first | (simp [Aw] at hs2;done) | skip
   obtain ⟨r,since,seen,last,es,clock,g1,g2,g3,g7,g4,g5,g6,g8⟩:=h;have g2':=BN hp hs1 g2;simp only [Aw] at hs2;obtain ⟨⟨rfl,rfl⟩,hs3⟩:=hs2;refine ⟨r,since,seen,last,es,clock,by rw [hρ,hp.w];exact g1,g2',by rw [hp.w];exact g3,g7,g4,g5,fun i x hx=>?_,g8⟩;have hi:i < es.size:=(Array.getElem?_eq_some_iff.1 hx).1;have hsi:=hs3 i Aa;rw [g6 i x hx];constructor
   ·intro hb;rw [hb] at hsi;exact Ty hsi
   ·intro hb;rw [hb] at hsi;simpa [Aw] using hsi
  all_goals exact absurd (show false=true from h.1) Ab
 all_goals
  have hsol:=B0 hs;have hsz:=DM hs;have hu:u.solid=true:=by
   cases u;case mp=>simp [Aw] at hs
   case tup=>simp [Aw] at hs
   all_goals exact h.1
  obtain ⟨cells,el,h1,h2,h3⟩:=(Cn hu).1 h;refine (Cn (by rw [hsol];exact hu)).2 ⟨cells,el,by rw [hρ,hp.w];exact h1,by rw [hsz];exact h2,?_⟩;rw [hsz];exact BN hp hs h3
theorem getElem?_nodup {m:List Nat} (hm:m.Nodup) {i j a:Nat} (hi:m[i]?=some a) (hj:m[j]?=some a):i=j:=by
 obtain ⟨h1,h2⟩:=List.getElem?_eq_some_iff.1 hi;obtain ⟨h3,h4⟩:=List.getElem?_eq_some_iff.1 hj;have e1:=hm.idxOf_getElem i h1;have e2:=hm.idxOf_getElem j h3;rw [h2] at e1;rw [h4] at e2;exact e1.symm.trans e2
def IV (m:List Nat) (H:Hp):Prop:=∀ i j a,Af H i=true→Af H j=true→m[i]?=some a→m[j]?=some a→i=j
theorem IV.of {m:List Nat} (hm:m.Nodup) (H:Hp):IV m H:=fun _ _ _ _ _ h1 h2=>getElem?_nodup hm h1 h2
def V5 (H:Hp) (L:List Nat):Prop:=∀ i,Af H i=true→i ∈ L
theorem Ad3 (L:List Nat):V5 [] L=True:=eq_true fun i h=>by simp [Af] at h
theorem NM (i:Nat) (v:V) (r:Hp) (L:List Nat):V5 ((i,v) :: r) L=(i ∈ L∧V5 r L):=propext
 ⟨fun h=>⟨h i (by simp [Af]),fun j hj=>h j (by simp [Af,hj])⟩,fun h j hj=>by
  simp only [V1,beq_iff_eq] at hj;rcases hj with rfl | hj
  ·exact h.1
  ·exact h.2 j hj⟩
theorem IV.at {m:List Nat} {H:Hp} (L:List Nat) (hL:V5 H L) (hm:(L.all fun i=>L.all fun j=>i == j || m[i]? != m[j]?)=true):IV m H:=fun i j a hi hj h1 h2=>by
 simp only [List.all_eq_true,Bool.or_eq_true,beq_iff_eq,bne_iff_ne] at hm;rcases hm i (hL i hi) j (hL j hj) with h | h
 ·exact h
 ·exact absurd (h1.trans h2.symm) h
theorem Inv.sim {c c':Ctx} {e:Env} {H:Hp} (hI:Inv M c e H) {m z:List Nat} {H':Hp} (hm:IV m H') (hz:∀ i ∈ z,i ∉ m) (hH:B3 H m z H')
 (hc:(c'=c∧∀ j,j < c.k→m[j]?=some j) ∨ (c'=⟨e.sim H m z,fun b=>∃ id,Af H' id=true∧(e.sim H m z).ρ id=b,m.length⟩∧∀ i ∈ m,Af H i=true)):Inv M c' (e.sim H m z) H':=by
 have hp:=Pull.of hI m z;have hblk:∀ j,Af H' j=true→(e.sim H m z).D j∧C2 (e.sim H m z) j (hget H' j)∧¬ (e.sim H m z).im ((e.sim H m z).ρ j)∧(c.O ((e.sim H m z).ρ j) ∨ c.e0.w.heap.size≤(e.sim H m z).ρ j):=by
  intro j hj;obtain ⟨i,h1,h2,h3⟩:=CN hH j hj;obtain ⟨k1,k2,k3,k4⟩:=hI.blk i h2;have hρ:(e.sim H m z).ρ j=e.ρ i:=by simp [Env.sim,h1]
  refine ⟨⟨i,h1,k1⟩,Lu hp hρ h3 k2,?_,?_⟩
  ·rw [hρ];rintro (h | ⟨i',hf,he⟩)
   ·exact k3 h
   ·obtain ⟨f1,f2,_⟩:=Fc hf;have:=hI.inj i i' h2 f2 he;subst this;exact hz _ f1 (List.mem_of_getElem? h1)
  ·rw [hρ];exact k4
 have hinj:∀ i j,Af H' i=true→Af H' j=true→(e.sim H m z).ρ i=(e.sim H m z).ρ j→i=j:=by
  intro i j hi hj hij;obtain ⟨i',h1,h2,_⟩:=CN hH i hi;obtain ⟨j',h3,h4,_⟩:=CN hH j hj;simp only [Env.sim,h1,h3] at hij;have:=hI.inj i' j' h2 h4 hij;subst this;exact hm i j i' hi hj h1 h3
 have himo:∀ b,(e.sim H m z).im b→c.e0.im b ∨ c.O b ∨ c.e0.w.heap.size≤b:=by
  rintro b (h | ⟨i,hf,rfl⟩)
  ·exact hI.imo b h
  ·exact .inr (hI.blk i (Fc hf).2.1).2.2.2
 have himb:∀ b,(e.sim H m z).im b→(∃ cells el fz,(e.sim H m z).w.heap[b]?=some (.cells cells el fz)) ∨ ∃ es ck,(e.sim H m z).w.heap[b]?=some (.map es ck):=by
  rintro b (h | ⟨i,hf,rfl⟩)
  ·exact hI.imb b h
  ·rcases (Bool.or_eq_true _ _).mp hf with hf | hf
   ·obtain ⟨_,cells,el,h1,_⟩:=hp.fz i hf;exact .inl ⟨cells,el,_,h1⟩
   ·obtain ⟨_,h1⟩:=hp.fm i hf;obtain ⟨n,ks,vs,hg⟩:=Sh hf;rw [hg] at h1;obtain ⟨es,ck,h2,_⟩:=h1;exact .inr ⟨es,ck,h2⟩
 have hrb:∀ id,(e.sim H m z).D id→(e.sim H m z).ρ id < (e.sim H m z).w.heap.size:=by
  rintro id ⟨i,h1,h2⟩;simp only [Env.sim,h1];exact hI.rb i h2
 have hgs:GS M (e.sim H m z):=⟨fun g hg =>
  BN hp (show Aw H m z (.imm (U8 g)) (.imm (U8 g)) from SW H m z g) (hI.gs.1 g hg),fun p hp'=>⟨.inl (hI.gs.2 p hp').1,(hI.gs.2 p hp').2⟩⟩
 rcases hc with ⟨rfl,hlow⟩ | ⟨rfl,hall⟩
 ·refine ⟨hI.ev,hblk,hinj,himo,himb,hrb,fun b hb=>.inl (hI.keep b hb),fun id hid=>?_,hgs,hI.φ,hI.τ⟩;obtain ⟨h1,h2⟩:=hI.low id hid;have hd:(e.sim H m z).D id ↔ e.D id:=⟨fun ⟨i,k1,k2⟩=>by rw [hlow id hid,Option.some.injEq] at k1;exact k1 ▸ k2,fun h=>⟨id,hlow id hid,h⟩⟩
  exact ⟨hd.trans h1,fun h=>by simp only [Env.sim,hlow id hid];exact h2 (hd.1 h)⟩
 ·refine ⟨Ev.refl _ _,fun j hj=>⟨(hblk j hj).1,(hblk j hj).2.1,(hblk j hj).2.2.1,.inl ⟨j,hj,rfl⟩⟩,hinj,fun b hb=>.inl hb,himb,hrb,fun b hb=>hb,fun id hid=>⟨Iff.rfl,fun _=>rfl⟩,hgs,hI.φ,hI.τ⟩
theorem Av.simO {c:Ctx} {A:List V} {H:Hp} {N:Nat} (m z:List Nat) {A':List V} {H':Hp} {N':Nat} (hm:IV m H') (hz:∀ i ∈ z,i ∉ m) (hN:m.length≤N') (hk:c.k≤N') (hlow:∀ j,j < c.k→m[j]?=some j)
 (hA:Bh H m z A' A) (hH:B3 H m z H'):Av M c A H N A' H' N':=by
 rintro a w ⟨e,rfl,hI,hF,hD,hk',hdef⟩;refine ⟨e.sim H m z,rfl,hI.sim hm hz hH (.inl ⟨rfl,hlow⟩),⟨hF.len.trans (Hm hA).symm,fun t=>N9 (Pull.of hI m z) (HN hA t) (hF.val t)⟩,?_,hk,hdef⟩;rintro id hid ⟨i,h1,_⟩;have:=(List.getElem?_eq_some_iff.1 h1).1;omega
theorem Av.sim {c:Ctx} {A:List V} {H:Hp} {N:Nat} (m z:List Nat) {A':List V} {H':Hp} {N':Nat} (hm:m.Nodup) (hz:∀ i ∈ z,i ∉ m) (hN:m.length≤N') (hk:c.k≤N') (hlow:∀ j,j < c.k→m[j]?=some j)
 (hA:Bh H m z A' A) (hH:B3 H m z H'):Av M c A H N A' H' N':=Av.simO m z (IV.of hm H') hz hN hk hlow hA hH
def Aci:V:=.mp 0 (fun _=>.junk) (fun _=>.junk)
def V.ren (m:List Nat):V→V
 | .ptr j p=>(match m[j]? with | some i=>.ptr i p | none=>Aci)
 | .map j=>(match m[j]? with | some i=>.map i | none=>Aci)
 | .sl j p o n sz=>(match m[j]? with | some i=>.sl i p o n sz | none=>Aci)
 | .imm v=>.imm (v.ren m)
 | .lst sz n f=>.lst sz n (fun i=>(f i).ren m)
 | .fn f c=>.fn f (c.ren m)
 | .ifc t v=>.ifc t (v.ren m)
 | .st n fs=>.st n (fs.ren m)
 | .ar sz n f=>.ar sz n (fun i=>(f i).ren m)
 | .fcons o v r=>.fcons o (v.ren m) (r.ren m)
 | .tup fs=>.tup (fs.ren m)
 | .mp n ks vs=>.mp n (fun i=>(ks i).ren m) (fun i=>(vs i).ren m)
 | .fm n ks vs=>.fm n (fun i=>(ks i).ren m) (fun i=>(vs i).ren m)
 | v=>v
theorem EL (m:List Nat) (v:V):(v.ren m).size=v.size:=by
 cases v <;> simp only [V.ren] <;> first | rfl | (split <;> rfl)
theorem Nx (m:List Nat) (v:V):(v.ren m).isAgg=v.isAgg:=by
 cases v <;> simp only [V.ren] <;> first | rfl | (split <;> rfl)
theorem Mo (m:List Nat) (v:V):(v.ren m).chain=v.chain:=by
 cases v <;> simp only [V.ren] <;> first | rfl | (split <;> rfl)
theorem Aef (m:List Nat) (d:Nat) (v:V):(v.ren m).flo d=v.flo d:=by
 cases v <;> simp only [V.ren] <;> first | rfl | (split <;> rfl)
def AG:V→Prop
 | .imm _=>False
 | .lst ..=>False
 | .fn _ c=>AG c
 | .ifc _ v=>AG v
 | .st _ fs=>AG fs
 | .ar _ n f=>∀ i,i < n→AG (f i)
 | .fcons _ v r=>AG v∧AG r
 | .tup fs=>AG fs
 | .mp n ks vs=>∀ i,i < n→AG (ks i)∧AG (vs i)
 | .fm ..=>False
 | _=>True
structure Push (L:Prop) (m:List Nat) (e2 e:Env):Prop where
 D:∀ j,e2.D j→∃ i,m[j]?=some i∧e.D i∧e.ρ i=e2.ρ j
 im:¬ L→∀ b,e2.im b→e.im b
 w:e.w=e2.w
 φ:e.φ=e2.φ
 τ:e.τ=e2.τ
theorem Bt {L:Prop} {m:List Nat} {e2 e:Env} (hp:Push L m e2 e):∀ {v:V} {cs:List Value},(L→AG v)→R e2 v cs→R e (v.ren m) cs∧(v.solid=true→(v.ren m).solid=true)
 | .junk,_,_,h=>⟨h,fun h=>h⟩
 | .int _ _,_,_,h=>⟨h,fun h=>h⟩
 | .bool _,_,_,h=>⟨h,fun h=>h⟩
 | .str _,_,_,h=>⟨h,fun h=>h⟩
 | .nilp,_,_,h=>⟨h,fun h=>h⟩
 | .nils,_,_,h=>⟨h,fun h=>h⟩
 | .nilm,_,_,h=>⟨h,fun h=>h⟩
 | .nilf,_,_,h=>⟨h,fun h=>h⟩
 | .nili,_,_,h=>⟨h,fun h=>h⟩
 | .fnil,_,_,h=>⟨h,fun h=>h⟩
 | .ptr j p, cs, _, h => by
   simp only [R] at h;obtain ⟨i,h1,h2,h3⟩:=hp.D j h.1;simp only [V.ren,h1,R,h3];exact ⟨⟨h2,h.2⟩,fun _=>rfl⟩
 | .map j, cs, _, h => by
   simp only [R] at h;obtain ⟨i,h1,h2,h3⟩:=hp.D j h.1;simp only [V.ren,h1,R,h3];exact ⟨⟨h2,h.2⟩,fun _=>rfl⟩
 | .sl j p o n sz, cs, _, h => by
   simp only [R] at h;obtain ⟨i,h1,h2,h3⟩:=hp.D j h.1;simp only [V.ren,h1,R,h3,hp.w];exact ⟨⟨h2,h.2⟩,fun _=>rfl⟩
 | .imm v, cs, hL, h => by
   have hnL:¬ L:=fun hl=>(hL hl:AG (.imm v)).elim;simp only [R] at h;obtain ⟨b,o,c,el,fz,h1,h2,h3,h4,h5⟩:=h;simp only [V.ren,R,EL,hp.w];exact ⟨⟨b,o,c,el,fz,h1,hp.im hnL b h2,h3,h4,(Bt hp (fun hl=>(hnL hl).elim) h5).1⟩,fun _=>rfl⟩
 | .lst sz n f, cs, hL, h => by
   have hnL:¬ L:=fun hl=>(hL hl:AG (.lst sz n f)).elim;simp only [R] at h;obtain ⟨a,cap,h1,h2,h3⟩:=h;simp only [V.ren,R,EL,hp.w];refine ⟨⟨a,cap,h1,h2,fun h0=>?_⟩,fun _=>rfl⟩;obtain ⟨b,o,c,el,fz,k1,k2,k3,k4,k5⟩:=h3 h0;refine ⟨b,o,c,el,fz,k1,hp.im hnL b k2,k3,k4,fun i hi=>?_⟩;obtain ⟨q1,q2⟩:=Bt hp (fun hl=>(hnL hl).elim) (k5 i hi).2;exact ⟨⟨q2 (k5 i hi).1.1,(k5 i hi).1.2⟩,q1⟩
 | .fn f c, cs, hL, h => by
   simp only [R] at h;obtain ⟨xs,h1,h2⟩:=h;simp only [V.ren,R,hp.φ];exact ⟨⟨xs,h1,(Bt (v:=c) hp hL h2).1⟩,fun _=>rfl⟩
 | .ifc t v, cs, hL, h => by
   simp only [R] at h;obtain ⟨x,h1,h2,h3⟩:=h;simp only [V.ren,R,hp.τ,Nx];refine ⟨⟨x,h1,?_,?_⟩,fun _=>rfl⟩
   ·split at h3
    ·obtain ⟨c,k1,k2⟩:=h3;exact (Bt (v:=v) hp hL k2).2 h2
    ·exact (Bt (v:=v) hp hL h3).2 h2
   ·split at h3
    ·obtain ⟨c,k1,k2⟩:=h3;exact ⟨c,k1,(Bt (v:=v) hp hL k2).1⟩
    ·exact (Bt (v:=v) hp hL h3).1
 | .st n fs, cs, hL, h => by
   simp only [R] at h;simp only [V.ren,R,Mo];exact ⟨⟨h.1,h.2.1,(Bt (v:=fs) hp hL h.2.2).1⟩,fun _=>rfl⟩
 | .ar sz n f, cs, hL, h => by
   simp only [R] at h;simp only [V.ren,R,EL];refine ⟨⟨h.1,fun i hi=>?_⟩,fun _=>rfl⟩;obtain ⟨q1,q2⟩:=Bt hp (fun hl=>(hL hl:∀ i,i < n→AG (f i)) i hi) (h.2 i hi).2;exact ⟨⟨q2 (h.2 i hi).1.1,(h.2 i hi).1.2⟩,q1⟩
 | .fcons o v r, cs, hL, h => by
   simp only [R] at h;simp only [V.ren,R,EL,Mo,Aef];exact ⟨⟨h.1,h.2.1,h.2.2.1,(Bt hp (fun hl=>(hL hl:AG v∧AG r).1) h.2.2.2.1).1,(Bt hp (fun hl=>(hL hl:AG v∧AG r).2) h.2.2.2.2).1⟩,fun hf=>by simp [V.solid] at hf⟩
 | .tup fs,cs,_,h=>by simp only [R] at h
 | .mp n ks vs,cs,_,h=>by simp only [R] at h
 | .fm n ks vs, cs, hL, h => by
   have hnL:¬ L:=fun hl=>(hL hl:AG (.fm n ks vs)).elim;simp only [R] at h;obtain ⟨b,es,ck,hc,hi,hb,hn,hwf,hx⟩:=h;simp only [V.ren,R,Nx,hp.w];refine ⟨⟨b,es,ck,hc,hp.im hnL b hi,hb,hn,hwf,fun i x hix=>?_⟩,fun _=>rfl⟩;obtain ⟨⟨q1,q2⟩,q3,q4⟩:=hx i x hix;refine ⟨⟨?_,?_⟩,?_,?_⟩
   ·split at q2
    ·obtain ⟨c,k1,k2⟩:=q2;exact (Bt (v:=ks i) hp (fun hl=>(hnL hl).elim) k2).2 q1
    ·exact (Bt (v:=ks i) hp (fun hl=>(hnL hl).elim) q2).2 q1
   ·split at q2
    ·obtain ⟨c,k1,k2⟩:=q2;exact ⟨c,k1,(Bt (v:=ks i) hp (fun hl=>(hnL hl).elim) k2).1⟩
    ·exact (Bt (v:=ks i) hp (fun hl=>(hnL hl).elim) q2).1
   ·split at q4
    ·obtain ⟨c,k1,k2⟩:=q4;exact (Bt (v:=vs i) hp (fun hl=>(hnL hl).elim) k2).2 q3
    ·exact (Bt (v:=vs i) hp (fun hl=>(hnL hl).elim) q4).2 q3
   ·split at q4
    ·obtain ⟨c,k1,k2⟩:=q4;exact ⟨c,k1,(Bt (v:=vs i) hp (fun hl=>(hnL hl).elim) k2).1⟩
    ·exact (Bt (v:=vs i) hp (fun hl=>(hnL hl).elim) q4).1
theorem Jq {L:Prop} {m:List Nat} {e2 e:Env} (hp:Push L m e2 e) {v:V} {x:Value} (hL:L→AG v) (hs:v.solid=true) (h:RS e2 v x):RS e (v.ren m) x∧(v.ren m).solid=true:=by
 unfold RS at *
 rw [Nx];split
 ·rename_i ha;simp only [ha] at h;obtain ⟨c,h1,h2⟩:=h;exact ⟨⟨c,h1,(Bt hp hL h2).1⟩,(Bt hp hL h2).2 hs⟩
 ·rename_i ha;simp only [ha] at h;exact ⟨(Bt hp hL h).1,(Bt hp hL h).2 hs⟩
theorem Sz {L:Prop} {m:List Nat} {e2 e:Env} (hp:Push L m e2 e):∀ {v:V} {xs:Array Value},(L→AG v)→RT e2 v xs→RT e (v.ren m) xs
 | .fcons i v r, xs, hL, h => by
   simp only [RT] at h;simp only [V.ren,RT];obtain ⟨⟨h0,y,h1,h2⟩,h3⟩:=h;obtain ⟨q1,q2⟩:=Jq hp (fun hl=>(hL hl:AG v∧AG r).1) h0 h2;exact ⟨⟨q2,y,h1,q1⟩,Sz hp (fun hl=>(hL hl:AG v∧AG r).2) h3⟩
 | .ptr j p,_,_,_ | .map j,_,_,_ | .sl j p o n sz,_,_,_=>by simp only [V.ren];split <;> trivial
 | .junk,_,_,_ | .int ..,_,_,_ | .bool _,_,_,_ | .str _,_,_,_ | .nilp,_,_,_ | .imm _,_,_,_ | .nils,_,_,_ | .lst ..,_,_,_ | .nilm,_,_,_ | .nilf,_,_,_ | .fn ..,_,_,_ | .nili,_,_,_ | .ifc ..,_,_,_ | .st ..,_,_,_ | .ar ..,_,_,_ | .fnil,_,_,_ | .tup _,_,_,_ | .mp ..,_,_,_ | .fm ..,_,_,_=>trivial
theorem R6 {L:Prop} {m:List Nat} {e2 e:Env} (hp:Push L m e2 e) {v:V} {x:Value} (hL:L→AG v) (h:RV e2 v x):RV e (v.ren m) x:=by
 by_cases hs:v.solid=true
 ·rw [Bb hs] at h;obtain ⟨h1,h2⟩:=Jq hp hL hs h;rw [Bb h2];exact h1
 ·cases v <;> simp only [V.solid,not_true_eq_false] at hs;case junk=>trivial
  case tup fs =>
   obtain ⟨xs,h1,h2⟩:=h;exact ⟨xs,h1,Sz hp hL h2⟩
  all_goals exact (h:False).elim
theorem U6 (m:List Nat) (v:V):v.ren m = .bool true ↔ v = .bool true:=by
 cases v <;> (try simp only [V.ren]) <;> (try split) <;> simp [Aci]
theorem Kh {L:Prop} {m:List Nat} {e2 e:Env} (hp:Push L m e2 e) {i j:Nat} (hρ:e.ρ i=e2.ρ j) {v:V} (hL:L→AG v) (h:C2 e2 j v):C2 e i (v.ren m):=by
 by_cases hs:v.solid=true
 ·obtain ⟨cells,el,h1,h2,h3⟩:=(Cn hs).1 h;obtain ⟨q1,q2⟩:=Bt hp hL h3;refine (Cn (q2 hs)).2 ⟨cells,el,by rw [hρ,hp.w];exact h1,by rw [EL];exact h2,?_⟩;rw [EL];exact q1
 ·cases v;case mp n ks vs =>
   obtain ⟨es,clock,h1,h2,hw,h3⟩:=h;refine ⟨es,clock,by rw [hρ,hp.w];exact h1,h2,hw,fun i x hx=>?_⟩;have hi:i < es.size:=(Array.getElem?_eq_some_iff.1 hx).1;obtain ⟨⟨q1,q2⟩,q3,q4⟩:=h3 i x hx;obtain ⟨a1,a2⟩:=Jq hp (fun hl=>((hL hl:∀ i,i < n→AG (ks i)∧AG (vs i)) i Aa).1) q1 q2;obtain ⟨b1,b2⟩:=Jq hp (fun hl=>((hL hl:∀ i,i < n→AG (ks i)∧AG (vs i)) i Aa).2) q3 q4;exact ⟨⟨a2,a1⟩,b2,b1⟩
  case tup fs =>
   cases fs;case map j =>
    obtain ⟨hj,since,seen,last,h1⟩:=h;obtain ⟨i',k1,k2,k3⟩:=hp.D j hj;have hr:(V.tup (.map j)).ren m = .tup (.map i'):=by simp [V.ren,k1]
    rw [hr];exact ⟨k2,since,seen,last,by rw [hρ,hp.w,k3];exact h1⟩
   case fm=>trivial
   case fcons o v1 v2 =>
    cases v1 <;> try exact absurd (show false=true from h.1) Ab
    cases v2 <;> try exact absurd (show false=true from h.1) Ab
    obtain ⟨r,since,seen,last,es,clock,g1,g2,g3,g7,g4,g5,g6,g8⟩:=h;refine ⟨r,since,seen,last,es,clock,by rw [hρ,hp.w];exact g1,(Bt hp (fun hl=>(hL hl).1) g2).1,by rw [hp.w];exact g3,g7,g4,g5,fun i x hx=>?_,g8⟩;rw [g6 i x hx];exact (U6 m _).symm
   all_goals exact absurd (show false=true from h.1) Ab
  all_goals exact absurd h.1 hs
def c5:=@V.ren.eq_1
end Mv
