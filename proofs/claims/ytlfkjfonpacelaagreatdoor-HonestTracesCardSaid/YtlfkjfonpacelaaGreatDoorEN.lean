/- A part. -/
import Derived.Test.YtlfkjfonpacelaaGreatDoorEM
set_option linter.all false
namespace Mv
open Go
variable {M:Seat}
def Bh (H:Hp) (m z:List Nat):List V→List V→Prop
 | [],[]=>True
 | v :: r,u :: r'=>Bk H m z v u∧Bh H m z r r'
 | _,_=>False
def Bq (H:Hp) (m z:List Nat):Hp→Prop
 | []=>True
 | (j,v) :: r=>(match m[j]? with | some i=>Ac H i=true∧Ar H m z v (hget H i) | none=>False)∧Bq H m z r
theorem Ho {H:Hp} {m z:List Nat}:∀ {A B:List V},Bh H m z A B→A.length=B.length
 | [],[],_=>rfl
 | _ :: r,_ :: r',h=>by simp only [Bh] at h;simp [Ho h.2]
 | [],_ :: _,h=>by simp [Bh] at h
 | _ :: _,[],h=>by simp [Bh] at h
theorem HO {H:Hp} {m z:List Nat}:∀ {A B:List V},Bh H m z A B→∀ t,Bk H m z (A.getD t .junk) (B.getD t .junk)
 | [],[],_,t=>by simp [Bk]
 | _ :: r, _ :: r', h, t => by
   simp only [Bh] at h
   cases t with
   | zero=>simpa using h.1
   | succ t=>simpa using HO h.2 t
 | [],_ :: _,h,_=>by simp [Bh] at h
 | _ :: _,[],h,_=>by simp [Bh] at h
theorem Dn {H:Hp} {m z:List Nat}:∀ {H':Hp},Bq H m z H'→∀ j,Ac H' j=true→∃ i,m[j]?=some i∧Ac H i=true∧Ar H m z (hget H' j) (hget H i)
 | [],_,j,hj=>by simp [Ac] at hj
 | (k, v) :: r, h, j, hj => by
   simp only [Bq] at h
   by_cases hkj:k=j
   ·subst hkj
    obtain ⟨h1,_⟩:=h
    split at h1
    ·rename_i i hi
     exact ⟨i,hi,h1.1,by simpa [hget] using h1.2⟩
    ·exact h1.elim
   ·have hj':Ac r j=true:=by
     simp only [Og,beq_iff_eq] at hj
     exact hj.resolve_left hkj
    obtain ⟨i,h1,h2,h3⟩:=Dn h.2 j hj'
    exact ⟨i,h1,h2,by simpa [hget,hkj] using h3⟩
def Env.sim (e:Env) (H:Hp) (m z:List Nat):Env :=
 { ρ := fun j => match m[j]? with | some i => e.ρ i | none => 0
   D:=fun j=>∃ i,m[j]?=some i∧e.D i
   im:=fun b=>e.im b ∨ ∃ i,Ub H z i=true∧b=e.ρ i
   w:=e.w,φ:=e.φ,τ:=e.τ }
theorem Adf {H:Hp} {z:List Nat} {i:Nat} (h:MG H z i=true):i ∈ z∧Ac H i=true∧(hget H i).solid=true:=by
 simp only [MG,Bool.and_eq_true,List.contains_iff_mem] at h
 exact ⟨h.1.1,h.1.2,h.2⟩
theorem ER {H:Hp} {z:List Nat} {i:Nat} (h:Ub H z i=true):i ∈ z∧Ac H i=true∧True:=by
 simp only [Ub,MG,R9,Bool.or_eq_true,Bool.and_eq_true,List.contains_iff_mem] at h
 rcases h with h | h
 ·exact ⟨h.1.1,h.1.2,trivial⟩
 ·exact ⟨h.1.1,h.1.2,trivial⟩
theorem Tp {H:Hp} {z:List Nat} {i:Nat} (h:R9 H z i=true):∃ n ks vs,hget H i = .mp n ks vs:=by
 simp only [R9,Bool.and_eq_true] at h
 cases hg:hget H i with
 | mp n ks vs=>exact ⟨n,ks,vs,rfl⟩
 | _=>rw [hg] at h;exact absurd h.2 (by simp [V.isMp])
theorem Pull.of {c:Ctx} {e:Env} {H:Hp} (hI:Inv M c e H) (m z:List Nat):Pull H m z e (e.sim H m z) where
 D j i hj hd:=⟨⟨i,hj,hd⟩,by simp [Env.sim,hj]⟩
 im b hb:=.inl hb
 fz i hi:=by
  obtain ⟨_,h1,h2⟩:=Adf hi
  obtain ⟨cells,el,h3,h4,h5⟩:=hI.cells h1 h2
  exact ⟨.inr ⟨i,by simp [Ub,hi],rfl⟩,cells,el,h3,h4,h5⟩
 fm i hi:=by
  have hi':Ub H z i=true:=by simp [Ub,hi]
  obtain ⟨_,h1,_⟩:=ER hi'
  exact ⟨.inr ⟨i,hi',rfl⟩,(hI.blk i h1).2.1⟩
 w:=rfl
 φ:=rfl
 τ:=rfl
theorem S1 (H:Hp) (m z:List Nat):∀ g,Ar H m z (U1 g) (U1 g)
 | 0=>rfl
 | 1=>⟨⟨rfl,rfl⟩,fun _ _=>rfl⟩
 | 2=>⟨⟨rfl,rfl⟩,fun _ _=>rfl⟩
 | 3=>⟨⟨rfl,rfl⟩,fun _ _=>rfl⟩
 | _ + 4=>rfl
theorem LQ {H:Hp} {m z:List Nat} {e e2:Env} (hp:Pull H m z e e2) {i j:Nat} (hρ:e2.ρ j=e.ρ i) {v u:V} (hs:Ar H m z v u) (h:DE e i u):DE e2 j v:=by
 cases v
 case mp n ks vs =>
  cases u <;> simp only [Ar] at hs
  obtain ⟨rfl,hs⟩:=hs
  obtain ⟨es,clock,h1,h2,h3⟩:=h
  refine ⟨es,clock,by rw [hρ,hp.w];exact h1,h2,fun i x hx=>?_⟩
  have hi:i < es.size:=(Array.getElem?_eq_some_iff.1 hx).1
  obtain ⟨k1,k2⟩:=hs i Aa
  obtain ⟨⟨q1,q2⟩,q3,q4⟩:=h3 i x hx
  exact ⟨⟨by rw [BK k1];exact q1,Nz hp k1 q2⟩,by rw [BK k2];exact q3,Nz hp k2 q4⟩
 case tup fs =>
  cases u <;> simp only [Ar] at hs
  rename_i fs'
  cases fs'
  case fm=>cases fs <;> first | (simp [Ar] at hs;done) | trivial
  case map k =>
   cases fs <;> first | (simp [Ar] at hs;done) | skip
   case fm=>trivial
   simp only [Ar] at hs
   obtain ⟨hk,since,seen,last,h1⟩:=h
   obtain ⟨a1,a2⟩:=hp.D _ _ hs hk
   exact ⟨a1,since,seen,last,by rw [hρ,hp.w,a2];exact h1⟩
  all_goals exact absurd (show false=true from h.1) Aj
 all_goals
  have hsol:=BK hs
  have hsz:=DZ hs
  have hu:u.solid=true:=by
   cases u
   case mp=>simp [Ar] at hs
   case tup=>simp [Ar] at hs
   all_goals exact h.1
  obtain ⟨cells,el,h1,h2,h3⟩:=(CB hu).1 h
  refine (CB (by rw [hsol];exact hu)).2 ⟨cells,el,by rw [hρ,hp.w];exact h1,by rw [hsz];exact h2,?_⟩
  rw [hsz]
  exact C6 hp hs h3
theorem getElem?_nodup {m:List Nat} (hm:m.Nodup) {i j a:Nat} (hi:m[i]?=some a) (hj:m[j]?=some a):i=j:=by
 obtain ⟨h1,h2⟩:=List.getElem?_eq_some_iff.1 hi
 obtain ⟨h3,h4⟩:=List.getElem?_eq_some_iff.1 hj
 have e1:=hm.idxOf_getElem i h1
 have e2:=hm.idxOf_getElem j h3
 rw [h2] at e1
 rw [h4] at e2
 exact e1.symm.trans e2
theorem Inv.sim {c c':Ctx} {e:Env} {H:Hp} (hI:Inv M c e H) {m z:List Nat} (hm:m.Nodup) (hz:∀ i ∈ z,i ∉ m) {H':Hp} (hH:Bq H m z H')
 (hc:(c'=c∧∀ j,j < c.k→m[j]?=some j) ∨ (c'=⟨e.sim H m z,fun b=>∃ id,Ac H' id=true∧(e.sim H m z).ρ id=b,m.length⟩∧∀ i ∈ m,Ac H i=true)):Inv M c' (e.sim H m z) H':=by
 have hp:=Pull.of hI m z
 have hblk:∀ j,Ac H' j=true→(e.sim H m z).D j∧DE (e.sim H m z) j (hget H' j)∧¬ (e.sim H m z).im ((e.sim H m z).ρ j)∧(c.O ((e.sim H m z).ρ j) ∨ c.e0.w.heap.size≤(e.sim H m z).ρ j):=by
  intro j hj
  obtain ⟨i,h1,h2,h3⟩:=Dn hH j hj
  obtain ⟨k1,k2,k3,k4⟩:=hI.blk i h2
  have hρ:(e.sim H m z).ρ j=e.ρ i:=by simp [Env.sim,h1]
  refine ⟨⟨i,h1,k1⟩,LQ hp hρ h3 k2,?_,?_⟩
  ·rw [hρ]
   rintro (h | ⟨i',hf,he⟩)
   ·exact k3 h
   ·obtain ⟨f1,f2,_⟩:=ER hf
    have:=hI.inj i i' h2 f2 he
    subst this
    exact hz _ f1 (List.mem_of_getElem? h1)
  ·rw [hρ];exact k4
 have hinj:∀ i j,Ac H' i=true→Ac H' j=true→(e.sim H m z).ρ i=(e.sim H m z).ρ j→i=j:=by
  intro i j hi hj hij
  obtain ⟨i',h1,h2,_⟩:=Dn hH i hi
  obtain ⟨j',h3,h4,_⟩:=Dn hH j hj
  simp only [Env.sim,h1,h3] at hij
  have:=hI.inj i' j' h2 h4 hij
  subst this
  exact getElem?_nodup hm h1 h3
 have himo:∀ b,(e.sim H m z).im b→c.e0.im b ∨ c.O b ∨ c.e0.w.heap.size≤b:=by
  rintro b (h | ⟨i,hf,rfl⟩)
  ·exact hI.imo b h
  ·exact .inr (hI.blk i (ER hf).2.1).2.2.2
 have himb:∀ b,(e.sim H m z).im b→(∃ cells el fz,(e.sim H m z).w.heap[b]?=some (.cells cells el fz)) ∨ ∃ es ck,(e.sim H m z).w.heap[b]?=some (.map es ck):=by
  rintro b (h | ⟨i,hf,rfl⟩)
  ·exact hI.imb b h
  ·rcases (Bool.or_eq_true _ _).mp hf with hf | hf
   ·obtain ⟨_,cells,el,h1,_⟩:=hp.fz i hf
    exact .inl ⟨cells,el,_,h1⟩
   ·obtain ⟨_,h1⟩:=hp.fm i hf
    obtain ⟨n,ks,vs,hg⟩:=Tp hf
    rw [hg] at h1
    obtain ⟨es,ck,h2,_⟩:=h1
    exact .inr ⟨es,ck,h2⟩
 have hrb:∀ id,(e.sim H m z).D id→(e.sim H m z).ρ id < (e.sim H m z).w.heap.size:=by
  rintro id ⟨i,h1,h2⟩
  simp only [Env.sim,h1]
  exact hI.rb i h2
 have hgs:GS M (e.sim H m z):=⟨fun g hg =>
  C6 hp (show Ar H m z (.imm (U1 g)) (.imm (U1 g)) from S1 H m z g) (hI.gs.1 g hg),fun p hp'=>⟨.inl (hI.gs.2 p hp').1,(hI.gs.2 p hp').2⟩⟩
 rcases hc with ⟨rfl,hlow⟩ | ⟨rfl,hall⟩
 ·refine ⟨hI.ev,hblk,hinj,himo,himb,hrb,fun b hb=>.inl (hI.keep b hb),fun id hid=>?_,hgs,hI.φ,hI.τ⟩
  obtain ⟨h1,h2⟩:=hI.low id hid
  exact ⟨⟨id,hlow id hid,h1⟩,by simp only [Env.sim,hlow id hid];exact h2⟩
 ·refine ⟨Ev.refl _ _,fun j hj=>⟨(hblk j hj).1,(hblk j hj).2.1,(hblk j hj).2.2.1,.inl ⟨j,hj,rfl⟩⟩,hinj,fun b hb=>.inl hb,himb,hrb,fun b hb=>hb,fun id hid=>⟨?_,rfl⟩,hgs,hI.φ,hI.τ⟩
  have hid':id < m.length:=hid
  exact ⟨m[id],List.getElem?_eq_getElem hid',(hI.blk _ (hall _ (List.getElem_mem hid'))).1⟩
theorem Ak.sim {c:Ctx} {A:List V} {H:Hp} {N:Nat} (m z:List Nat) {A':List V} {H':Hp} {N':Nat} (hm:m.Nodup) (hz:∀ i ∈ z,i ∉ m) (hN:m.length≤N') (hk:c.k≤N') (hlow:∀ j,j < c.k→m[j]?=some j)
 (hA:Bh H m z A' A) (hH:Bq H m z H'):Ak M c A H N A' H' N':=by
 rintro a w ⟨e,rfl,hI,hF,hD,hk',hdef⟩
 refine ⟨e.sim H m z,rfl,hI.sim hm hz hH (.inl ⟨rfl,hlow⟩),⟨hF.len.trans (Ho hA).symm,fun t=>NO (Pull.of hI m z) (HO hA t) (hF.val t)⟩,?_,hk,hdef⟩
 rintro id hid ⟨i,h1,_⟩
 have:=(List.getElem?_eq_some_iff.1 h1).1
 omega
def Ai3:V:=.mp 0 (fun _=>.junk) (fun _=>.junk)
def V.ren (m:List Nat):V→V
 | .ptr j p=>(match m[j]? with | some i=>.ptr i p | none=>Ai3)
 | .map j=>(match m[j]? with | some i=>.map i | none=>Ai3)
 | .sl j p o n sz=>(match m[j]? with | some i=>.sl i p o n sz | none=>Ai3)
 | .imm v=>.imm (v.ren m)
 | .lst sz n f=>.lst sz n (fun i=>(f i).ren m)
 | .fn f c=>.fn f (c.ren m)
 | .ifc t v=>.ifc t (v.ren m)
 | .st n fs=>.st n (fs.ren m)
 | .ar sz n f=>.ar sz n (fun i=>(f i).ren m)
 | .fcons o v r=>.fcons o (v.ren m) (r.ren m)
 | .tup fs=>.tup (fs.ren m)
 | .mp n ks vs=>.mp n (fun i=>(ks i).ren m) (fun i=>(vs i).ren m)
 | .fm n ks vs=>.fm n (fun i=>(ks i).ren m) (fun i=>(vs i).ren m)
 | v=>v
theorem EH (m:List Nat) (v:V):(v.ren m).size=v.size:=by
 cases v <;> simp only [V.ren] <;> first | rfl | (split <;> rfl)
theorem NA (m:List Nat) (v:V):(v.ren m).isAgg=v.isAgg:=by
 cases v <;> simp only [V.ren] <;> first | rfl | (split <;> rfl)
theorem LB (m:List Nat) (v:V):(v.ren m).chain=v.chain:=by
 cases v <;> simp only [V.ren] <;> first | rfl | (split <;> rfl)
theorem Abf (m:List Nat) (d:Nat) (v:V):(v.ren m).flo d=v.flo d:=by
 cases v <;> simp only [V.ren] <;> first | rfl | (split <;> rfl)
def A7:V→Prop
 | .imm _=>False
 | .lst ..=>False
 | .fn _ c=>A7 c
 | .ifc _ v=>A7 v
 | .st _ fs=>A7 fs
 | .ar _ n f=>∀ i,i < n→A7 (f i)
 | .fcons _ v r=>A7 v∧A7 r
 | .tup fs=>A7 fs
 | .mp n ks vs=>∀ i,i < n→A7 (ks i)∧A7 (vs i)
 | .fm ..=>False
 | _=>True
structure Push (L:Prop) (m:List Nat) (e2 e:Env):Prop where
 D:∀ j,e2.D j→∃ i,m[j]?=some i∧e.D i∧e.ρ i=e2.ρ j
 im:¬ L→∀ b,e2.im b→e.im b
 w:e.w=e2.w
 φ:e.φ=e2.φ
 τ:e.τ=e2.τ
theorem BG {L:Prop} {m:List Nat} {e2 e:Env} (hp:Push L m e2 e):∀ {v:V} {cs:List Value},(L→A7 v)→R e2 v cs→R e (v.ren m) cs∧(v.solid=true→(v.ren m).solid=true)
 | .junk,_,_,h=>⟨h,fun h=>h⟩
 | .int _ _,_,_,h=>⟨h,fun h=>h⟩
 | .bool _,_,_,h=>⟨h,fun h=>h⟩
 | .str _,_,_,h=>⟨h,fun h=>h⟩
 | .nilp,_,_,h=>⟨h,fun h=>h⟩
 | .nils,_,_,h=>⟨h,fun h=>h⟩
 | .nilm,_,_,h=>⟨h,fun h=>h⟩
 | .nilf,_,_,h=>⟨h,fun h=>h⟩
 | .nili,_,_,h=>⟨h,fun h=>h⟩
 | .fnil,_,_,h=>⟨h,fun h=>h⟩
 | .ptr j p, cs, _, h => by
   simp only [R] at h
   obtain ⟨i,h1,h2,h3⟩:=hp.D j h.1
   simp only [V.ren,h1,R,h3]
   exact ⟨⟨h2,h.2⟩,fun _=>rfl⟩
 | .map j, cs, _, h => by
   simp only [R] at h
   obtain ⟨i,h1,h2,h3⟩:=hp.D j h.1
   simp only [V.ren,h1,R,h3]
   exact ⟨⟨h2,h.2⟩,fun _=>rfl⟩
 | .sl j p o n sz, cs, _, h => by
   simp only [R] at h
   obtain ⟨i,h1,h2,h3⟩:=hp.D j h.1
   simp only [V.ren,h1,R,h3,hp.w]
   exact ⟨⟨h2,h.2⟩,fun _=>rfl⟩
 | .imm v, cs, hL, h => by
   have hnL:¬ L:=fun hl=>(hL hl:A7 (.imm v)).elim
   simp only [R] at h
   obtain ⟨b,o,c,el,fz,h1,h2,h3,h4,h5⟩:=h
   simp only [V.ren,R,EH,hp.w]
   exact ⟨⟨b,o,c,el,fz,h1,hp.im hnL b h2,h3,h4,(BG hp (fun hl=>(hnL hl).elim) h5).1⟩,fun _=>rfl⟩
 | .lst sz n f, cs, hL, h => by
   have hnL:¬ L:=fun hl=>(hL hl:A7 (.lst sz n f)).elim
   simp only [R] at h
   obtain ⟨a,cap,h1,h2,h3⟩:=h
   simp only [V.ren,R,EH,hp.w]
   refine ⟨⟨a,cap,h1,h2,fun h0=>?_⟩,fun _=>rfl⟩
   obtain ⟨b,o,c,el,fz,k1,k2,k3,k4,k5⟩:=h3 h0
   refine ⟨b,o,c,el,fz,k1,hp.im hnL b k2,k3,k4,fun i hi=>?_⟩
   obtain ⟨q1,q2⟩:=BG hp (fun hl=>(hnL hl).elim) (k5 i hi).2
   exact ⟨⟨q2 (k5 i hi).1.1,(k5 i hi).1.2⟩,q1⟩
 | .fn f c, cs, hL, h => by
   simp only [R] at h
   obtain ⟨xs,h1,h2⟩:=h
   simp only [V.ren,R,hp.φ]
   exact ⟨⟨xs,h1,(BG (v:=c) hp hL h2).1⟩,fun _=>rfl⟩
 | .ifc t v, cs, hL, h => by
   simp only [R] at h
   obtain ⟨x,h1,h2,h3⟩:=h
   simp only [V.ren,R,hp.τ,NA]
   refine ⟨⟨x,h1,?_,?_⟩,fun _=>rfl⟩
   ·split at h3
    ·obtain ⟨c,k1,k2⟩:=h3;exact (BG (v:=v) hp hL k2).2 h2
    ·exact (BG (v:=v) hp hL h3).2 h2
   ·split at h3
    ·obtain ⟨c,k1,k2⟩:=h3;exact ⟨c,k1,(BG (v:=v) hp hL k2).1⟩
    ·exact (BG (v:=v) hp hL h3).1
 | .st n fs, cs, hL, h => by
   simp only [R] at h
   simp only [V.ren,R,LB]
   exact ⟨⟨h.1,h.2.1,(BG (v:=fs) hp hL h.2.2).1⟩,fun _=>rfl⟩
 | .ar sz n f, cs, hL, h => by
   simp only [R] at h
   simp only [V.ren,R,EH]
   refine ⟨⟨h.1,fun i hi=>?_⟩,fun _=>rfl⟩
   obtain ⟨q1,q2⟩:=BG hp (fun hl=>(hL hl:∀ i,i < n→A7 (f i)) i hi) (h.2 i hi).2
   exact ⟨⟨q2 (h.2 i hi).1.1,(h.2 i hi).1.2⟩,q1⟩
 | .fcons o v r, cs, hL, h => by
   simp only [R] at h
   simp only [V.ren,R,EH,LB,Abf]
   exact ⟨⟨h.1,h.2.1,h.2.2.1,(BG hp (fun hl=>(hL hl:A7 v∧A7 r).1) h.2.2.2.1).1,(BG hp (fun hl=>(hL hl:A7 v∧A7 r).2) h.2.2.2.2).1⟩,fun hf=>by simp [V.solid] at hf⟩
 | .tup fs,cs,_,h=>by simp only [R] at h
 | .mp n ks vs,cs,_,h=>by simp only [R] at h
 | .fm n ks vs, cs, hL, h => by
   have hnL:¬ L:=fun hl=>(hL hl:A7 (.fm n ks vs)).elim
   simp only [R] at h
   obtain ⟨b,es,ck,hc,hi,hb,hn,hx⟩:=h
   simp only [V.ren,R,NA,hp.w]
   refine ⟨⟨b,es,ck,hc,hp.im hnL b hi,hb,hn,fun i x hix=>?_⟩,fun _=>rfl⟩
   obtain ⟨⟨q1,q2⟩,q3,q4⟩:=hx i x hix
   refine ⟨⟨?_,?_⟩,?_,?_⟩
   ·split at q2
    ·obtain ⟨c,k1,k2⟩:=q2;exact (BG (v:=ks i) hp (fun hl=>(hnL hl).elim) k2).2 q1
    ·exact (BG (v:=ks i) hp (fun hl=>(hnL hl).elim) q2).2 q1
   ·split at q2
    ·obtain ⟨c,k1,k2⟩:=q2;exact ⟨c,k1,(BG (v:=ks i) hp (fun hl=>(hnL hl).elim) k2).1⟩
    ·exact (BG (v:=ks i) hp (fun hl=>(hnL hl).elim) q2).1
   ·split at q4
    ·obtain ⟨c,k1,k2⟩:=q4;exact (BG (v:=vs i) hp (fun hl=>(hnL hl).elim) k2).2 q3
    ·exact (BG (v:=vs i) hp (fun hl=>(hnL hl).elim) q4).2 q3
   ·split at q4
    ·obtain ⟨c,k1,k2⟩:=q4;exact ⟨c,k1,(BG (v:=vs i) hp (fun hl=>(hnL hl).elim) k2).1⟩
    ·exact (BG (v:=vs i) hp (fun hl=>(hnL hl).elim) q4).1
theorem J1 {L:Prop} {m:List Nat} {e2 e:Env} (hp:Push L m e2 e) {v:V} {x:Value} (hL:L→A7 v) (hs:v.solid=true) (h:RS e2 v x):RS e (v.ren m) x∧(v.ren m).solid=true:=by
 unfold RS at *
 rw [NA]
 split
 ·rename_i ha;simp only [ha] at h;obtain ⟨c,h1,h2⟩:=h;exact ⟨⟨c,h1,(BG hp hL h2).1⟩,(BG hp hL h2).2 hs⟩
 ·rename_i ha;simp only [ha] at h;exact ⟨(BG hp hL h).1,(BG hp hL h).2 hs⟩
theorem SD {L:Prop} {m:List Nat} {e2 e:Env} (hp:Push L m e2 e):∀ {v:V} {xs:Array Value},(L→A7 v)→RT e2 v xs→RT e (v.ren m) xs
 | .fcons i v r, xs, hL, h => by
   simp only [RT] at h
   simp only [V.ren,RT]
   obtain ⟨⟨h0,y,h1,h2⟩,h3⟩:=h
   obtain ⟨q1,q2⟩:=J1 hp (fun hl=>(hL hl:A7 v∧A7 r).1) h0 h2
   exact ⟨⟨q2,y,h1,q1⟩,SD hp (fun hl=>(hL hl:A7 v∧A7 r).2) h3⟩
 | .ptr j p,_,_,_ | .map j,_,_,_ | .sl j p o n sz,_,_,_=>by simp only [V.ren];split <;> trivial
 | .junk,_,_,_ | .int ..,_,_,_ | .bool _,_,_,_ | .str _,_,_,_ | .nilp,_,_,_ | .imm _,_,_,_ | .nils,_,_,_ | .lst ..,_,_,_ | .nilm,_,_,_ | .nilf,_,_,_ | .fn ..,_,_,_ | .nili,_,_,_ | .ifc ..,_,_,_ | .st ..,_,_,_ | .ar ..,_,_,_ | .fnil,_,_,_ | .tup _,_,_,_ | .mp ..,_,_,_ | .fm ..,_,_,_=>trivial
theorem T2 {L:Prop} {m:List Nat} {e2 e:Env} (hp:Push L m e2 e) {v:V} {x:Value} (hL:L→A7 v) (h:RV e2 v x):RV e (v.ren m) x:=by
 by_cases hs:v.solid=true
 ·rw [AR hs] at h
  obtain ⟨h1,h2⟩:=J1 hp hL hs h
  rw [AR h2];exact h1
 ·cases v <;> simp only [V.solid,not_true_eq_false] at hs
  case junk=>trivial
  case tup fs =>
   obtain ⟨xs,h1,h2⟩:=h
   exact ⟨xs,h1,SD hp hL h2⟩
  all_goals exact (h:False).elim
theorem KV {L:Prop} {m:List Nat} {e2 e:Env} (hp:Push L m e2 e) {i j:Nat} (hρ:e.ρ i=e2.ρ j) {v:V} (hL:L→A7 v) (h:DE e2 j v):DE e i (v.ren m):=by
 by_cases hs:v.solid=true
 ·obtain ⟨cells,el,h1,h2,h3⟩:=(CB hs).1 h
  obtain ⟨q1,q2⟩:=BG hp hL h3
  refine (CB (q2 hs)).2 ⟨cells,el,by rw [hρ,hp.w];exact h1,by rw [EH];exact h2,?_⟩
  rw [EH];exact q1
 ·cases v
  case mp n ks vs =>
   obtain ⟨es,clock,h1,h2,h3⟩:=h
   refine ⟨es,clock,by rw [hρ,hp.w];exact h1,h2,fun i x hx=>?_⟩
   have hi:i < es.size:=(Array.getElem?_eq_some_iff.1 hx).1
   obtain ⟨⟨q1,q2⟩,q3,q4⟩:=h3 i x hx
   obtain ⟨a1,a2⟩:=J1 hp (fun hl=>((hL hl:∀ i,i < n→A7 (ks i)∧A7 (vs i)) i Aa).1) q1 q2
   obtain ⟨b1,b2⟩:=J1 hp (fun hl=>((hL hl:∀ i,i < n→A7 (ks i)∧A7 (vs i)) i Aa).2) q3 q4
   exact ⟨⟨a2,a1⟩,b2,b1⟩
  case tup fs =>
   cases fs
   case map j =>
    obtain ⟨hj,since,seen,last,h1⟩:=h
    obtain ⟨i',k1,k2,k3⟩:=hp.D j hj
    have hr:(V.tup (.map j)).ren m = .tup (.map i'):=by simp [V.ren,k1]
    rw [hr]
    exact ⟨k2,since,seen,last,by rw [hρ,hp.w,k3];exact h1⟩
   case fm=>trivial
   all_goals exact absurd (show false=true from h.1) Aj
  all_goals exact absurd h.1 hs
abbrev Q3 (v:V) (Hn:Hp) (kn:Nat):V→Hp→Nat→Prop:=fun r H' k'=>r=v∧H'=Hn∧k'=kn
def Af (M:Seat) (f:Nat) (us:List V) (H:Hp) (k:Nat) (Q:V→Hp→Nat→Prop):Prop :=
 ∀ (e:Env) (vs:Array Value),Inv M ⟨e,fun b=>∃ id,Ac H id=true∧e.ρ id=b,k⟩ e H→(∀ id,k≤id→¬ e.D id)→Pp e us vs →
  Calls M.P (M.φ f) vs e.w fun en w'=>∃ x v e' H' k',en = .returned x∧e'.w=w'∧Inv M ⟨e,fun b=>∃ id,Ac H id=true∧e.ρ id=b,k⟩ e' H'∧RV e' v x∧(∀ id,k'≤id→¬ e'.D id)∧k≤k'∧Q v H' k'
theorem Af.mono {M:Seat} {f:Nat} {us:List V} {H:Hp} {k:Nat} {Q Q':V→Hp→Nat→Prop} (h:Af M f us H k Q) (hq:∀ v H' k',Q v H' k'→Q' v H' k'):Af M f us H k Q':=by
 intro e vs h1 h2 h3
 refine (h e vs h1 h2 h3).mono ?_
 rintro en w' ⟨x,v,e',H',k',a,b,c,d,f,g,i⟩
 exact ⟨x,v,e',H',k',a,b,c,d,f,g,hq _ _ _ i⟩
def AM (m:List Nat):Hp→Hp
 | []=>[]
 | (j,v) :: r=>match m[j]? with | some i=>(i,v.ren m) :: AM m r | none=>AM m r
def A5 (H:Hp):List Nat→Hp
 | []=>H
 | i :: r=>BJ (A5 H r) i
theorem GE (H:Hp) (j:Nat):∀ m,Ac (A5 H m) j=(Ac H j && !m.contains j)
 | []=>by simp [A5]
 | i :: r => by
   rw [A5,Dv,GE H j r,List.contains_cons]
   by_cases h:j=i <;> simp [h,bne,Bool.and_comm,Bool.and_assoc]
theorem Hb (H:Hp) (j:Nat):∀ m,j ∉ m→hget (A5 H m) j=hget H j
 | [],_=>rfl
 | i :: r, h => by
   rw [A5,Dw _ _ (by intro h';exact h (by simp [h'])),Hb H j r (by intro h';exact h (by simp [h']))]
theorem B7 (j:Nat):∀ H K:Hp,Ac (H ++ K) j=(Ac H j || Ac K j)
 | [],_=>by simp [Ac]
 | (i,v) :: r,K=>by simp [Ac,B7 j r K,Bool.or_assoc]
theorem CN {j:Nat}:∀ {H K:Hp},Ac H j=true→hget (H ++ K) j=hget H j
 | [],_,h=>by simp [Ac] at h
 | (i, v) :: r, K, h => by
   simp only [List.cons_append,hget]
   split
   ·rfl
   ·rename_i hij
    simp only [Og,beq_iff_eq,hij,false_or] at h
    exact CN h
theorem Bs {j:Nat}:∀ {H K:Hp},Ac H j=false→hget (H ++ K) j=hget K j
 | [],_,_=>rfl
 | (i, v) :: r, K, h => by
   simp only [Ac,Bool.or_eq_false_iff,beq_eq_false_iff_ne,ne_eq] at h
   simp only [List.cons_append,hget,if_neg h.1]
   exact Bs h.2
theorem Hm {m:List Nat} (hm:m.Nodup):∀ {H:Hp} {id:Nat},Ac (AM m H) id=true→∃ j,m[j]?=some id∧Ac H j=true∧hget (AM m H) id=(hget H j).ren m
 | [],id,h=>by simp [AM,Ac] at h
 | (j, v) :: r, id, h => by
   cases hi:m[j]? with
   | some i =>
     have hr:AM m ((j,v) :: r)=(i,v.ren m) :: AM m r:=by simp only [AM,hi]
     rw [hr] at h ⊢
     by_cases hid:i=id
     ·subst hid
      exact ⟨j,hi,by simp [Ac],by simp [hget]⟩
     ·have h':Ac (AM m r) id=true:=by
       simp only [Og,beq_iff_eq] at h
       exact h.resolve_left hid
      obtain ⟨j',h1,h2,h3⟩:=Hm hm h'
      have hjj:j ≠ j':=by
       rintro rfl
       rw [hi] at h1
       exact hid (by simpa using h1)
      exact ⟨j',h1,by simp [Ac,h2],by simp [hget,hid,hjj,h3]⟩
   | none =>
     have hr:AM m ((j,v) :: r)=AM m r:=by simp only [AM,hi]
     rw [hr] at h ⊢
     obtain ⟨j',h1,h2,h3⟩:=Hm hm h
     have hjj:j ≠ j':=by
      rintro rfl
      rw [hi] at h1
      cases h1
     exact ⟨j',h1,by simp [Ac,h2],by simp [hget,hjj,h3]⟩
def SL (H:Hp):Prop:=∀ id,Ac H id=true→A7 (hget H id)
def Bp (m:List Nat) (n k':Nat):List Nat:=m ++ (List.range (k' - m.length)).map (fun i=>n + i)
theorem Ox {m:List Nat} {n k':Nat} (hk:m.length≤k') (j:Nat) (hj:j < k'):(Bp m n k')[j]?=if h:j < m.length then some m[j] else some (n + (j - m.length)):=by
 unfold Bp
 split
 ·rename_i h
  rw [List.getElem?_append_left h];exact List.getElem?_eq_getElem h
 ·rename_i h
  rw [List.getElem?_append_right Aa]
  simp only [List.getElem?_map]
  rw [List.getElem?_range Aa]
  rfl
theorem KI {m:List Nat} {n k':Nat} (hm:m.Nodup) (hn:∀ i ∈ m,i < n):(Bp m n k').Nodup:=by
 unfold Bp
 rw [List.nodup_append]
 refine ⟨hm,?_,?_⟩
 ·rw [List.Nodup,List.pairwise_map]
  exact (List.nodup_range (n:=k' - m.length)).imp (fun h h'=>h Aa)
 ·intro a ha b hb hab
  simp only [List.mem_map,List.mem_range] at hb
  obtain ⟨i,_,rfl⟩:=hb
  have:=hn a ha
  omega
theorem Cj {M:Seat} {f:Nat} {us:List V} {H:Hp} {n:Nat} {K:V→Hp→Prop} {us0:List V} {H0:Hp} {k:Nat} {Q:V→Hp→Nat→Prop} (hr:Af M f us0 H0 k Q) (L:Prop) [Decidable L] (m z:List Nat)
 (hm:m.Nodup) (hz:∀ i ∈ z,i ∉ m) (hk:m.length=k) (hall:∀ i ∈ m,Ac H i=true) (hus:Bh H m z us0 us) (hH:Bq H m z H0)
 (hK:∀ v H' k',Q v H' k'→(k'≤k + 16∧(L→A7 v∧SL H'))∧K (v.ren (Bp m n k')) (AM (Bp m n k') H' ++ A5 H (if L then m else m ++ z))):AT M f us H n K:=by
 intro c e vs hI hD hcn ⟨hvs,hargs⟩
 subst hk
 have hp:=Pull.of hI m z
 have hI2:Inv M ⟨e.sim H m z,fun b=>∃ id,Ac H0 id=true∧(e.sim H m z).ρ id=b,m.length⟩ (e.sim H m z) H0:=hI.sim hm hz hH (.inr ⟨rfl,hall⟩)
 have hmD:∀ i ∈ m,e.D i:=fun i hi=>(hI.blk i (hall i hi)).1
 have hmn:∀ i ∈ m,i < n:=fun i hi=>Nat.lt_of_not_le (fun h=>hD i h (hmD i hi))
 refine (hr (e.sim H m z) vs hI2 ?_ ⟨hvs.trans (Ho hus).symm,fun t=>NO hp (HO hus t) (hargs t)⟩).mono ?_
 ·rintro id hid ⟨i,h1,_⟩
  have:=(List.getElem?_eq_some_iff.1 h1).1
  omega
 rintro en w' ⟨x,v,e2,H',k',rfl,rfl,hI',hv,hD',hkk,hQ⟩
 obtain ⟨⟨hk16,hL⟩,hKK⟩:=hK v H' k' hQ
 have hO:∀ b,(∃ id,Ac H0 id=true∧(e.sim H m z).ρ id=b)→∃ i ∈ m,e.ρ i=b:=by
  rintro b ⟨id,h1,h2⟩
  obtain ⟨i,k1,k2,_⟩:=Dn hH id h1
  exact ⟨i,List.mem_of_getElem? k1,by simpa [Env.sim,k1] using h2⟩
 have hsame:∀ b,b < e.w.heap.size→(∀ i ∈ m,e.ρ i ≠ b)→e2.w.heap[b]?=e.w.heap[b]?:=fun b hb hn =>
  hI'.ev.frame b hb (fun ho=>by obtain ⟨i,h1,h2⟩:=hO b ho;exact hn i h1 h2)
 have hsize:e.w.heap.size≤e2.w.heap.size:=hI'.ev.size
 let e' : Env := { ρ := fun i => if n ≤ i then e2.ρ (m.length + (i - n)) else e.ρ i
                   D:=fun i=>e.D i ∨ (n≤i∧e2.D (m.length + (i - n)))
                   im:=fun b=>if L then e.im b else e2.im b
                   w:=e2.w,φ:=e2.φ,τ:=e2.τ }
 have hφ:e2.φ=e.φ:=hI'.φ.trans hI.φ.symm
 have hτ:e2.τ=e.τ:=hI'.τ.trans hI.τ.symm
 have him2:∀ b,e.im b→e2.im b:=fun b hb=>hI'.keep b (.inl hb)
 have him':∀ b,e.im b→e'.im b:=fun b hb=>by
  show if L then _ else _
  split
  ·exact hb
  ·exact him2 b hb
 have him2':∀ b,e'.im b→e2.im b:=fun b hb=>by
  have hb:if L then e.im b else e2.im b:=hb
  split at hb
  ·exact him2 b hb
  ·exact hb
 have hρold:∀ i,e.D i→e'.ρ i=e.ρ i:=fun i hi=>by
  show (if n≤i then _ else _)=_
  rw [if_neg (fun h=>hD i h hi)]
 have hle:e.le e':=by
  refine ⟨fun i hi=>⟨.inl hi,hρold i hi⟩,fun b hb=>⟨him' b hb,fun cc el fz hc=>⟨el,fz,?_⟩,fun es ck hc=>?_⟩,hI'.ev.bs,hφ,hτ⟩
  ·show e2.w.heap[b]?=_
   rw [hsame b (hI.imlt b hb) (fun i hi he=>(hI.blk i (hall i hi)).2.2.1 (he ▸ hb))]
   exact hc
  ·show e2.w.heap[b]?=_
   rw [hsame b (hI.imlt b hb) (fun i hi he=>(hI.blk i (hall i hi)).2.2.1 (he ▸ hb))]
   exact hc
 have hpush:Push L (Bp m n k') e2 e':=by
  refine ⟨fun j hj=>?_,fun hnl b hb=>?_,rfl,rfl,rfl⟩
  ·have hjk:j < k':=Nat.lt_of_not_le (fun h=>hD' j h hj)
   have hg:=Ox (n:=n) hkk j hjk
   by_cases hjm:j < m.length
   ·rw [dif_pos hjm] at hg
    have hmj:=hmD m[j] (List.getElem_mem hjm)
    refine ⟨m[j],hg,.inl hmj,?_⟩
    rw [hρold _ hmj]
    have:=(hI'.low j hjm).2
    rw [this]
    simp [Env.sim,List.getElem?_eq_getElem hjm]
   ·rw [dif_neg hjm] at hg
    have e1:m.length + (n + (j - m.length) - n)=j:=Aa
    refine ⟨_,hg,.inr ⟨by omega,by rw [e1];exact hj⟩,?_⟩
    show (if _ then _ else _)=_
    rw [if_pos Aa,e1]
  ·show if L then _ else _
   rw [if_neg hnl];exact hb
 have hnd:(Bp m n k').Nodup:=KI hm hmn
 have hnew:∀ b,(∃ id,Ac H0 id=true∧(e.sim H m z).ρ id=b) ∨ (e.sim H m z).w.heap.size≤b→c.O b ∨ c.e0.w.heap.size≤b:=by
  rintro b (h | h)
  ·obtain ⟨i,h1,rfl⟩:=hO b h
   exact (hI.blk i (hall i h1)).2.2.2
  ·have h:e.w.heap.size≤b:=h
   have:=hI.ev.size
   exact .inr Aa
 have hold:∀ id,Ac (A5 H (if L then m else m ++ z)) id=true→Ac H id=true∧id ∉ m∧(¬ L→id ∉ z)∧hget (A5 H (if L then m else m ++ z)) id=hget H id:=by
  intro id hid
  rw [GE] at hid
  simp only [Zl,List.contains_eq_mem,decide_eq_false_iff_not] at hid
  refine ⟨hid.1,?_,?_,Hb _ _ _ hid.2⟩
  ·intro h';apply hid.2;split
   ·exact h'
   ·exact List.mem_append_left _ h'
  ·intro hnl h';apply hid.2;rw [if_neg hnl];exact List.mem_append_right _ h'
 have hrenb:∀ id,Ac (AM (Bp m n k') H') id=true→∃ j,Ac H' j=true∧e'.D id∧e'.ρ id=e2.ρ j∧(Bp m n k')[j]?=some id∧hget (AM (Bp m n k') H') id=(hget H' j).ren (Bp m n k'):=by
  intro id hid
  obtain ⟨j,h1,h2,h3⟩:=Hm hnd hid
  obtain ⟨i,k1,k2,k3⟩:=hpush.D j (hI'.blk j h2).1
  rw [h1] at k1
  simp only [Option.some.injEq] at k1
  subst k1
  exact ⟨j,h2,k2,k3,h1,h3⟩
 refine ⟨x,v.ren (Bp m n k'),e',AM (Bp m n k') H' ++ A5 H (if L then m else m ++ z),rfl,rfl,hle,?_,T2 hpush (fun hl=>(hL hl).1) hv,?_,hKK⟩
 ·have hblk:∀ id,Ac (AM (Bp m n k') H' ++ A5 H (if L then m else m ++ z)) id=true→(Ac (AM (Bp m n k') H') id=true∧hget (AM (Bp m n k') H' ++ A5 H (if L then m else m ++ z)) id=hget (AM (Bp m n k') H') id) ∨ (Ac (A5 H (if L then m else m ++ z)) id=true∧hget (AM (Bp m n k') H' ++ A5 H (if L then m else m ++ z)) id=hget (A5 H (if L then m else m ++ z)) id):=by
   intro id hid
   rw [B7] at hid
   cases hr':Ac (AM (Bp m n k') H') id with
   | true=>exact .inl ⟨rfl,CN hr'⟩
   | false=>rw [hr',Bool.false_or] at hid;exact .inr ⟨hid,Bs hr'⟩
  have hsep:∀ i j,Ac H i=true→i ∉ m→Ac H' j=true→e.ρ i ≠ e2.ρ j:=by
   intro i j hi him hj he
   rcases (hI'.blk j hj).2.2.2 with h | h
   ·obtain ⟨i',h1,h2⟩:=hO _ h
    exact him (by rw [hI.inj i i' hi (hall i' h1) (he.trans h2.symm)];exact h1)
   ·have h:e.w.heap.size≤e2.ρ j:=h
    have:=hI.rb i (hI.blk i hi).1
    omega
  refine ⟨?_,?_,?_,?_,?_,?_,fun b hb=>him' b (hI.keep b hb),?_,hI.gs.mono hle,hI'.φ,hI'.τ⟩
  ·exact hI.ev.trans hI'.ev (fun b hb=>by
    obtain ⟨i,h1,rfl⟩:=hO b hb
    rcases (hI.blk i (hall i h1)).2.2.2 with h | h
    ·exact .inl h
    ·exact .inr h)
  ·intro id hid
   rcases hblk id hid with ⟨h1,h2⟩ | ⟨h1,h2⟩
   ·obtain ⟨j,k1,k2,k3,k4,k5⟩:=hrenb id h1
    obtain ⟨q1,q2,q3,q4⟩:=hI'.blk j k1
    rw [h2,k5,k3]
    exact ⟨k2,KV hpush k3 (fun hl=>(hL hl).2 j k1) q2,fun h=>q3 (him2' _ h),hnew _ q4⟩
   ·obtain ⟨k1,k2,k3,k4⟩:=hold id h1
    obtain ⟨q1,q2,q3,q4⟩:=hI.blk id k1
    have hne:∀ i ∈ m,e.ρ i ≠ e.ρ id:=fun i hi he=>k2 (by rw [← hI.inj i id (hall i hi) k1 he];exact hi)
    rw [h2,k4,hρold id q1]
    refine ⟨.inl q1,Cd hle q1 (hsame _ (hI.rb id q1) hne) q2,?_,q4⟩
    intro h
    have h:if L then e.im (e.ρ id) else e2.im (e.ρ id):=h
    split at h
    ·exact q3 h
    ·rename_i hnl
     rcases hI'.imo _ h with h | h | h
     ·rcases h with h | ⟨i,hf,he⟩
      ·exact q3 h
      ·obtain ⟨f1,f2,_⟩:=ER hf
       rw [hI.inj id i k1 f2 he] at k3
       exact k3 hnl f1
     ·obtain ⟨i,h1,h2⟩:=hO _ h
      exact hne i h1 h2
     ·have h:e.w.heap.size≤e.ρ id:=h
      have:=hI.rb id q1
      omega
  ·intro i j hi hj hij
   rcases hblk i hi with ⟨h1,_⟩ | ⟨h1,_⟩ <;> rcases hblk j hj with ⟨h2,_⟩ | ⟨h2,_⟩
   ·obtain ⟨a,a1,_,a3,a4,_⟩:=hrenb i h1
    obtain ⟨b,b1,_,b3,b4,_⟩:=hrenb j h2
    rw [a3,b3] at hij
    have:=hI'.inj a b a1 b1 hij
    subst this
    rw [a4] at b4
    simpa using b4
   ·obtain ⟨a,a1,_,a3,_⟩:=hrenb i h1
    obtain ⟨b1,b2,_⟩:=hold j h2
    rw [a3,hρold j (hI.blk j b1).1] at hij
    exact absurd hij.symm (hsep j a b1 b2 a1)
   ·obtain ⟨a,a1,_,a3,_⟩:=hrenb j h2
    obtain ⟨b1,b2,_⟩:=hold i h1
    rw [a3,hρold i (hI.blk i b1).1] at hij
    exact absurd hij (hsep i a b1 b2 a1)
   ·obtain ⟨b1,_⟩:=hold i h1
    obtain ⟨b2,_⟩:=hold j h2
    rw [hρold i (hI.blk i b1).1,hρold j (hI.blk j b2).1] at hij
    exact hI.inj i j b1 b2 hij
  ·intro b hb
   have hb:if L then e.im b else e2.im b:=hb
   split at hb
   ·exact hI.imo b hb
   ·rcases hI'.imo b hb with h | h | h
    ·rcases h with h | ⟨i,hf,rfl⟩
     ·exact hI.imo b h
     ·exact .inr (hI.blk i (ER hf).2.1).2.2.2
    ·exact .inr (hnew b (.inl h))
    ·exact .inr (hnew b (.inr h))
  ·intro b hb
   exact hI'.imb b (him2' b hb)
  ·intro id hid
   rcases hid with hid | ⟨h1,h2⟩
   ·rw [hρold id hid]
    have:=hI.rb id hid
    show e.ρ id < e2.w.heap.size
    omega
   ·show (if n≤id then _ else _) < _
    rw [if_pos h1]
    exact hI'.rb _ h2
  ·intro id hid
   obtain ⟨h1,h2⟩:=hI.low id hid
   exact ⟨.inl h1,(hρold id h1).trans h2⟩
 ·rintro id (h | ⟨h1,h2⟩)
  ·exact .inl h
  ·refine .inr ⟨h1,?_⟩
   have:=Nat.lt_of_not_le (fun h=>hD' _ h h2)
   omega
end Mv
