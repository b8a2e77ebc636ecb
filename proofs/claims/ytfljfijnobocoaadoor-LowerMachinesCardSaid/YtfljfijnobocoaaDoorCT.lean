/- A part. -/
import Derived.Test.YtfljfijnobocoaaDoorCS
set_option linter.all false
namespace Mv
open Go
variable {M:Seat}
def Bd (H:Hp) (m z:List Nat):List V→List V→Prop
 | [],[]=>True
 | v :: r,u :: r'=>Bi H m z v u∧Bd H m z r r'
 | _,_=>False
def Br (H:Hp) (m z:List Nat):Hp→Prop
 | []=>True
 | (j,v) :: r=>(match m[j]? with | some i=>Af H i=true∧Az H m z v (hget H i) | none=>False)∧Br H m z r
theorem Gf {H:Hp} {m z:List Nat}:∀ {A B:List V},Bd H m z A B→A.length=B.length
 | [],[],_=>rfl
 | _ :: r,_ :: r',h=>by simp only [Bd] at h;simp [Gf h.2]
 | [],_ :: _,h=>by simp [Bd] at h
 | _ :: _,[],h=>by simp [Bd] at h
theorem Gc {H:Hp} {m z:List Nat}:∀ {A B:List V},Bd H m z A B→∀ t,Bi H m z (A.getD t .junk) (B.getD t .junk)
 | [],[],_,t=>by simp [Bi]
 | _ :: r, _ :: r', h, t => by
   simp only [Bd] at h
   cases t with
   | zero=>simpa using h.1
   | succ t=>simpa using Gc h.2 t
 | [],_ :: _,h,_=>by simp [Bd] at h
 | _ :: _,[],h,_=>by simp [Bd] at h
theorem Cw {H:Hp} {m z:List Nat}:∀ {H':Hp},Br H m z H'→∀ j,Af H' j=true→∃ i,m[j]?=some i∧Af H i=true∧Az H m z (hget H' j) (hget H i)
 | [],_,j,hj=>by simp [Af] at hj
 | (k, v) :: r, h, j, hj => by
   simp only [Br] at h
   by_cases hkj:k=j
   ·subst hkj
    obtain ⟨h1,_⟩:=h
    split at h1
    ·rename_i i hi
     exact ⟨i,hi,h1.1,by simpa [hget] using h1.2⟩
    ·exact h1.elim
   ·have hj':Af r j=true:=by
     simp only [Pi,beq_iff_eq] at hj
     exact hj.resolve_left hkj
    obtain ⟨i,h1,h2,h3⟩:=Cw h.2 j hj'
    exact ⟨i,h1,h2,by simpa [hget,hkj] using h3⟩
def Env.sim (e:Env) (H:Hp) (m z:List Nat):Env :=
 { ρ := fun j => match m[j]? with | some i => e.ρ i | none => 0
   D:=fun j=>∃ i,m[j]?=some i∧e.D i
   im:=fun b=>e.im b ∨ ∃ i,Ame H z i=true∧b=e.ρ i
   w:=e.w,φ:=e.φ,τ:=e.τ }
theorem Ana {H:Hp} {z:List Nat} {i:Nat} (h:Sj H z i=true):i ∈ z∧Af H i=true∧(hget H i).solid=true:=by
 simp only [Sj,Bool.and_eq_true,List.contains_iff_mem] at h
 exact ⟨h.1.1,h.1.2,h.2⟩
theorem Es {H:Hp} {z:List Nat} {i:Nat} (h:Ame H z i=true):i ∈ z∧Af H i=true∧True:=by
 simp only [Ame,Sj,Amf,Bool.or_eq_true,Bool.and_eq_true,List.contains_iff_mem] at h
 rcases h with h | h
 ·exact ⟨h.1.1,h.1.2,trivial⟩
 ·exact ⟨h.1.1,h.1.2,trivial⟩
theorem Al3 {H:Hp} {z:List Nat} {i:Nat} (h:Amf H z i=true):∃ n ks vs,hget H i = .mp n ks vs:=by
 simp only [Amf,Bool.and_eq_true] at h
 cases hg:hget H i with
 | mp n ks vs=>exact ⟨n,ks,vs,rfl⟩
 | _=>rw [hg] at h;exact absurd h.2 (by simp [V.isMp])
theorem Pull.of {c:Ctx} {e:Env} {H:Hp} (hI:Inv M c e H) (m z:List Nat):Pull H m z e (e.sim H m z) where
 D j i hj hd:=⟨⟨i,hj,hd⟩,by simp [Env.sim,hj]⟩
 im b hb:=.inl hb
 fz i hi:=by
  obtain ⟨_,h1,h2⟩:=Ana hi
  obtain ⟨cells,el,h3,h4,h5⟩:=hI.cells h1 h2
  exact ⟨.inr ⟨i,by simp [Ame,hi],rfl⟩,cells,el,h3,h4,h5⟩
 fm i hi:=by
  have hi':Ame H z i=true:=by simp [Ame,hi]
  obtain ⟨_,h1,_⟩:=Es hi'
  exact ⟨.inr ⟨i,hi',rfl⟩,(hI.blk i h1).2.1⟩
 w:=rfl
 φ:=rfl
 τ:=rfl
theorem Qw (H:Hp) (m z:List Nat):∀ g,Az H m z (Sa g) (Sa g)
 | 0=>rfl
 | 1=>⟨⟨rfl,rfl⟩,fun _ _=>rfl⟩
 | 2=>⟨⟨rfl,rfl⟩,fun _ _=>rfl⟩
 | 3=>⟨⟨rfl,rfl⟩,fun _ _=>rfl⟩
 | _ + 4=>rfl
theorem KJ {H:Hp} {m z:List Nat} {e e2:Env} (hp:Pull H m z e e2) {i j:Nat} (hρ:e2.ρ j=e.ρ i) {v u:V} (hs:Az H m z v u) (h:D8 e i u):D8 e2 j v:=by
 cases v
 case mp n ks vs =>
  cases u <;> simp only [Az] at hs
  obtain ⟨rfl,hs⟩:=hs
  obtain ⟨es,clock,h1,h2,h3⟩:=h
  refine ⟨es,clock,by rw [hρ,hp.w];exact h1,h2,fun i x hx=>?_⟩
  have hi:i < es.size:=(Array.getElem?_eq_some_iff.1 hx).1
  obtain ⟨k1,k2⟩:=hs i Aa
  obtain ⟨⟨q1,q2⟩,q3,q4⟩:=h3 i x hx
  exact ⟨⟨by rw [Cb k1];exact q1,Mb hp k1 q2⟩,by rw [Cb k2];exact q3,Mb hp k2 q4⟩
 case tup fs =>
  cases u <;> simp only [Az] at hs
  rename_i fs'
  cases fs'
  case fm=>cases fs <;> first | (simp [Az] at hs;done) | trivial
  case map k =>
   cases fs <;> first | (simp [Az] at hs;done) | skip
   case fm=>trivial
   simp only [Az] at hs
   obtain ⟨hk,since,seen,last,h1⟩:=h
   obtain ⟨a1,a2⟩:=hp.D _ _ hs hk
   exact ⟨a1,since,seen,last,by rw [hρ,hp.w,a2];exact h1⟩
  all_goals exact absurd (show false=true from h.1) Am
 all_goals
  have hsol:=Cb hs
  have hsz:=Do hs
  have hu:u.solid=true:=by
   cases u
   case mp=>simp [Az] at hs
   case tup=>simp [Az] at hs
   all_goals exact h.1
  obtain ⟨cells,el,h1,h2,h3⟩:=(BZ hu).1 h
  refine (BZ (by rw [hsol];exact hu)).2 ⟨cells,el,by rw [hρ,hp.w];exact h1,by rw [hsz];exact h2,?_⟩
  rw [hsz]
  exact CW hp hs h3
theorem getElem?_nodup {m:List Nat} (hm:m.Nodup) {i j a:Nat} (hi:m[i]?=some a) (hj:m[j]?=some a):i=j:=by
 obtain ⟨h1,h2⟩:=List.getElem?_eq_some_iff.1 hi
 obtain ⟨h3,h4⟩:=List.getElem?_eq_some_iff.1 hj
 have e1:=hm.idxOf_getElem i h1
 have e2:=hm.idxOf_getElem j h3
 rw [h2] at e1
 rw [h4] at e2
 exact e1.symm.trans e2
theorem Inv.sim {c c':Ctx} {e:Env} {H:Hp} (hI:Inv M c e H) {m z:List Nat} (hm:m.Nodup) (hz:∀ i ∈ z,i ∉ m) {H':Hp} (hH:Br H m z H')
 (hc:(c'=c∧∀ j,j < c.k→m[j]?=some j) ∨ (c'=⟨e.sim H m z,fun b=>∃ id,Af H' id=true∧(e.sim H m z).ρ id=b,m.length⟩∧∀ i ∈ m,Af H i=true)):Inv M c' (e.sim H m z) H':=by
 have hp:=Pull.of hI m z
 have hblk:∀ j,Af H' j=true→(e.sim H m z).D j∧D8 (e.sim H m z) j (hget H' j)∧¬ (e.sim H m z).im ((e.sim H m z).ρ j)∧(c.O ((e.sim H m z).ρ j) ∨ c.e0.w.heap.size≤(e.sim H m z).ρ j):=by
  intro j hj
  obtain ⟨i,h1,h2,h3⟩:=Cw hH j hj
  obtain ⟨k1,k2,k3,k4⟩:=hI.blk i h2
  have hρ:(e.sim H m z).ρ j=e.ρ i:=by simp [Env.sim,h1]
  refine ⟨⟨i,h1,k1⟩,KJ hp hρ h3 k2,?_,?_⟩
  ·rw [hρ]
   rintro (h | ⟨i',hf,he⟩)
   ·exact k3 h
   ·obtain ⟨f1,f2,_⟩:=Es hf
    have:=hI.inj i i' h2 f2 he
    subst this
    exact hz _ f1 (List.mem_of_getElem? h1)
  ·rw [hρ];exact k4
 have hinj:∀ i j,Af H' i=true→Af H' j=true→(e.sim H m z).ρ i=(e.sim H m z).ρ j→i=j:=by
  intro i j hi hj hij
  obtain ⟨i',h1,h2,_⟩:=Cw hH i hi
  obtain ⟨j',h3,h4,_⟩:=Cw hH j hj
  simp only [Env.sim,h1,h3] at hij
  have:=hI.inj i' j' h2 h4 hij
  subst this
  exact getElem?_nodup hm h1 h3
 have himo:∀ b,(e.sim H m z).im b→c.e0.im b ∨ c.O b ∨ c.e0.w.heap.size≤b:=by
  rintro b (h | ⟨i,hf,rfl⟩)
  ·exact hI.imo b h
  ·exact .inr (hI.blk i (Es hf).2.1).2.2.2
 have himb:∀ b,(e.sim H m z).im b→(∃ cells el fz,(e.sim H m z).w.heap[b]?=some (.cells cells el fz)) ∨ ∃ es ck,(e.sim H m z).w.heap[b]?=some (.map es ck):=by
  rintro b (h | ⟨i,hf,rfl⟩)
  ·exact hI.imb b h
  ·rcases (Bool.or_eq_true _ _).mp hf with hf | hf
   ·obtain ⟨_,cells,el,h1,_⟩:=hp.fz i hf
    exact .inl ⟨cells,el,_,h1⟩
   ·obtain ⟨_,h1⟩:=hp.fm i hf
    obtain ⟨n,ks,vs,hg⟩:=Al3 hf
    rw [hg] at h1
    obtain ⟨es,ck,h2,_⟩:=h1
    exact .inr ⟨es,ck,h2⟩
 have hrb:∀ id,(e.sim H m z).D id→(e.sim H m z).ρ id < (e.sim H m z).w.heap.size:=by
  rintro id ⟨i,h1,h2⟩
  simp only [Env.sim,h1]
  exact hI.rb i h2
 have hgs:GS M (e.sim H m z):=⟨fun g hg =>
  CW hp (show Az H m z (.imm (Sa g)) (.imm (Sa g)) from Qw H m z g) (hI.gs.1 g hg),fun p hp'=>⟨.inl (hI.gs.2 p hp').1,(hI.gs.2 p hp').2⟩⟩
 rcases hc with ⟨rfl,hlow⟩ | ⟨rfl,hall⟩
 ·refine ⟨hI.ev,hblk,hinj,himo,himb,hrb,fun b hb=>.inl (hI.keep b hb),fun id hid=>?_,hgs,hI.φ,hI.τ⟩
  obtain ⟨h1,h2⟩:=hI.low id hid
  exact ⟨⟨id,hlow id hid,h1⟩,by simp only [Env.sim,hlow id hid];exact h2⟩
 ·refine ⟨Ev.refl _ _,fun j hj=>⟨(hblk j hj).1,(hblk j hj).2.1,(hblk j hj).2.2.1,.inl ⟨j,hj,rfl⟩⟩,hinj,fun b hb=>.inl hb,himb,hrb,fun b hb=>hb,fun id hid=>⟨?_,rfl⟩,hgs,hI.φ,hI.τ⟩
  have hid':id < m.length:=hid
  exact ⟨m[id],List.getElem?_eq_getElem hid',(hI.blk _ (hall _ (List.getElem_mem hid'))).1⟩
theorem Ao.sim {c:Ctx} {A:List V} {H:Hp} {N:Nat} (m z:List Nat) {A':List V} {H':Hp} {N':Nat} (hm:m.Nodup) (hz:∀ i ∈ z,i ∉ m) (hN:m.length≤N') (hk:c.k≤N') (hlow:∀ j,j < c.k→m[j]?=some j)
 (hA:Bd H m z A' A) (hH:Br H m z H'):Ao M c A H N A' H' N':=by
 rintro a w ⟨e,rfl,hI,hF,hD,hk',hdef⟩
 refine ⟨e.sim H m z,rfl,hI.sim hm hz hH (.inl ⟨rfl,hlow⟩),⟨hF.len.trans (Gf hA).symm,fun t=>Lh (Pull.of hI m z) (Gc hA t) (hF.val t)⟩,?_,hk,hdef⟩
 rintro id hid ⟨i,h1,_⟩
 have:=(List.getElem?_eq_some_iff.1 h1).1
 omega
def Adh:V:=.mp 0 (fun _=>.junk) (fun _=>.junk)
def V.ren (m:List Nat):V→V
 | .ptr j p=>(match m[j]? with | some i=>.ptr i p | none=>Adh)
 | .map j=>(match m[j]? with | some i=>.map i | none=>Adh)
 | .sl j p o n sz=>(match m[j]? with | some i=>.sl i p o n sz | none=>Adh)
 | .imm v=>.imm (v.ren m)
 | .lst sz n f=>.lst sz n (fun i=>(f i).ren m)
 | .fn f c=>.fn f (c.ren m)
 | .ifc t v=>.ifc t (v.ren m)
 | .st n fs=>.st n (fs.ren m)
 | .ar sz n f=>.ar sz n (fun i=>(f i).ren m)
 | .fcons o v r=>.fcons o (v.ren m) (r.ren m)
 | .tup fs=>.tup (fs.ren m)
 | .mp n ks vs=>.mp n (fun i=>(ks i).ren m) (fun i=>(vs i).ren m)
 | .fm n ks vs=>.fm n (fun i=>(ks i).ren m) (fun i=>(vs i).ren m)
 | v=>v
theorem DS (m:List Nat) (v:V):(v.ren m).size=v.size:=by
 cases v <;> simp only [V.ren] <;> first | rfl | (split <;> rfl)
theorem Q1 (m:List Nat) (v:V):(v.ren m).isAgg=v.isAgg:=by
 cases v <;> simp only [V.ren] <;> first | rfl | (split <;> rfl)
theorem KF (m:List Nat) (v:V):(v.ren m).chain=v.chain:=by
 cases v <;> simp only [V.ren] <;> first | rfl | (split <;> rfl)
theorem YB (m:List Nat) (d:Nat) (v:V):(v.ren m).flo d=v.flo d:=by
 cases v <;> simp only [V.ren] <;> first | rfl | (split <;> rfl)
def AC:V→Prop
 | .imm _=>False
 | .lst ..=>False
 | .fn _ c=>AC c
 | .ifc _ v=>AC v
 | .st _ fs=>AC fs
 | .ar _ n f=>∀ i,i < n→AC (f i)
 | .fcons _ v r=>AC v∧AC r
 | .tup fs=>AC fs
 | .mp n ks vs=>∀ i,i < n→AC (ks i)∧AC (vs i)
 | .fm ..=>False
 | _=>True
structure Push (L:Prop) (m:List Nat) (e2 e:Env):Prop where
 D:∀ j,e2.D j→∃ i,m[j]?=some i∧e.D i∧e.ρ i=e2.ρ j
 im:¬ L→∀ b,e2.im b→e.im b
 w:e.w=e2.w
 φ:e.φ=e2.φ
 τ:e.τ=e2.τ
theorem Ci {L:Prop} {m:List Nat} {e2 e:Env} (hp:Push L m e2 e):∀ {v:V} {cs:List Value},(L→AC v)→R e2 v cs→R e (v.ren m) cs∧(v.solid=true→(v.ren m).solid=true)
 | .junk,_,_,h=>⟨h,fun h=>h⟩
 | .int _ _,_,_,h=>⟨h,fun h=>h⟩
 | .bool _,_,_,h=>⟨h,fun h=>h⟩
 | .str _,_,_,h=>⟨h,fun h=>h⟩
 | .nilp,_,_,h=>⟨h,fun h=>h⟩
 | .nils,_,_,h=>⟨h,fun h=>h⟩
 | .nilm,_,_,h=>⟨h,fun h=>h⟩
 | .nilf,_,_,h=>⟨h,fun h=>h⟩
 | .nili,_,_,h=>⟨h,fun h=>h⟩
 | .fnil,_,_,h=>⟨h,fun h=>h⟩
 | .ptr j p, cs, _, h => by
   simp only [R] at h
   obtain ⟨i,h1,h2,h3⟩:=hp.D j h.1
   simp only [V.ren,h1,R,h3]
   exact ⟨⟨h2,h.2⟩,fun _=>rfl⟩
 | .map j, cs, _, h => by
   simp only [R] at h
   obtain ⟨i,h1,h2,h3⟩:=hp.D j h.1
   simp only [V.ren,h1,R,h3]
   exact ⟨⟨h2,h.2⟩,fun _=>rfl⟩
 | .sl j p o n sz, cs, _, h => by
   simp only [R] at h
   obtain ⟨i,h1,h2,h3⟩:=hp.D j h.1
   simp only [V.ren,h1,R,h3,hp.w]
   exact ⟨⟨h2,h.2⟩,fun _=>rfl⟩
 | .imm v, cs, hL, h => by
   have hnL:¬ L:=fun hl=>(hL hl:AC (.imm v)).elim
   simp only [R] at h
   obtain ⟨b,o,c,el,fz,h1,h2,h3,h4,h5⟩:=h
   simp only [V.ren,R,DS,hp.w]
   exact ⟨⟨b,o,c,el,fz,h1,hp.im hnL b h2,h3,h4,(Ci hp (fun hl=>(hnL hl).elim) h5).1⟩,fun _=>rfl⟩
 | .lst sz n f, cs, hL, h => by
   have hnL:¬ L:=fun hl=>(hL hl:AC (.lst sz n f)).elim
   simp only [R] at h
   obtain ⟨a,cap,h1,h2,h3⟩:=h
   simp only [V.ren,R,DS,hp.w]
   refine ⟨⟨a,cap,h1,h2,fun h0=>?_⟩,fun _=>rfl⟩
   obtain ⟨b,o,c,el,fz,k1,k2,k3,k4,k5⟩:=h3 h0
   refine ⟨b,o,c,el,fz,k1,hp.im hnL b k2,k3,k4,fun i hi=>?_⟩
   obtain ⟨q1,q2⟩:=Ci hp (fun hl=>(hnL hl).elim) (k5 i hi).2
   exact ⟨⟨q2 (k5 i hi).1.1,(k5 i hi).1.2⟩,q1⟩
 | .fn f c, cs, hL, h => by
   simp only [R] at h
   obtain ⟨xs,h1,h2⟩:=h
   simp only [V.ren,R,hp.φ]
   exact ⟨⟨xs,h1,(Ci (v:=c) hp hL h2).1⟩,fun _=>rfl⟩
 | .ifc t v, cs, hL, h => by
   simp only [R] at h
   obtain ⟨x,h1,h2,h3⟩:=h
   simp only [V.ren,R,hp.τ,Q1]
   refine ⟨⟨x,h1,?_,?_⟩,fun _=>rfl⟩
   ·split at h3
    ·obtain ⟨c,k1,k2⟩:=h3;exact (Ci (v:=v) hp hL k2).2 h2
    ·exact (Ci (v:=v) hp hL h3).2 h2
   ·split at h3
    ·obtain ⟨c,k1,k2⟩:=h3;exact ⟨c,k1,(Ci (v:=v) hp hL k2).1⟩
    ·exact (Ci (v:=v) hp hL h3).1
 | .st n fs, cs, hL, h => by
   simp only [R] at h
   simp only [V.ren,R,KF]
   exact ⟨⟨h.1,h.2.1,(Ci (v:=fs) hp hL h.2.2).1⟩,fun _=>rfl⟩
 | .ar sz n f, cs, hL, h => by
   simp only [R] at h
   simp only [V.ren,R,DS]
   refine ⟨⟨h.1,fun i hi=>?_⟩,fun _=>rfl⟩
   obtain ⟨q1,q2⟩:=Ci hp (fun hl=>(hL hl:∀ i,i < n→AC (f i)) i hi) (h.2 i hi).2
   exact ⟨⟨q2 (h.2 i hi).1.1,(h.2 i hi).1.2⟩,q1⟩
 | .fcons o v r, cs, hL, h => by
   simp only [R] at h
   simp only [V.ren,R,DS,KF,YB]
   exact ⟨⟨h.1,h.2.1,h.2.2.1,(Ci hp (fun hl=>(hL hl:AC v∧AC r).1) h.2.2.2.1).1,(Ci hp (fun hl=>(hL hl:AC v∧AC r).2) h.2.2.2.2).1⟩,fun hf=>by simp [V.solid] at hf⟩
 | .tup fs,cs,_,h=>by simp only [R] at h
 | .mp n ks vs,cs,_,h=>by simp only [R] at h
 | .fm n ks vs, cs, hL, h => by
   have hnL:¬ L:=fun hl=>(hL hl:AC (.fm n ks vs)).elim
   simp only [R] at h
   obtain ⟨b,es,ck,hc,hi,hb,hn,hx⟩:=h
   simp only [V.ren,R,Q1,hp.w]
   refine ⟨⟨b,es,ck,hc,hp.im hnL b hi,hb,hn,fun i x hix=>?_⟩,fun _=>rfl⟩
   obtain ⟨⟨q1,q2⟩,q3,q4⟩:=hx i x hix
   refine ⟨⟨?_,?_⟩,?_,?_⟩
   ·split at q2
    ·obtain ⟨c,k1,k2⟩:=q2;exact (Ci (v:=ks i) hp (fun hl=>(hnL hl).elim) k2).2 q1
    ·exact (Ci (v:=ks i) hp (fun hl=>(hnL hl).elim) q2).2 q1
   ·split at q2
    ·obtain ⟨c,k1,k2⟩:=q2;exact ⟨c,k1,(Ci (v:=ks i) hp (fun hl=>(hnL hl).elim) k2).1⟩
    ·exact (Ci (v:=ks i) hp (fun hl=>(hnL hl).elim) q2).1
   ·split at q4
    ·obtain ⟨c,k1,k2⟩:=q4;exact (Ci (v:=vs i) hp (fun hl=>(hnL hl).elim) k2).2 q3
    ·exact (Ci (v:=vs i) hp (fun hl=>(hnL hl).elim) q4).2 q3
   ·split at q4
    ·obtain ⟨c,k1,k2⟩:=q4;exact ⟨c,k1,(Ci (v:=vs i) hp (fun hl=>(hnL hl).elim) k2).1⟩
    ·exact (Ci (v:=vs i) hp (fun hl=>(hnL hl).elim) q4).1
theorem HU {L:Prop} {m:List Nat} {e2 e:Env} (hp:Push L m e2 e) {v:V} {x:Value} (hL:L→AC v) (hs:v.solid=true) (h:RS e2 v x):RS e (v.ren m) x∧(v.ren m).solid=true:=by
 unfold RS at *
 rw [Q1]
 split
 ·rename_i ha;simp only [ha] at h;obtain ⟨c,h1,h2⟩:=h;exact ⟨⟨c,h1,(Ci hp hL h2).1⟩,(Ci hp hL h2).2 hs⟩
 ·rename_i ha;simp only [ha] at h;exact ⟨(Ci hp hL h).1,(Ci hp hL h).2 hs⟩
theorem Qu {L:Prop} {m:List Nat} {e2 e:Env} (hp:Push L m e2 e):∀ {v:V} {xs:Array Value},(L→AC v)→RT e2 v xs→RT e (v.ren m) xs
 | .fcons i v r, xs, hL, h => by
   simp only [RT] at h
   simp only [V.ren,RT]
   obtain ⟨⟨h0,y,h1,h2⟩,h3⟩:=h
   obtain ⟨q1,q2⟩:=HU hp (fun hl=>(hL hl:AC v∧AC r).1) h0 h2
   exact ⟨⟨q2,y,h1,q1⟩,Qu hp (fun hl=>(hL hl:AC v∧AC r).2) h3⟩
 | .ptr j p,_,_,_ | .map j,_,_,_ | .sl j p o n sz,_,_,_=>by simp only [V.ren];split <;> trivial
 | .junk,_,_,_ | .int ..,_,_,_ | .bool _,_,_,_ | .str _,_,_,_ | .nilp,_,_,_ | .imm _,_,_,_ | .nils,_,_,_ | .lst ..,_,_,_ | .nilm,_,_,_ | .nilf,_,_,_ | .fn ..,_,_,_ | .nili,_,_,_ | .ifc ..,_,_,_ | .st ..,_,_,_ | .ar ..,_,_,_ | .fnil,_,_,_ | .tup _,_,_,_ | .mp ..,_,_,_ | .fm ..,_,_,_=>trivial
theorem Ql {L:Prop} {m:List Nat} {e2 e:Env} (hp:Push L m e2 e) {v:V} {x:Value} (hL:L→AC v) (h:RV e2 v x):RV e (v.ren m) x:=by
 by_cases hs:v.solid=true
 ·rw [AI hs] at h
  obtain ⟨h1,h2⟩:=HU hp hL hs h
  rw [AI h2];exact h1
 ·cases v <;> simp only [V.solid,not_true_eq_false] at hs
  case junk=>trivial
  case tup fs =>
   obtain ⟨xs,h1,h2⟩:=h
   exact ⟨xs,h1,Qu hp hL h2⟩
  all_goals exact (h:False).elim
theorem Jo {L:Prop} {m:List Nat} {e2 e:Env} (hp:Push L m e2 e) {i j:Nat} (hρ:e.ρ i=e2.ρ j) {v:V} (hL:L→AC v) (h:D8 e2 j v):D8 e i (v.ren m):=by
 by_cases hs:v.solid=true
 ·obtain ⟨cells,el,h1,h2,h3⟩:=(BZ hs).1 h
  obtain ⟨q1,q2⟩:=Ci hp hL h3
  refine (BZ (q2 hs)).2 ⟨cells,el,by rw [hρ,hp.w];exact h1,by rw [DS];exact h2,?_⟩
  rw [DS];exact q1
 ·cases v
  case mp n ks vs =>
   obtain ⟨es,clock,h1,h2,h3⟩:=h
   refine ⟨es,clock,by rw [hρ,hp.w];exact h1,h2,fun i x hx=>?_⟩
   have hi:i < es.size:=(Array.getElem?_eq_some_iff.1 hx).1
   obtain ⟨⟨q1,q2⟩,q3,q4⟩:=h3 i x hx
   obtain ⟨a1,a2⟩:=HU hp (fun hl=>((hL hl:∀ i,i < n→AC (ks i)∧AC (vs i)) i Aa).1) q1 q2
   obtain ⟨b1,b2⟩:=HU hp (fun hl=>((hL hl:∀ i,i < n→AC (ks i)∧AC (vs i)) i Aa).2) q3 q4
   exact ⟨⟨a2,a1⟩,b2,b1⟩
  case tup fs =>
   cases fs
   case map j =>
    obtain ⟨hj,since,seen,last,h1⟩:=h
    obtain ⟨i',k1,k2,k3⟩:=hp.D j hj
    have hr:(V.tup (.map j)).ren m = .tup (.map i'):=by simp [V.ren,k1]
    rw [hr]
    exact ⟨k2,since,seen,last,by rw [hρ,hp.w,k3];exact h1⟩
   case fm=>trivial
   all_goals exact absurd (show false=true from h.1) Am
  all_goals exact absurd h.1 hs
end Mv
