/- A part. -/
import Derived.Test.YtlfkjfonpacelaaGreatDoorII
set_option linter.all false
namespace Mv
open Go
def bs (N m p:Nat) (k:LK):Nat:=N + 16 * (if k.isW then m + p else p)
def hx (al:List (Nat × Nat × V)) (P bf:Nat) (E:Hp):Hp:=(al.filter (fun q=>decide (P≤q.1) && bf.testBit q.1)).map (·.2) ++ E
def G0 (A:List V) (b:Nat) (o:LO) (v:V) (wm bf:Nat) (al:List (Nat × Nat × V)):List (Nat × Hp)→Prop
 | []=>True
 | (P,E) :: r=>(bif (bf &&& wm) >>> P == 0 then ((Af A (hx al P bf E) b o).pre∧(Af A (hx al P bf E) b o).v=v) else True)∧G0 A b o v wm bf al r
def X8 (A:List V) (b:Nat) (k:LK) (v:V) (wm bf:Nat) (al:List (Nat × Nat × V)) (bd:List (Nat × Hp)):Prop :=
 match k with
 | .lo o=>bif k.isP || k.isW then True else G0 A b o v wm bf al bd
 | _=>True
def Es (lo hi:Nat):Hp→Prop
 | []=>True
 | (i,_) :: r=>(i < lo ∨ hi≤i)∧Es lo hi r
def Br (M:Seat) (A:List V) (H:Hp) (b:Nat) (k:LK) (C:V→Hp→Prop):Prop :=
 match k with
 | .lo o=>(Af A H b o).pre∧C (Af A H b o).v (Af A H b o).H
 | .call f xs=>∃ v H',Bg M f (xs.map (X.ev A)) H b (fun v' H''=>v'=v∧H''=H')∧C v H'
 | .dyn x xs=>∃ v H',Fl M (x.ev A) (xs.map (X.ev A)) H b (fun v' H''=>v'=v∧H''=H')∧C v H'
def Bd (M:Seat) (K:List V→Hp→Prop) (m N wm:Nat):List DOp→Nat→List V→Hp→List (Nat × Hp)→List (Nat × Nat × V)→Prop
 | [],_,A,H,_,_=>K A H
 | ⟨_, bf, ⟨d, k, none⟩⟩ :: r, p, A, H, bd, al =>
   Br M A H (bs N m p k) k (fun v H'=>(X8 A (bs N m p k) k v wm bf al bd∧(bif k.isW then Es (N + 16 * p) (N + 16 * m) H' else True)) ∧
    Bd M K m N wm r (p + 1) (put A d v) H' (bif k.isW then (p + 1,H') :: bd else bd) (bif k.isA then (p,bs N m p k,hget H' (bs N m p k)) :: al else al))
 | ⟨_, bf, ⟨d, k, some (t, b0)⟩⟩ :: r, p, A, H, bd, al =>
   match A.getD t .junk with
   | .bool b'=>(b'=b0→Br M A H (bs N m p k) k (fun v H'=>(X8 A (bs N m p k) k v wm bf al bd∧(bif k.isW then Es (N + 16 * p) (N + 16 * m) H' else True)) ∧
    Bd M K m N wm r (p + 1) (put A d v) H' (bif k.isW then (p + 1,H') :: bd else bd) (bif k.isA then (p,bs N m p k,hget H' (bs N m p k)) :: al else al))) ∧
    (b' = !b0→Bd M K m N wm r (p + 1) (put A d (.tup .fnil)) H (bif k.isW then (p + 1,H) :: bd else bd) al)
   | .tup _=>Bd M K m N wm r (p + 1) (put A d (.tup .fnil)) H (bif k.isW then (p + 1,H) :: bd else bd) al
   | _=>False
structure Pl where
 A:Nat→List V
 H:Nat→Hp
 x:Nat→Bool
 v:Nat→V
def H4 (L:List DOp) (p:Nat):LOp:=((L[p]?).map (·.o)).getD ⟨none,.lo (.mv (.c .junk)),none⟩
def DW (L:List DOp) (p:Nat):LK:=(H4 L p).k
def Ke (L:List DOp) (p:Nat):Option Nat:=(H4 L p).d
def CV (L:List DOp) (N:Nat) (F:Pl):Nat→List (Nat × Nat × V)
 | 0=>[]
 | p + 1=>bif (DW L p).isA && F.x p then (p,bs N L.length p (DW L p),hget (F.H (p + 1)) (bs N L.length p (DW L p))) :: CV L N F p else CV L N F p
def DH (L:List DOp) (F:Pl):Nat→List (Nat × Hp)
 | 0=>[(0,F.H 0)]
 | p + 1=>bif (DW L p).isW then (p + 1,F.H (p + 1)) :: DH L F p else DH L F p
structure PlanAt (M:Seat) (L:List DOp) (N wm:Nat) (F:Pl) (p:Nat):Prop where
 g:match (H4 L p).g with
  | none=>F.x p=true
  | some (t, b0) => match (F.A p).getD t .junk with
    | .bool b'=>F.x p=(b' == b0)
    | .tup _=>F.x p=false
    | _=>False
 run:F.x p=true→Br M (F.A p) (F.H p) (bs N L.length p (DW L p)) (DW L p) (fun v H'=>v=F.v p∧H'=F.H (p + 1)) ∧
  X8 (F.A p) (bs N L.length p (DW L p)) (DW L p) (F.v p) wm (CL L p) (CV L N F p) (DH L F p)∧(bif (DW L p).isW then Es (N + 16 * p) (N + 16 * L.length) (F.H (p + 1)) else True)
 skip:F.x p=false→F.v p = .tup .fnil∧F.H (p + 1)=F.H p
 next:F.A (p + 1)=put (F.A p) (Ke L p) (F.v p)
structure Same (F G:Pl) (p:Nat):Prop where
 A:∀ i,i≤p→G.A i=F.A i
 H:∀ i,i≤p→G.H i=F.H i
 x:∀ i,i < p→G.x i=F.x i
 v:∀ i,i < p→G.v i=F.v i
theorem Fr {L:List DOp} {N:Nat} {F G:Pl}:∀ {p q:Nat},Same F G q→p≤q→CV L N G p=CV L N F p
 | 0,_,_,_=>rfl
 | p + 1,q,h,hq=>by simp only [CV,h.x p Aa,h.H (p + 1) hq,Fr h (by omega:p≤q)]
theorem Fq {L:List DOp} {F G:Pl}:∀ {p q:Nat},Same F G q→p≤q→DH L G p=DH L F p
 | 0,_,h,_=>by simp only [DH,h.H 0 Aa]
 | p + 1,q,h,hq=>by simp only [DH,h.H (p + 1) hq,Fq h (by omega:p≤q)]
theorem PlanAt.same {M:Seat} {L:List DOp} {N wm:Nat} {F G:Pl} {p:Nat} (h:Same F G (p + 1)) (hp:PlanAt M L N wm F p):PlanAt M L N wm G p:=by
 obtain ⟨h1,h2,h3,h4⟩:=hp;have e1:=h.A p Aa;have e2:=h.H p Aa;have e3:=h.A (p + 1) Aa;have e4:=h.H (p + 1) Aa;have e5:=h.x p Aa;have e6:=h.v p Aa;have e7:=Fr (L:=L) (N:=N) h (by omega:p≤p + 1);have e8:=Fq (L:=L) h (by omega:p≤p + 1);refine ⟨?_,?_,?_,?_⟩
 ·rw [e1,e5];exact h1
 ·rw [e1,e2,e4,e5,e6,e7,e8];exact h2
 ·rw [e2,e4,e5,e6];exact h3
 ·rw [e1,e3,e6];exact h4
theorem PV {M:Seat} {K:List V→Hp→Prop} {L:List DOp} {N wm:Nat}:∀ (r:List DOp) (p:Nat) (F:Pl),(∀ i,L[p + i]?=r[i]?)→p + r.length=L.length →
 Bd M K L.length N wm r p (F.A p) (F.H p) (DH L F p) (CV L N F p)→∃ G,Same F G p∧(∀ i,p≤i→i < L.length→PlanAt M L N wm G i)∧K (G.A L.length) (G.H L.length)
 | [], p, F, _, hl, h => by
   simp only [Bd] at h;have:p=L.length:=PI;subst this;exact ⟨F,⟨fun _ _=>rfl,fun _ _=>rfl,fun _ _=>rfl,fun _ _=>rfl⟩,fun i h1 h2=>by omega,h⟩
 | D :: r, p, F, hL, hl, h => by
   have hp:L[p]?=some D:=by simpa using hL 0
   have hr:∀ i,L[p + 1 + i]?=r[i]?:=fun i=>by
    have:=hL (i + 1);have e1:p + (i + 1)=p + 1 + i:=Aa;rw [e1] at this;simpa using this
   have hll:p + 1 + r.length=L.length:=by simp only [List.length_cons] at hl;omega
   have hop:H4 L p=D.o:=by simp [H4,hp]
   have hbf:CL L p=D.bf:=by simp [CL,hp]
   have key:∀ (x:Bool) (v:V) (H':Hp),
    (let G:Pl:={ A:=fun i=>if i=p + 1 then put (F.A p) (Ke L p) v else F.A i,H:=fun i=>if i=p + 1 then H' else F.H i,x:=fun i=>if i=p then x else F.x i,v:=fun i=>if i=p then v else F.v i }
     PlanAt M L N wm G p∧Bd M K L.length N wm r (p + 1) (G.A (p + 1)) (G.H (p + 1)) (DH L G (p + 1)) (CV L N G (p + 1))) →
    ∃ G,Same F G p∧(∀ i,p≤i→i < L.length→PlanAt M L N wm G i)∧K (G.A L.length) (G.H L.length):=by
    rintro x v H' ⟨h1,h2⟩;obtain ⟨G,hs,hall,hK⟩:=PV r (p + 1) _ hr hll h2;refine ⟨G,⟨fun i hi=>?_,fun i hi=>?_,fun i hi=>?_,fun i hi=>?_⟩,fun i h3 h4=>?_,hK⟩
    ·rw [hs.A i Aa];show (if _ then _ else _)=_;rw [if_neg Aa]
    ·rw [hs.H i Aa];show (if _ then _ else _)=_;rw [if_neg Aa]
    ·rw [hs.x i Aa];show (if _ then _ else _)=_;rw [if_neg Aa]
    ·rw [hs.v i Aa];show (if _ then _ else _)=_;rw [if_neg Aa]
    ·by_cases hip:i=p
     ·subst hip;exact h1.same hs
     ·exact hall i Aa h4
   have same0:∀ (x:Bool) (v:V) (H':Hp),Same F { A:=fun i=>if i=p + 1 then put (F.A p) (Ke L p) v else F.A i,H:=fun i=>if i=p + 1 then H' else F.H i,x:=fun i=>if i=p then x else F.x i,v:=fun i=>if i=p then v else F.v i } p:=fun x v H' =>
    ⟨fun i hi=>if_neg Aa,fun i hi=>if_neg Aa,fun i hi=>if_neg Aa,fun i hi=>if_neg Aa⟩
   have doIt:(match D.o.g with
    | none=>True
    | some (t, b0) => match (F.A p).getD t .junk with
      | .bool b'=>b'=b0
      | _=>False) →
    Br M (F.A p) (F.H p) (bs N L.length p D.o.k) D.o.k (fun v H'=>(X8 (F.A p) (bs N L.length p D.o.k) D.o.k v wm D.bf (CV L N F p) (DH L F p)∧(bif D.o.k.isW then Es (N + 16 * p) (N + 16 * L.length) H' else True)) ∧
     Bd M K L.length N wm r (p + 1) (put (F.A p) D.o.d v) H' (bif D.o.k.isW then (p + 1,H') :: DH L F p else DH L F p) (bif D.o.k.isA then (p,bs N L.length p D.o.k,hget H' (bs N L.length p D.o.k)) :: CV L N F p else CV L N F p)) →
    ∃ G,Same F G p∧(∀ i,p≤i→i < L.length→PlanAt M L N wm G i)∧K (G.A L.length) (G.H L.length):=by
    intro hg ho;have:∃ v H',Br M (F.A p) (F.H p) (bs N L.length p D.o.k) D.o.k (fun v' H''=>v'=v∧H''=H')∧(X8 (F.A p) (bs N L.length p D.o.k) D.o.k v wm D.bf (CV L N F p) (DH L F p)∧(bif D.o.k.isW then Es (N + 16 * p) (N + 16 * L.length) H' else True)) ∧
     Bd M K L.length N wm r (p + 1) (put (F.A p) D.o.d v) H' (bif D.o.k.isW then (p + 1,H') :: DH L F p else DH L F p) (bif D.o.k.isA then (p,bs N L.length p D.o.k,hget H' (bs N L.length p D.o.k)) :: CV L N F p else CV L N F p):=by
     unfold Br at ho ⊢;cases hk:D.o.k with
     | lo o=>rw [hk] at ho;exact ⟨_,_,⟨ho.1,rfl,rfl⟩,ho.2⟩
     | call f xs=>rw [hk] at ho;obtain ⟨v,H',h1,h2⟩:=ho;exact ⟨v,H',⟨v,H',h1,rfl,rfl⟩,h2⟩
     | dyn x xs=>rw [hk] at ho;obtain ⟨v,H',h1,h2⟩:=ho;exact ⟨v,H',⟨v,H',h1,rfl,rfl⟩,h2⟩
    obtain ⟨v,H',h1,⟨h2,h2'⟩,h3⟩:=this;refine key true v H' ⟨⟨?_,?_,?_,?_⟩,?_⟩
    ·simp only [hop,if_true,if_neg (by omega:¬ p=p + 1)];cases hgs:D.o.g with
     | none=>trivial
     | some q =>
       obtain ⟨t,b0⟩:=q;rw [hgs] at hg;simp only at hg ⊢;cases hA:(F.A p).getD t .junk <;> rw [hA] at hg <;> simp only at hg;subst hg;simp
    ·intro _;have e7:=Fr (L:=L) (N:=N) (same0 true v H') (Nat.le_refl p);have e8:=Fq (L:=L) (same0 true v H') (Nat.le_refl p);rw [e7,e8];simp only [DW,hop,hbf,if_true,if_neg (by omega:¬ p=p + 1)];exact ⟨h1,h2,h2'⟩
    ·intro hf;simp at hf
    ·simp only [if_true,if_neg (by omega:¬ p=p + 1)]
    ·have e7:=Fr (L:=L) (N:=N) (same0 true v H') (Nat.le_refl p);have e8:=Fq (L:=L) (same0 true v H') (Nat.le_refl p);simp only [CV,DH,e7,e8];simp only [DW,Ke,hop,if_true,Bool.and_true];exact h3
   have skipIt:(match D.o.g with
    | none=>False
    | some (t, b0) => match (F.A p).getD t .junk with
      | .bool b'=>b' = !b0
      | .tup _=>True
      | _=>False) →
    Bd M K L.length N wm r (p + 1) (put (F.A p) D.o.d (.tup .fnil)) (F.H p) (bif D.o.k.isW then (p + 1,F.H p) :: DH L F p else DH L F p) (CV L N F p) →
    ∃ G,Same F G p∧(∀ i,p≤i→i < L.length→PlanAt M L N wm G i)∧K (G.A L.length) (G.H L.length):=by
    intro hg h3;refine key false (.tup .fnil) (F.H p) ⟨⟨?_,?_,?_,?_⟩,?_⟩
    ·simp only [hop,if_true,if_neg (by omega:¬ p=p + 1)];cases hgs:D.o.g with
     | none=>rw [hgs] at hg;exact hg.elim
     | some q =>
       obtain ⟨t,b0⟩:=q;rw [hgs] at hg;simp only at hg ⊢;cases hA:(F.A p).getD t .junk <;> rw [hA] at hg <;> simp only at hg
       ·subst hg;cases b0 <;> rfl
       ·trivial
    ·intro hf;simp at hf
    ·intro _;simp only [if_true,if_neg (by omega:¬ p=p + 1)];exact ⟨trivial,trivial⟩
    ·simp only [if_true,if_neg (by omega:¬ p=p + 1)]
    ·have e7:=Fr (L:=L) (N:=N) (same0 false (.tup .fnil) (F.H p)) (Nat.le_refl p);have e8:=Fq (L:=L) (same0 false (.tup .fnil) (F.H p)) (Nat.le_refl p);simp only [CV,DH,e7,e8];simp only [DW,Ke,hop,if_true,Bool.and_false,cond_false];exact h3
   obtain ⟨ix,bf,⟨d,k,g⟩⟩:=D;cases g with
   | none=>exact doIt trivial (by simpa only [Bd] using h)
   | some q =>
     obtain ⟨t,b0⟩:=q;simp only [Bd] at h;split at h
     ·rename_i b' hb';by_cases hb:b'=b0
      ·exact doIt (by simp only [hb'];exact hb) (h.1 hb)
      ·have hb2:b' = !b0:=by
        clear h doIt skipIt key same0;revert hb;cases b' <;> cases b0 <;> simp
       exact skipIt (by simp only [hb'];exact hb2) (h.2 hb2)
     ·rename_i fs hb';exact skipIt (by simp only [hb']) h
     ·exact h.elim
variable {M:Seat}
def Sub (H Hc:Hp):Prop:=∀ id,Ag H id=true→Ag Hc id=true∧hget Hc id=hget H id
def Ep (Hc H:Hp):Hp:=Hc.filter (fun q=>!Ag H q.1)
theorem EB (j:Nat):∀ H K:Hp,Ag (H ++ K) j=(Ag H j || Ag K j)
 | [],_=>by simp [Ag]
 | (i,v) :: r,K=>by simp [Ag,EB j r K,Bool.or_assoc]
theorem FI {j:Nat}:∀ {H K:Hp},Ag H j=true→hget (H ++ K) j=hget H j
 | [],_,h=>by simp [Ag] at h
 | (i, v) :: r, K, h => by
   simp only [List.cons_append,hget];split
   ·rfl
   ·rename_i hij;simp only [Rr,beq_iff_eq,hij,false_or] at h;exact FI h
theorem Fx {j:Nat}:∀ {H K:Hp},Ag H j=false→hget (H ++ K) j=hget K j
 | [],_,_=>rfl
 | (i, v) :: r, K, h => by
   simp only [Ag,Bool.or_eq_false_iff,beq_eq_false_iff_ne,ne_eq] at h;simp only [List.cons_append,hget,if_neg h.1];exact Fx h.2
theorem ET (H:Hp) (j:Nat):∀ Hc:Hp,Ag (Ep Hc H) j=(Ag Hc j && !Ag H j)
 | []=>rfl
 | (i, v) :: r => by
   have ih:=ET H j r;unfold Ep at ih ⊢;rw [List.filter_cons];by_cases hij:i=j
   ·subst hij;cases h:Ag H i with
    | true=>simp only [Bool.not_true,Bool.and_false,To];rw [ih,h];simp
    | false=>simp [Ag]
   ·have hb:(i == j)=false:=by simpa using hij
    split
    ·simp only [Ag,hb,Bool.false_or];exact ih
    ·simp only [Ag,hb,Bool.false_or];exact ih
theorem EN (H:Hp) (j:Nat) (hj:Ag H j=false):∀ Hc:Hp,hget (Ep Hc H) j=hget Hc j
 | []=>rfl
 | (i, v) :: r => by
   have ih:=EN H j hj r;unfold Ep at ih ⊢;rw [List.filter_cons];by_cases hij:i=j
   ·subst hij;simp [hj,hget]
   ·split
    ·simp only [hget,if_neg hij];exact ih
    ·simp only [hget,if_neg hij];exact ih
theorem Inv.sub {c:Ctx} {e:Env} {H Hc:Hp} (h:Inv M c e Hc) (hs:Sub H Hc):Inv M c e H:=by
 refine ⟨h.ev,fun j hj=>?_,fun i j hi hj=>h.inj i j (hs i hi).1 (hs j hj).1,h.imo,h.imb,h.rb,h.keep,h.low,h.gs,h.φ,h.τ⟩;obtain ⟨h1,h2⟩:=hs j hj;rw [← h2];exact h.blk j h1
theorem Inv.narrow {c:Ctx} {e:Env} {H Hc:Hp} (h:Inv M c e Hc) (hs:Sub H Hc):Inv M ⟨e,fun b=>∃ id,Ag H id=true∧e.ρ id=b,0⟩ e H:=by
 have h':=h.sub hs;refine ⟨Ev.refl _ _,fun j hj=>?_,h'.inj,fun b hb=>.inl hb,h'.imb,h'.rb,fun b hb=>hb,fun id hid=>absurd hid (Nat.not_lt_zero _),h'.gs,h'.φ,h'.τ⟩;obtain ⟨h1,h2,h3,_⟩:=h'.blk j hj;exact ⟨h1,h2,h3,.inl ⟨j,hj,rfl⟩⟩
theorem Inv.widen {c:Ctx} {e e':Env} {H H' Hc:Hp} (h:Inv M c e Hc) (hs:Sub H Hc) (hle:e.le e') (h':Inv M ⟨e,fun b=>∃ id,Ag H id=true∧e.ρ id=b,0⟩ e' H') :
 Inv M c e' (H' ++ Ep Hc H)∧∀ id,Ag Hc id=true→Ag H id=false→Ag H' id=false:=by
 have hO:∀ b,(∃ id,Ag H id=true∧e.ρ id=b)→c.O b ∨ c.e0.w.heap.size≤b:=by
  rintro b ⟨id,h1,rfl⟩;exact (h.blk id (hs id h1).1).2.2.2
 have hnew:∀ b,(∃ id,Ag H id=true∧e.ρ id=b) ∨ e.w.heap.size≤b→c.O b ∨ c.e0.w.heap.size≤b:=by
  rintro b (hb | hb)
  ·exact hO b hb
  ·have:=h.ev.size;exact .inr Aa
 have hsep:∀ i j,Ag Hc i=true→Ag H i=false→Ag H' j=true→e.ρ i ≠ e'.ρ j:=by
  intro i j hi hn hj he;rcases (h'.blk j hj).2.2.2 with hh | hh
  ·obtain ⟨i',h1,h2⟩:=hh;have:i=i':=h.inj i i' hi (hs i' h1).1 (he.trans h2.symm);rw [this,h1] at hn;cases hn
  ·have hh:e.w.heap.size≤e'.ρ j:=hh;have:=h.rb i (h.blk i hi).1;omega
 have hold:∀ id,Ag (Ep Hc H) id=true→Ag Hc id=true∧Ag H id=false∧hget (Ep Hc H) id=hget Hc id:=by
  intro id hid;rw [ET] at hid;simp only [Lb0] at hid;exact ⟨hid.1,hid.2,EN _ _ hid.2 _⟩
 have hρ:∀ i,e.D i→e'.ρ i=e.ρ i:=fun i hi=>(hle.D i hi).2;have hsame:∀ id,Ag Hc id=true→Ag H id=false→e'.w.heap[e.ρ id]?=e.w.heap[e.ρ id]?:=fun id h1 h2 =>
  h'.ev.frame _ (h.rb id (h.blk id h1).1) (fun ⟨i',k1,k2⟩=>by
   have:i'=id:=h.inj i' id (hs i' k1).1 h1 k2
   rw [this,h2] at k1;cases k1)
 refine ⟨⟨h.ev.trans h'.ev (fun b hb=>hO b hb),?_,?_,?_,h'.imb,h'.rb,fun b hb=>h'.keep b (h.keep b hb),?_,h'.gs,h'.φ,h'.τ⟩,?_⟩
 ·intro id hid;cases hh:Ag H' id with
  | true =>
    obtain ⟨q1,q2,q3,q4⟩:=h'.blk id hh;rw [FI hh];exact ⟨q1,q2,q3,hnew _ q4⟩
  | false =>
    rw [EB,hh,Bool.false_or] at hid;obtain ⟨k1,k2,k3⟩:=hold id hid;obtain ⟨q1,q2,q3,q4⟩:=h.blk id k1;rw [Fx hh,k3,hρ id q1];refine ⟨(hle.D id q1).1,C9 hle q1 (hsame id k1 k2) q2,fun him=>?_,q4⟩;rcases h'.imo _ him with hm | ⟨i',h1,h2⟩ | hm
    ·exact q3 hm
    ·have:i'=id:=h.inj i' id (hs i' h1).1 k1 h2;rw [this,k2] at h1;cases h1
    ·have hm:e.w.heap.size≤e.ρ id:=hm;have:=h.rb id q1;omega
 ·intro i j hi hj hij;have cl:∀ i,Ag (H' ++ Ep Hc H) i=true→Ag H' i=true ∨ (Ag H' i=false∧Ag Hc i=true∧Ag H i=false):=fun i hi=>by
   cases hh:Ag H' i with
   | true=>exact .inl rfl
   | false =>
     rw [EB,hh,Bool.false_or] at hi;obtain ⟨k1,k2,_⟩:=hold i hi;exact .inr ⟨rfl,k1,k2⟩
  rcases cl i hi with h1 | ⟨_,h1,h2⟩ <;> rcases cl j hj with h3 | ⟨_,h3,h4⟩
  ·exact h'.inj i j h1 h3 hij
  ·rw [hρ j (h.blk j h3).1] at hij;exact absurd hij.symm (hsep j i h3 h4 h1)
  ·rw [hρ i (h.blk i h1).1] at hij;exact absurd hij (hsep i j h1 h2 h3)
  ·rw [hρ i (h.blk i h1).1,hρ j (h.blk j h3).1] at hij;exact h.inj i j h1 h3 hij
 ·intro b hb;rcases h'.imo b hb with hm | hm | hm
  ·exact h.imo b hm
  ·exact .inr (hnew b (.inl hm))
  ·exact .inr (hnew b (.inr hm))
 ·intro id hid;obtain ⟨h1,h2⟩:=h.low id hid;exact ⟨(hle.D id h1).1,(hρ id h1).trans h2⟩
 ·intro id h1 h2;cases hh:Ag H' id with
  | false=>rfl
  | true=>exact absurd (hρ id (h.blk id h1).1).symm (hsep id id h1 h2 hh)
theorem QK (a:Act) (d:Option Nat) (x:Value) (t:Nat):(a.put d x).tmps.getD t undef=if d=some t∧t < a.tmps.size then x else a.tmps.getD t undef:=by
 cases d with
 | none=>simp [Act.put]
 | some i =>
   simp only [Act.put,Option.some.injEq];by_cases hit:i=t
   ·subst hit;by_cases hl:i < a.tmps.size
    ·simp [hl]
    ·simp [hl]
   ·simp [Array.getElem?_setIfInBounds_ne hit,hit]
theorem N3 (A:List V) (d:Option Nat) (v:V) (t:Nat):(put A d v).getD t .junk=if d=some t∧t < A.length then v else A.getD t .junk:=by
 cases d with
 | none=>simp [put]
 | some i =>
   simp only [put,Option.some.injEq];by_cases hit:i=t
   ·subst hit;by_cases hl:i < A.length
    ·simp [List.getD,hl]
    ·simp [List.getD,hl]
   ·simp [List.getD,List.getElem?_set_ne hit,hit]
theorem U6 (L:List DOp) (j:Nat):∀ (es:List Edge) (b:Nat),(es.foldl (fun b e=>if Region.binds .any e then b ||| (2 ^ C6 L e.on) ||| CL L (C6 L e.on) else b) b).testBit j=true →
 b.testBit j=true ∨ ∃ e ∈ es,Region.binds .any e=true∧(j=C6 L e.on ∨ (CL L (C6 L e.on)).testBit j=true)
 | [],b,h=>.inl h
 | e :: es, b, h => by
   rw [List.foldl_cons] at h;rcases U6 L j es _ h with h1 | ⟨e',h1,h2⟩
   ·split at h1
    ·rename_i hb;rw [Nat.testBit_or,Nat.testBit_or,Bool.or_eq_true,Bool.or_eq_true] at h1;rcases h1 with (h1 | h1) | h1
     ·exact .inl h1
     ·rw [Nat.testBit_two_pow] at h1;exact .inr ⟨e,by simp,hb,.inl (by simpa using Eq.symm (by simpa using h1:C6 L e.on=j))⟩
     ·exact .inr ⟨e,by simp,hb,.inr h1⟩
    ·exact .inl h1
   ·exact .inr ⟨e',by simp [h1],h2⟩
structure DFact (M:Seat) (ops:Array Oper) (L:List DOp) (p:Nat) (o:Oper):Prop where
 op:ops[((L[p]?).map (·.ix)).getD 0]?=some o
 dst:o.dst=Ke L p
 k:Sx M o.op (DW L p)=true
 g:QN ops o.guard (H4 L p).g=true
 pos:C6 L (((L[p]?).map (·.ix)).getD 0)=p
 bf:∀ j,(CL L p).testBit j=true→∃ e ∈ o.after.toList,Region.binds .any e=true∧(j=C6 L e.on ∨ (CL L (C6 L e.on)).testBit j=true)
 lt:∀ e ∈ o.after.toList,Region.binds .any e=true→C6 L e.on < p
 w:(DW L p).isW=true→∀ j,j < p→(CL L p).testBit j=true
 ts:∀ t ∈ (H4 L p).ts,∀ j,j < L.length→Ke L j=some t→(CL L p).testBit j=true ∨ (p < j∧(CL L j).testBit p=true) ∨ j=p
theorem GZ {p j:Nat} (h:j < p):(2 ^ p - 1).testBit j=true:=by
 rw [Nat.testBit_two_pow_sub_one];simpa using h
theorem Ub {ops:Array Oper} {L:List DOp} {p:Nat} (h:XD M ops L p=true):∃ o,DFact M ops L p o:=by
 unfold XD at h;split at h
 ·cases h
 rename_i d hd;split at h
 ·cases h
 rename_i o ho;simp only [Lb0,decide_eq_true_eq,beq_iff_eq,List.all_eq_true,Bool.or_eq_true] at h;obtain ⟨⟨⟨⟨⟨⟨⟨h1,h2⟩,h3⟩,h4⟩,h5⟩,h6⟩,h7⟩,h8⟩:=h;have e1:H4 L p=d.o:=by simp [H4,hd]
 have e2:CL L p=d.bf:=by simp [CL,hd]
 have e3:((L[p]?).map (·.ix)).getD 0=d.ix:=by simp [hd]
 refine ⟨o,by rw [e3];exact ho,by rw [Ke,e1];exact h1,by rw [DW,e1];exact h2,by rw [e1];exact h3,by rw [e3];exact h4,fun j hj=>?_,fun e he hb=>?_,fun hw j hj=>?_,fun t ht j hj hdj=>?_⟩
 ·rw [e2,h5] at hj;rcases U6 L j _ _ hj with h | h
  ·simp at h
  ·exact h
 ·rcases h6 e he with h | h
  ·rw [hb] at h;cases h
  ·exact h
 ·rw [DW,e1] at hw;rcases h7 with h | h
  ·rw [hw] at h;cases h
  ·rw [e2,h];exact GZ hj
 ·rw [e1] at ht;have hdj':(L[j]?).bind (fun x=>x.o.d)=some t:=by
   have:=hdj;simp only [Ke,H4] at this;cases hL:L[j]? with
   | none=>rw [hL] at this;simp at this
   | some q=>rw [hL] at this;simpa using this
  rcases h8 t ht j (List.mem_range.2 hj) with ((h | h) | h) | h
  ·rw [hdj'] at h;simp at h
  ·rw [e2];exact .inl h
  ·exact .inr (.inl h)
  ·exact .inr (.inr h)
structure DFacts (M:Seat) (ops:Array Oper) (L:List DOp):Prop where
 mixed:M.P.follows .mixedOrders=true
 len:L.length=ops.size
 all:∀ i,i < ops.size→C6 L i < L.length
 at':∀ p,p < L.length→∃ o,DFact M ops L p o
 uni:∀ p q t,p < L.length→q < L.length→Ke L p=some t→Ke L q=some t→p=q
theorem Ms {ops:Array Oper} {L:List DOp} (h:Afa M ops L=true):DFacts M ops L:=by
 unfold Afa at h;simp only [Lc6,beq_iff_eq,List.mem_range,decide_eq_true_eq,Bool.or_eq_true] at h;obtain ⟨⟨⟨⟨h1,h2⟩,h3⟩,h4⟩,h5⟩:=h;refine ⟨h1,h2,fun i hi=>by rw [h2];exact h3 i hi,fun p hp=>Ub (h4 p hp),fun p q t hp hq hdp hdq=>?_⟩;have e:∀ j,Ke L j=some t→(L[j]?).bind (fun x=>x.o.d)=some t:=fun j hj=>by
  simp only [Ke,H4] at hj;cases hL:L[j]? with
  | none=>rw [hL] at hj;simp at hj
  | some q=>rw [hL] at hj;simpa using hj
 rcases h5 p hp q hq with h | h
 ·exact h
 ·rw [e p hdp,e q hdq] at h;simp at h
theorem KW {L:List DOp} {i:Nat} (h:C6 L i < L.length):((L[C6 L i]?).map (·.ix)).getD 0=i:=by
 unfold C6 at h ⊢;have:=List.findIdx_getElem (xs:=L) (p:=fun d=>d.ix == i) (w:=h);rw [List.getElem?_eq_getElem h];simpa using this
section
variable {M:Seat} {ops:Array Oper} {L:List DOp} {N wm:Nat} {F:Pl} {c:Ctx}
def Ez (L:List DOp) (p:Nat):Nat:=((L[p]?).map (·.ix)).getD 0
def lst (L:List DOp) (S:Array Bool) (p:Nat):Prop:=S.getD (Ez L p) false=true
def Fc (L:List DOp) (N p:Nat):Nat:=bs N L.length p (DW L p)
structure Plan (M:Seat) (ops:Array Oper) (L:List DOp) (N wm:Nat) (F:Pl):Prop where
 D:DFacts M ops L
 all:∀ p,p < L.length→PlanAt M L N wm F p
 ids0:∀ id,Ag (F.H 0) id=true→id < N
theorem Aig (hD:DFacts M ops L):∀ (n p:Nat),p≤n→p < L.length→∀ j,(CL L p).testBit j=true→j < p:=by
 intro n;induction n with
 | zero =>
   intro p hp hl j hj;obtain ⟨o,ho⟩:=hD.at' p hl;obtain ⟨e,he,hb,h⟩:=ho.bf j hj;have:=ho.lt e he hb;omega
 | succ n ih =>
   intro p hp hl j hj;obtain ⟨o,ho⟩:=hD.at' p hl;obtain ⟨e,he,hb,h⟩:=ho.bf j hj;have h1:=ho.lt e he hb;rcases h with rfl | h
   ·exact h1
   ·have:=ih (C6 L e.on) Aa Aa j h;omega
theorem Fn (hP:Plan M ops L N wm F):∀ p,p≤L.length→(F.A p).length=(F.A 0).length
 | 0,_=>rfl
 | p + 1, h => by
   rw [(hP.all p Aa).next];have:=Fn hP p Aa;cases hd:Ke L p with
   | none=>simpa [put] using this
   | some i=>simpa [put] using this
theorem Um (hP:Plan M ops L N wm F) {t:Nat}:∀ p,p≤L.length→(∀ j,j < p→Ke L j ≠ some t)→(F.A p).getD t .junk=(F.A 0).getD t .junk
 | 0,_,_=>rfl
 | p + 1, h, hn => by
   rw [(hP.all p Aa).next,N3,if_neg (fun hc=>hn p Aa hc.1)];exact Um hP p Aa (fun j hj=>hn j Aa)
theorem TP (hP:Plan M ops L N wm F) {t j:Nat} (hj:Ke L j=some t) (ht:t < (F.A 0).length):∀ p,p≤L.length→j < p→(F.A p).getD t .junk=F.v j
 | 0,_,h=>absurd h (Nat.not_lt_zero _)
 | p + 1, h, hjp => by
   rw [(hP.all p Aa).next,N3];by_cases hjp':j=p
   ·subst hjp';rw [if_pos ⟨hj,by rw [Fn hP j Aa];exact ht⟩]
   ·rw [if_neg (fun hc=>hjp' (hP.D.uni j p t Aa Aa hj hc.1))];exact TP hP hj ht p Aa Aa
theorem NJ {lo hi:Nat}:∀ {H:Hp},Es lo hi H→∀ id,Ag H id=true→id < lo ∨ hi≤id
 | [],_,id,h=>by simp [Ag] at h
 | (i, v) :: r, hk, id, h => by
   simp only [Es] at hk;simp only [Rr,beq_iff_eq] at h;rcases h with rfl | h
   ·exact hk.1
   ·exact NJ hk.2 id h
theorem YA (hP:Plan M ops L N wm F) {p:Nat} (hp:p < L.length) (hw:(DW L p).isW=false) :
 F.H (p + 1)=if (DW L p).isA=true∧F.x p=true then (Fc L N p,hget (F.H (p + 1)) (Fc L N p)) :: F.H p else F.H p:=by
 have h:=hP.all p hp;cases hx:F.x p with
 | false=>simp [(h.skip hx).2]
 | true =>
   obtain ⟨ho,_⟩:=h.run hx;unfold Br at ho;cases hk:DW L p with
   | lo o =>
     rw [hk] at ho hw;simp only at ho;obtain ⟨hpre,_,hH⟩:=ho;by_cases hA:LK.isA (.lo o)=true
     ·obtain ⟨cc,hc⟩:=Sl (F.A p) (bs N L.length p (.lo o)) o hA ⟨_,hpre⟩;rw [hc] at hH;have hb:Fc L N p=bs N L.length p (.lo o):=by simp [Fc,hk]
      rw [if_pos ⟨hA,rfl⟩,hb,← hH];simp [hget]
     ·rw [if_neg (fun hc=>hA hc.1),← hH];exact (ZZ _ _ _ _ hw (by simpa using hA))
   | call f xs=>rw [hk] at hw;cases hw
   | dyn x xs=>rw [hk] at hw;cases hw
theorem FE {p:Nat} (hw:(DW L p).isW=false):Fc L N p=N + 16 * p:=by simp [Fc,bs,hw]
theorem JK {p:Nat} (hw:(DW L p).isW=true):Fc L N p=N + 16 * (L.length + p):=by simp [Fc,bs,hw]
theorem Ajo {k:LK} (h:k.isA=true):k.isW=false:=by
 cases k with
 | lo o=>cases o <;> simp_all [LK.isA,LK.isW]
 | call=>cases h
 | dyn=>cases h
theorem Ip (hP:Plan M ops L N wm F):∀ p,p≤L.length→∀ id,Ag (F.H p) id=true→id < N + 16 * p ∨ N + 16 * L.length≤id
 | 0,_,id,h=>.inl (hP.ids0 id h)
 | p + 1, hp, id, h => by
   have hpp:=hP.all p Aa;by_cases hw:(DW L p).isW=true
   ·cases hx:F.x p with
    | false =>
      rw [(hpp.skip hx).2] at h;rcases Ip hP p Aa id h with h | h
      ·exact .inl Aa
      ·exact .inr h
    | true =>
      obtain ⟨_,_,h3⟩:=hpp.run hx;rw [hw] at h3;rcases NJ h3 id h with h | h
      ·exact .inl Aa
      ·exact .inr h
   ·have hw:(DW L p).isW=false:=by simpa using hw
    rw [YA hP Aa hw] at h;split at h
    ·simp only [Rr,beq_iff_eq] at h;rcases h with h | h
     ·rw [FE hw] at h;exact .inl Aa
     ·rcases Ip hP p Aa id h with h | h
      ·exact .inl Aa
      ·exact .inr h
    ·rcases Ip hP p Aa id h with h | h
     ·exact .inl Aa
     ·exact .inr h
theorem Lb:∀ {p:Nat} {q:Nat × Nat × V},q ∈ CV L N F p→∃ j,j < p∧(DW L j).isA=true∧F.x j=true∧q=(j,Fc L N j,hget (F.H (j + 1)) (Fc L N j))
 | 0,q,h=>by simp [CV] at h
 | p + 1, q, h => by
   simp only [CV] at h;cases hc:(DW L p).isA && F.x p with
   | true =>
     rw [hc,cond_true,List.mem_cons] at h;simp only [Bool.and_eq_true] at hc;rcases h with rfl | h
     ·exact ⟨p,by omega,hc.1,hc.2,rfl⟩
     ·obtain ⟨j,h1,h2⟩:=Lb h;exact ⟨j,by omega,h2⟩
   | false =>
     rw [hc,cond_false] at h;obtain ⟨j,h1,h2⟩:=Lb h;exact ⟨j,by omega,h2⟩
theorem Nr {q:Nat × Hp}:∀ {p p':Nat},p≤p'→q ∈ DH L F p→q ∈ DH L F p'
 | p, 0, h, hq => by have : p = 0 := by omega
                     subst this;exact hq
 | p, p' + 1, h, hq => by
   by_cases he:p=p' + 1
   ·subst he;exact hq
   ·have:=Nr (by omega:p≤p') hq;simp only [DH];cases (DW L p').isW <;> simp [this]
structure DSt (M:Seat) (L:List DOp) (N:Nat) (F:Pl) (c:Ctx) (n:Nat) (S:Array Bool) (a:Act) (P:Nat) (e:Env) (Hc:Hp):Prop where
 sz:S.size=n
 cl:∀ p,p < L.length→lst L S p→∀ j,(CL L p).testBit j=true→lst L S j
 pre:∀ p,p < P→lst L S p
 now:∀ p,P≤p→p < L.length→(DW L p).isW=true→¬ lst L S p
 Pm:P≤L.length
 bd:(P,F.H P) ∈ DH L F P
 inv:Inv M c e Hc
 sub:Sub (F.H P) Hc
 al:∀ p,P≤p→p < L.length→lst L S p→(DW L p).isA=true→F.x p=true→Ag Hc (Fc L N p)=true∧hget Hc (Fc L N p)=hget (F.H (p + 1)) (Fc L N p)
 len:a.tmps.size=(F.A 0).length
 va:∀ p,p < L.length→lst L S p→∀ t,Ke L p=some t→t < (F.A 0).length→RV e (F.v p) (a.tmps.getD t undef)
 vb:∀ t,(∀ p,p < L.length→lst L S p→Ke L p ≠ some t)→RV e ((F.A 0).getD t .junk) (a.tmps.getD t undef)
 ids:∀ id,e.D id→id < N ∨ ∃ p,p < L.length∧lst L S p∧Fc L N p≤id∧id < Fc L N p + 16
 defs:a.defers=[]
theorem So (hP:Plan M ops L N wm F) {n:Nat} {S:Array Bool} {a:Act} {P:Nat} {e:Env} {Hc:Hp} (h:DSt M L N F c n S a P e Hc) :
 ∀ q,P≤q→q≤L.length→(∀ j,P≤j→j < q→lst L S j)→Sub (F.H q) Hc:=by
 intro q;induction q with
 | zero => intro h1 _ _; have : P = 0 := by omega
           subst this;exact h.sub
 | succ q ih =>
   intro h1 h2 h3;by_cases hPq:P=q + 1
   ·subst hPq;exact h.sub
   ·have hs:=ih Aa Aa (fun j hj hjq=>h3 j hj Aa);have hl:=h3 q Aa Aa;have hw:(DW L q).isW=false:=by
     cases hw:(DW L q).isW with
     | false=>rfl
     | true=>exact absurd hl (h.now q Aa Aa hw)
    rw [YA hP Aa hw];split
    ·rename_i hx;obtain ⟨k1,k2⟩:=h.al q Aa Aa hl hx.1 hx.2;intro id hid;simp only [Ag,hget] at hid ⊢;by_cases he:Fc L N q=id
     ·subst he;simp only [if_true];exact ⟨k1,k2⟩
     ·rw [if_neg he];simp only [Bool.or_eq_true,beq_iff_eq,he,false_or] at hid;exact hs id hid
    ·exact hs
theorem PC {E Hc:Hp} (h:Sub E Hc):∀ (l:Hp),(∀ q ∈ l,Ag Hc q.1=true∧hget Hc q.1=q.2)→Sub (l ++ E) Hc
 | [],_=>h
 | (i, v) :: l, hl => by
   have ih:=PC h l (fun q hq=>hl q (by simp [hq]));intro id hid;simp only [List.cons_append,Ag,hget] at hid ⊢;by_cases he:i=id
   ·subst he;simp only [if_true];exact hl (i,v) B9
   ·rw [if_neg he];simp only [Bool.or_eq_true,beq_iff_eq,he,false_or] at hid;exact ih id hid
theorem Aki {n:Nat} {S:Array Bool} {a:Act} {P:Nat} {e:Env} {Hc:Hp} (h:DSt M L N F c n S a P e Hc) {p:Nat} (hp:p < L.length) (hbf:∀ j,(CL L p).testBit j=true→lst L S j) :
 Sub (hx (CV L N F p) P (CL L p) (F.H P)) Hc:=by
 refine PC h.sub _ (fun q hq=>?_);rw [List.mem_map] at hq;obtain ⟨q',hq',rfl⟩:=hq;rw [List.mem_filter] at hq';obtain ⟨h1,h2⟩:=hq';obtain ⟨j,k1,k2,k3,rfl⟩:=Lb h1;simp only [Bool.and_eq_true,decide_eq_true_eq] at h2;exact h.al j h2.1 Aa (hbf j h2.2) k2 k3
theorem Nw {A:List V} {b:Nat} {o:LO} {v:V} {wm bf:Nat} {al:List (Nat × Nat × V)} {P:Nat} {E:Hp}:∀ {bd:List (Nat × Hp)},G0 A b o v wm bf al bd→(P,E) ∈ bd→(bf &&& wm) >>> P=0 →
 (Af A (hx al P bf E) b o).pre∧(Af A (hx al P bf E) b o).v=v
 | [],_,h,_=>by simp at h
 | (P', E') :: r, h, hm, hz => by
   simp only [G0] at h;rcases List.mem_cons.1 hm with he | hm
   ·cases he;have:((bf &&& wm) >>> P == 0)=true:=by simp [hz]
    rw [this,cond_true] at h;exact h.1
   ·exact Nw h.2 hm hz
end
end Mv
