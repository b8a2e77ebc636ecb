/- A part. -/
import Derived.Test.YtlfkjfonpacelaaGreatDoorIK
set_option linter.all false
namespace Mv
open Go
def N5 (H:Hp) (z:List Nat) (i:Nat):Bool:=z.contains i && Ag H i && (hget H i).solid
def V.isMp:V→Bool
 | .mp ..=>true
 | _=>false
def TQ (H:Hp) (z:List Nat) (i:Nat):Bool:=z.contains i && Ag H i && (hget H i).isMp
def WZ (H:Hp) (z:List Nat) (i:Nat):Bool:=N5 H z i || TQ H z i
def Ay (H:Hp) (m z:List Nat):V→V→Prop
 | .junk,a=>a = .junk
 | .int k n,a=>a = .int k n
 | .bool b,a=>a = .bool b
 | .str s,a=>a = .str s
 | .nilp,a=>a = .nilp
 | .nils,a=>a = .nils
 | .nilm,a=>a = .nilm
 | .nilf,a=>a = .nilf
 | .nili,a=>a = .nili
 | .fnil,a=>a = .fnil
 | .ptr j p,a=>(match a with | .ptr i q=>m[j]?=some i∧Az q=Az p | _=>False)
 | .map j,a=>(match a with | .map i=>m[j]?=some i | _=>False)
 | .sl j p o n sz,a=>(match a with | .sl i q o' n' sz'=>m[j]?=some i∧(Az q=Az p∧o'=o∧n'=n∧sz'=sz) | _=>False)
 | .imm v, a => (match a with
   | .imm u=>Ay H m z v u
   | .ptr i q=>N5 H z i=true∧(hget H i).ok q∧Ay H m z v ((hget H i).get q)
   | _=>False)
 | .lst sz n f, a => (match a with
   | .lst sz' n' g=>(sz'=sz∧n'=n)∧∀ i,i < n→Ay H m z (f i) (g i)
   | .sl i q o n' sz' => (sz' = sz ∧ n' = n) ∧ N5 H z i = true ∧ (hget H i).ok q ∧ (match (hget H i).get q with
     | .ar s L g=>s=sz∧o + n≤L∧∀ i,i < n→Ay H m z (f i) (g (o + i))
     | _=>False)
   | .nils=>n=0
   | _=>False)
 | .fn f c,a=>(match a with | .fn f' c'=>f'=f∧Ay H m z c c' | _=>False)
 | .ifc t v,a=>(match a with | .ifc t' v'=>t'=t∧Ay H m z v v' | _=>False)
 | .st n fs,a=>(match a with | .st n' fs'=>n'=n∧Ay H m z fs fs' | _=>False)
 | .ar sz n f,a=>(match a with | .ar sz' n' g=>(sz'=sz∧n'=n)∧∀ i,i < n→Ay H m z (f i) (g i) | _=>False)
 | .fcons o v r,a=>(match a with | .fcons o' v' r'=>o'=o∧Ay H m z v v'∧Ay H m z r r' | _=>False)
 | .tup fs,a=>(match a with | .tup fs'=>Ay H m z fs fs' | _=>False)
 | .mp n ks vs,a=>(match a with | .mp n' ks' vs'=>n'=n∧∀ i,i < n→Ay H m z (ks i) (ks' i)∧Ay H m z (vs i) (vs' i) | _=>False)
 | .fm n ks vs, a => (match a with
   | .fm n' ks' vs'=>n'=n∧∀ i,i < n→Ay H m z (ks i) (ks' i)∧Ay H m z (vs i) (vs' i)
   | .map i=>TQ H z i=true∧(match hget H i with | .mp n' ks' vs'=>n'=n∧∀ i,i < n→Ay H m z (ks i) (ks' i)∧Ay H m z (vs i) (vs' i) | _=>False)
   | _=>False)
theorem EK {H:Hp} {m z:List Nat} {v u:V} (h:Ay H m z v u):v.size=u.size:=by
 cases v <;> cases u <;> simp_all [Ay,V.size]
theorem GN {H:Hp} {m z:List Nat} {v u:V} (h:Ay H m z v u):v.isAgg=u.isAgg:=by
 cases v <;> cases u <;> simp_all [Ay,V.isAgg]
theorem BY {H:Hp} {m z:List Nat} {v u:V} (h:Ay H m z v u):v.solid=u.solid:=by
 cases v <;> cases u <;> simp_all [Ay,V.solid]
theorem NW {H:Hp} {m z:List Nat} {v u:V} (h:Ay H m z v u):v.chain=u.chain:=by
 cases v <;> cases u <;> simp_all [Ay,V.chain]
theorem Agy {H:Hp} {m z:List Nat} {v u:V} (d:Nat) (h:Ay H m z v u):v.flo d=u.flo d:=by
 cases v <;> cases u <;> simp_all [Ay,V.flo]
structure Pull (H:Hp) (m z:List Nat) (e e2:Env):Prop where
 D:∀ j i,m[j]?=some i→e.D i→e2.D j∧e2.ρ j=e.ρ i
 im:∀ b,e.im b→e2.im b
 fz:∀ i,N5 H z i=true→e2.im (e.ρ i)∧∃ cells el,e.w.heap[e.ρ i]?=some (.cells cells el (0,0))∧(hget H i).size≤cells.size∧R e (hget H i) (cells.toList.take (hget H i).size)
 fm:∀ i,TQ H z i=true→e2.im (e.ρ i)∧Eb e i (hget H i)
 w:e2.w=e.w
 φ:e2.φ=e.φ
 τ:e2.τ=e.τ
theorem CO {H:Hp} {m z:List Nat} {e e2:Env} (hp:Pull H m z e e2):∀ {v u:V} {cs:List Value},Ay H m z v u→R e u cs→R e2 v cs
 | .junk,u,cs,hs,h=>by simp only [Ay] at hs;subst hs;exact h
 | .int _ _,u,cs,hs,h=>by simp only [Ay] at hs;subst hs;exact h
 | .bool _,u,cs,hs,h=>by simp only [Ay] at hs;subst hs;exact h
 | .str _,u,cs,hs,h=>by simp only [Ay] at hs;subst hs;exact h
 | .nilp,u,cs,hs,h=>by simp only [Ay] at hs;subst hs;exact h
 | .nils,u,cs,hs,h=>by simp only [Ay] at hs;subst hs;exact h
 | .nilm,u,cs,hs,h=>by simp only [Ay] at hs;subst hs;exact h
 | .nilf,u,cs,hs,h=>by simp only [Ay] at hs;subst hs;exact h
 | .nili,u,cs,hs,h=>by simp only [Ay] at hs;subst hs;exact h
 | .fnil,u,cs,hs,h=>trivial
 | .ptr j p, u, cs, hs, h => by
   cases u <;> simp only [Ay] at hs;obtain ⟨h1,h2⟩:=hs;simp only [R] at h ⊢;obtain ⟨d1,d2⟩:=hp.D _ _ h1 h.1;rw [d2,← h2];exact ⟨d1,h.2⟩
 | .map j, u, cs, hs, h => by
   cases u <;> simp only [Ay] at hs;simp only [R] at h ⊢;obtain ⟨d1,d2⟩:=hp.D _ _ hs h.1;rw [d2];exact ⟨d1,h.2⟩
 | .sl j p o n sz, u, cs, hs, h => by
   cases u <;> simp only [Ay] at hs;obtain ⟨h1,h2,rfl,rfl,rfl⟩:=hs;simp only [R] at h ⊢;obtain ⟨d1,d2⟩:=hp.D _ _ h1 h.1;rw [d2,← h2,hp.w];exact ⟨d1,h.2⟩
 | .imm v, u, cs, hs, h => by
   cases u <;> simp only [Ay] at hs;case imm u =>
    simp only [R] at h ⊢;obtain ⟨b,o,c,el,fz,h1,h2,h3,h4,h5⟩:=h;rw [EK hs,hp.w];exact ⟨b,o,c,el,fz,h1,hp.im b h2,h3,h4,CO hp hs h5⟩
   case ptr i q =>
    simp only [R] at h ⊢;obtain ⟨h0,h1,h2⟩:=hs;obtain ⟨k1,cells,el,hc,hsz,hR⟩:=hp.fz i h0;have hlen:(cells.toList.take (hget H i).size).length=(hget H i).size:=FY;obtain ⟨g1,g2⟩:=E7 hR hlen h1;rw [hlen] at g1;rw [EK h2,hp.w];refine ⟨_,_,cells,el,_,h.2,k1,hc,by omega,CO hp h2 ?_⟩;rw [List.drop_take,List.take_take,Nat.min_eq_left Aa] at g2;exact g2
 | .lst sz n f, u, cs, hs, h => by
   cases u <;> simp only [Ay] at hs;case lst sz' n' g =>
    obtain ⟨⟨rfl,rfl⟩,hs⟩:=hs;simp only [R] at h ⊢;obtain ⟨a,cap,h1,h2,h3⟩:=h;refine ⟨a,cap,h1,h2,fun h0=>?_⟩;obtain ⟨b,o,c,el,fz,k1,k2,k3,k4,k5⟩:=h3 h0;refine ⟨b,o,c,el,fz,k1,hp.im b k2,by rw [hp.w];exact k3,k4,fun i hi=>⟨?_,CO hp (hs i hi) (k5 i hi).2⟩⟩;rw [BY (hs i hi),EK (hs i hi)];exact (k5 i hi).1
   case nils =>
    subst hs;simp only [R] at h ⊢;exact ⟨none,0,h,Nat.le_refl _,fun h=>absurd h (Nat.lt_irrefl _)⟩
   case sl i q o n' sz' =>
    obtain ⟨⟨rfl,rfl⟩,h0,h1,hs⟩:=hs;split at hs;case h_2=>exact hs.elim
    rename_i s L g hget;obtain ⟨rfl,hL,hs⟩:=hs;simp only [R] at h ⊢;obtain ⟨_,b,cap,hcs,hcap,hle,_⟩:=h;refine ⟨b,cap,hcs,hle,fun hn=>?_⟩;have hb:=hcap.resolve_left Aa;obtain ⟨k1,cells,el,hc,hsz,hR⟩:=hp.fz i h0;have hlen:(cells.toList.take (Mv.hget H i).size).length=(Mv.hget H i).size:=FY;obtain ⟨g1,g2⟩:=E7 hR hlen h1;rw [hlen] at g1;rw [hget] at g1 g2;rw [List.drop_take,List.take_take,Nat.min_eq_left Aa] at g2;have g1:Az q + L * s≤(Mv.hget H i).size:=g1;have g2:R e (.ar s L g) ((cells.toList.drop (Az q)).take (L * s)):=g2;simp only [R] at g2;have hmul:∀ j,j≤L→j * s≤L * s:=fun j hj=>Nat.mul_le_mul_right _ hj;refine ⟨_,_,cells,el,_,hb,k1,by rw [hp.w];exact hc,?_,fun j hj=>⟨?_,?_⟩⟩
    ·have:=hmul (o + n') hL;rw [Nat.add_mul] at this;omega
    ·have:=(g2.2 (o + j) Aa).1;rw [BY (hs j hj),EK (hs j hj)];exact this
    ·have g3:=(g2.2 (o + j) Aa).2;refine CO hp (hs j hj) ?_;have h3:=hmul (o + j + 1) Aa;rw [Nat.add_mul,Nat.one_mul] at h3;rw [List.drop_take,List.take_take,Nat.min_eq_left Aa,List.drop_drop] at g3;have e1:Az q + o * s + j * s=Az q + (o + j) * s:=by rw [Nat.add_mul];omega
     rw [e1];exact g3
 | .fn f c, u, cs, hs, h => by
   cases u <;> simp only [Ay] at hs;obtain ⟨rfl,hs⟩:=hs;simp only [R] at h ⊢;obtain ⟨xs,h1,h2⟩:=h;rw [hp.φ];exact ⟨xs,h1,CO hp hs h2⟩
 | .ifc t v, u, cs, hs, h => by
   cases u <;> simp only [Ay] at hs;obtain ⟨rfl,hs⟩:=hs;simp only [R] at h ⊢;obtain ⟨x,h1,h2,h3⟩:=h;rw [hp.τ,BY hs,GN hs];refine ⟨x,h1,h2,?_⟩;split at h3
   ·obtain ⟨c,k1,k2⟩:=h3;exact ⟨c,k1,CO hp hs k2⟩
   ·exact CO hp hs h3
 | .st n fs, u, cs, hs, h => by
   cases u <;> simp only [Ay] at hs;obtain ⟨rfl,hs⟩:=hs;simp only [R] at h ⊢;rw [NW hs];exact ⟨h.1,h.2.1,CO hp hs h.2.2⟩
 | .ar sz n f, u, cs, hs, h => by
   cases u <;> simp only [Ay] at hs;obtain ⟨⟨rfl,rfl⟩,hs⟩:=hs;simp only [R] at h ⊢;refine ⟨h.1,fun i hi=>⟨?_,CO hp (hs i hi) (h.2 i hi).2⟩⟩;rw [BY (hs i hi),EK (hs i hi)];exact (h.2 i hi).1
 | .fcons o v r, u, cs, hs, h => by
   cases u <;> simp only [Ay] at hs;obtain ⟨rfl,hv,hr⟩:=hs;simp only [R] at h ⊢;rw [NW hr,Agy _ hr,EK hv];exact ⟨h.1,h.2.1,h.2.2.1,CO hp hv h.2.2.2.1,CO hp hr h.2.2.2.2⟩
 | .tup fs, u, cs, hs, h => by
   cases u <;> simp only [Ay] at hs;simp only [R] at h
 | .mp n ks vs, u, cs, hs, h => by
   cases u <;> simp only [Ay] at hs;simp only [R] at h
 | .fm n ks vs, u, cs, hs, h => by
   cases u <;> simp only [Ay] at hs;case fm n' ks' vs' =>
    obtain ⟨rfl,hs⟩:=hs;simp only [R] at h ⊢;obtain ⟨b,es,ck,hc,hi,hb,hn,hx⟩:=h;refine ⟨b,es,ck,hc,hp.im b hi,by rw [hp.w];exact hb,hn,fun i x hix=>?_⟩;have hi':i < es.size:=(Array.getElem?_eq_some_iff.1 hix).1;obtain ⟨s1,s2⟩:=hs i Aa;obtain ⟨⟨q1,q2⟩,q3,q4⟩:=hx i x hix;refine ⟨⟨by rw [BY s1];exact q1,?_⟩,by rw [BY s2];exact q3,?_⟩
    ·rw [GN s1];split
     ·rename_i ha;simp only [ha] at q2;obtain ⟨c,k1,k2⟩:=q2;exact ⟨c,k1,CO hp s1 k2⟩
     ·rename_i ha;simp only [ha] at q2;exact CO hp s1 q2
    ·rw [GN s2];split
     ·rename_i ha;simp only [ha] at q4;obtain ⟨c,k1,k2⟩:=q4;exact ⟨c,k1,CO hp s2 k2⟩
     ·rename_i ha;simp only [ha] at q4;exact CO hp s2 q4
   case map j =>
    obtain ⟨h0,hs⟩:=hs;obtain ⟨k1,k2⟩:=hp.fm j h0;split at hs;case h_2=>exact hs.elim
    rename_i n' ks' vs' hg;obtain ⟨rfl,hs⟩:=hs;rw [hg] at k2;obtain ⟨es,ck,hb,hn,hx⟩:=k2;simp only [R] at h ⊢;refine ⟨e.ρ j,es,ck,h.2,k1,by rw [hp.w];exact hb,hn,fun i x hix=>?_⟩;have hi':i < es.size:=(Array.getElem?_eq_some_iff.1 hix).1;obtain ⟨s1,s2⟩:=hs i Aa;obtain ⟨⟨q1,q2⟩,q3,q4⟩:=hx i x hix;unfold RS at q2 q4;refine ⟨⟨by rw [BY s1];exact q1,?_⟩,by rw [BY s2];exact q3,?_⟩
    ·rw [GN s1];split
     ·rename_i ha;simp only [ha] at q2;obtain ⟨c,k1,k2⟩:=q2;exact ⟨c,k1,CO hp s1 k2⟩
     ·rename_i ha;simp only [ha] at q2;exact CO hp s1 q2
    ·rw [GN s2];split
     ·rename_i ha;simp only [ha] at q4;obtain ⟨c,k1,k2⟩:=q4;exact ⟨c,k1,CO hp s2 k2⟩
     ·rename_i ha;simp only [ha] at q4;exact CO hp s2 q4
theorem OY {H:Hp} {m z:List Nat} {e e2:Env} (hp:Pull H m z e e2) {v u:V} {x:Value} (hs:Ay H m z v u) (h:RS e u x):RS e2 v x:=by
 unfold RS at *
 rw [GN hs];split
 ·rename_i ha;simp only [ha] at h;obtain ⟨c,h1,h2⟩:=h;exact ⟨c,h1,CO hp hs h2⟩
 ·rename_i ha;simp only [ha] at h;exact CO hp hs h
theorem Acc {H:Hp} {m z:List Nat} {e e2:Env} (hp:Pull H m z e e2):∀ {v u:V} {xs:Array Value},Ay H m z v u→RT e u xs→RT e2 v xs
 | .fcons i v r, u, xs, hs, h => by
   cases u <;> simp only [Ay] at hs;obtain ⟨rfl,hv,hr⟩:=hs;simp only [RT] at h ⊢;obtain ⟨⟨h0,y,h1,h2⟩,h3⟩:=h;rw [BY hv];exact ⟨⟨h0,y,h1,OY hp hv h2⟩,Acc hp hr h3⟩
 | .junk,_,_,_,_ | .int ..,_,_,_,_ | .bool _,_,_,_,_ | .str _,_,_,_,_ | .nilp,_,_,_,_ | .ptr ..,_,_,_,_ | .imm _,_,_,_,_ | .nils,_,_,_,_ | .sl ..,_,_,_,_ | .lst ..,_,_,_,_ | .nilm,_,_,_,_ | .map _,_,_,_,_ | .nilf,_,_,_,_ | .fn ..,_,_,_,_ | .nili,_,_,_,_ | .ifc ..,_,_,_,_ | .st ..,_,_,_,_ | .ar ..,_,_,_,_ | .fnil,_,_,_,_ | .tup _,_,_,_,_ | .mp ..,_,_,_,_ | .fm ..,_,_,_,_=>trivial
def Bz (H:Hp) (m z:List Nat) (v u:V):Prop :=
 match v with
 | .junk=>True
 | v=>Ay H m z v u
theorem OG {H:Hp} {m z:List Nat} {e e2:Env} (hp:Pull H m z e e2) {v u:V} {x:Value} (hs:Bz H m z v u) (h:RV e u x):RV e2 v x:=by
 cases v;case junk=>trivial
 case tup fs =>
  cases u <;> simp only [Bz,Ay] at hs;obtain ⟨xs,h1,h2⟩:=h;exact ⟨xs,h1,Acc hp hs h2⟩
 all_goals
  simp only [Bz] at hs;have hsol:=BY hs;cases u <;> first
   | (simp only [Ay,reduceCtorEq] at hs;done)
   | (simp only [Ay] at hs;done)
   | (simp only [RV] at h;done)
   | (rw [Bh rfl] at h;rw [Bh rfl];exact OY hp hs h)
   | skip
def f9:=@Ay.eq_1
def g7:=@Ay.eq_2
def g9:=@Ay.eq_3
def y8:=@Ay.eq_4
variable {M:Seat}
def Bp (H:Hp) (m z:List Nat):List V→List V→Prop
 | [],[]=>True
 | v :: r,u :: r'=>Bz H m z v u∧Bp H m z r r'
 | _,_=>False
def BC (H:Hp) (m z:List Nat):Hp→Prop
 | []=>True
 | (j,v) :: r=>(match m[j]? with | some i=>Ag H i=true∧Ay H m z v (hget H i) | none=>False)∧BC H m z r
theorem I9 {H:Hp} {m z:List Nat}:∀ {A B:List V},Bp H m z A B→A.length=B.length
 | [],[],_=>rfl
 | _ :: r,_ :: r',h=>by simp only [Bp] at h;simp [I9 h.2]
 | [],_ :: _,h=>by simp [Bp] at h
 | _ :: _,[],h=>by simp [Bp] at h
theorem Ib {H:Hp} {m z:List Nat}:∀ {A B:List V},Bp H m z A B→∀ t,Bz H m z (A.getD t .junk) (B.getD t .junk)
 | [],[],_,t=>by simp [Bz]
 | _ :: r, _ :: r', h, t => by
   simp only [Bp] at h;cases t with
   | zero=>simpa using h.1
   | succ t=>simpa using Ib h.2 t
 | [],_ :: _,h,_=>by simp [Bp] at h
 | _ :: _,[],h,_=>by simp [Bp] at h
theorem DC {H:Hp} {m z:List Nat}:∀ {H':Hp},BC H m z H'→∀ j,Ag H' j=true→∃ i,m[j]?=some i∧Ag H i=true∧Ay H m z (hget H' j) (hget H i)
 | [],_,j,hj=>by simp [Ag] at hj
 | (k, v) :: r, h, j, hj => by
   simp only [BC] at h;by_cases hkj:k=j
   ·subst hkj;obtain ⟨h1,_⟩:=h;split at h1
    ·rename_i i hi;exact ⟨i,hi,h1.1,by simpa [hget] using h1.2⟩
    ·exact h1.elim
   ·have hj':Ag r j=true:=by
     simp only [Rr,beq_iff_eq] at hj;exact hj.resolve_left hkj
    obtain ⟨i,h1,h2,h3⟩:=DC h.2 j hj';exact ⟨i,h1,h2,by simpa [hget,hkj] using h3⟩
def Env.sim (e:Env) (H:Hp) (m z:List Nat):Env :=
 { ρ := fun j => match m[j]? with | some i => e.ρ i | none => 0
   D:=fun j=>∃ i,m[j]?=some i∧e.D i
   im:=fun b=>e.im b ∨ ∃ i,WZ H z i=true∧b=e.ρ i
   w:=e.w,φ:=e.φ,τ:=e.τ }
theorem Adc {H:Hp} {z:List Nat} {i:Nat} (h:N5 H z i=true):i ∈ z∧Ag H i=true∧(hget H i).solid=true:=by
 simp only [N5,Bool.and_eq_true,List.contains_iff_mem] at h;exact ⟨h.1.1,h.1.2,h.2⟩
theorem FC {H:Hp} {z:List Nat} {i:Nat} (h:WZ H z i=true):i ∈ z∧Ag H i=true∧True:=by
 simp only [WZ,N5,TQ,Bool.or_eq_true,Bool.and_eq_true,List.contains_iff_mem] at h;rcases h with h | h
 ·exact ⟨h.1.1,h.1.2,trivial⟩
 ·exact ⟨h.1.1,h.1.2,trivial⟩
theorem Uy {H:Hp} {z:List Nat} {i:Nat} (h:TQ H z i=true):∃ n ks vs,hget H i = .mp n ks vs:=by
 simp only [TQ,Bool.and_eq_true] at h;cases hg:hget H i with
 | mp n ks vs=>exact ⟨n,ks,vs,rfl⟩
 | _=>rw [hg] at h;exact absurd h.2 (by simp [V.isMp])
theorem Pull.of {c:Ctx} {e:Env} {H:Hp} (hI:Inv M c e H) (m z:List Nat):Pull H m z e (e.sim H m z) where
 D j i hj hd:=⟨⟨i,hj,hd⟩,by simp [Env.sim,hj]⟩
 im b hb:=.inl hb
 fz i hi:=by
  obtain ⟨_,h1,h2⟩:=Adc hi;obtain ⟨cells,el,h3,h4,h5⟩:=hI.cells h1 h2;exact ⟨.inr ⟨i,by simp [WZ,hi],rfl⟩,cells,el,h3,h4,h5⟩
 fm i hi:=by
  have hi':WZ H z i=true:=by simp [WZ,hi]
  obtain ⟨_,h1,_⟩:=FC hi';exact ⟨.inr ⟨i,hi',rfl⟩,(hI.blk i h1).2.1⟩
 w:=rfl
 φ:=rfl
 τ:=rfl
theorem V1 (H:Hp) (m z:List Nat):∀ g,Ay H m z (Wk g) (Wk g)
 | 0=>rfl
 | 1=>⟨⟨rfl,rfl⟩,fun _ _=>rfl⟩
 | 2=>⟨⟨rfl,rfl⟩,fun _ _=>rfl⟩
 | 3=>⟨⟨rfl,rfl⟩,fun _ _=>rfl⟩
 | _ + 4=>rfl
theorem NT {H:Hp} {m z:List Nat} {e e2:Env} (hp:Pull H m z e e2) {i j:Nat} (hρ:e2.ρ j=e.ρ i) {v u:V} (hs:Ay H m z v u) (h:Eb e i u):Eb e2 j v:=by
 cases v;case mp n ks vs =>
  cases u <;> simp only [Ay] at hs;obtain ⟨rfl,hs⟩:=hs;obtain ⟨es,clock,h1,h2,h3⟩:=h;refine ⟨es,clock,by rw [hρ,hp.w];exact h1,h2,fun i x hx=>?_⟩;have hi:i < es.size:=(Array.getElem?_eq_some_iff.1 hx).1;obtain ⟨k1,k2⟩:=hs i Aa;obtain ⟨⟨q1,q2⟩,q3,q4⟩:=h3 i x hx;exact ⟨⟨by rw [BY k1];exact q1,OY hp k1 q2⟩,by rw [BY k2];exact q3,OY hp k2 q4⟩
 case tup fs =>
  cases u <;> simp only [Ay] at hs;rename_i fs';cases fs';case fm=>cases fs <;> first | (simp [Ay] at hs;done) | trivial
  case map k =>
   cases fs <;> first | (simp [Ay] at hs;done) | skip
   case fm=>trivial
   simp only [Ay] at hs;obtain ⟨hk,since,seen,last,h1⟩:=h;obtain ⟨a1,a2⟩:=hp.D _ _ hs hk;exact ⟨a1,since,seen,last,by rw [hρ,hp.w,a2];exact h1⟩
  all_goals exact absurd (show false=true from h.1) Al
 all_goals
  have hsol:=BY hs;have hsz:=EK hs;have hu:u.solid=true:=by
   cases u;case mp=>simp [Ay] at hs
   case tup=>simp [Ay] at hs
   all_goals exact h.1
  obtain ⟨cells,el,h1,h2,h3⟩:=(CT hu).1 h;refine (CT (by rw [hsol];exact hu)).2 ⟨cells,el,by rw [hρ,hp.w];exact h1,by rw [hsz];exact h2,?_⟩;rw [hsz];exact CO hp hs h3
theorem getElem?_nodup {m:List Nat} (hm:m.Nodup) {i j a:Nat} (hi:m[i]?=some a) (hj:m[j]?=some a):i=j:=by
 obtain ⟨h1,h2⟩:=List.getElem?_eq_some_iff.1 hi;obtain ⟨h3,h4⟩:=List.getElem?_eq_some_iff.1 hj;have e1:=hm.idxOf_getElem i h1;have e2:=hm.idxOf_getElem j h3;rw [h2] at e1;rw [h4] at e2;exact e1.symm.trans e2
theorem Inv.sim {c c':Ctx} {e:Env} {H:Hp} (hI:Inv M c e H) {m z:List Nat} (hm:m.Nodup) (hz:∀ i ∈ z,i ∉ m) {H':Hp} (hH:BC H m z H')
 (hc:(c'=c∧∀ j,j < c.k→m[j]?=some j) ∨ (c'=⟨e.sim H m z,fun b=>∃ id,Ag H' id=true∧(e.sim H m z).ρ id=b,m.length⟩∧∀ i ∈ m,Ag H i=true)):Inv M c' (e.sim H m z) H':=by
 have hp:=Pull.of hI m z;have hblk:∀ j,Ag H' j=true→(e.sim H m z).D j∧Eb (e.sim H m z) j (hget H' j)∧¬ (e.sim H m z).im ((e.sim H m z).ρ j)∧(c.O ((e.sim H m z).ρ j) ∨ c.e0.w.heap.size≤(e.sim H m z).ρ j):=by
  intro j hj;obtain ⟨i,h1,h2,h3⟩:=DC hH j hj;obtain ⟨k1,k2,k3,k4⟩:=hI.blk i h2;have hρ:(e.sim H m z).ρ j=e.ρ i:=by simp [Env.sim,h1]
  refine ⟨⟨i,h1,k1⟩,NT hp hρ h3 k2,?_,?_⟩
  ·rw [hρ];rintro (h | ⟨i',hf,he⟩)
   ·exact k3 h
   ·obtain ⟨f1,f2,_⟩:=FC hf;have:=hI.inj i i' h2 f2 he;subst this;exact hz _ f1 (List.mem_of_getElem? h1)
  ·rw [hρ];exact k4
 have hinj:∀ i j,Ag H' i=true→Ag H' j=true→(e.sim H m z).ρ i=(e.sim H m z).ρ j→i=j:=by
  intro i j hi hj hij;obtain ⟨i',h1,h2,_⟩:=DC hH i hi;obtain ⟨j',h3,h4,_⟩:=DC hH j hj;simp only [Env.sim,h1,h3] at hij;have:=hI.inj i' j' h2 h4 hij;subst this;exact getElem?_nodup hm h1 h3
 have himo:∀ b,(e.sim H m z).im b→c.e0.im b ∨ c.O b ∨ c.e0.w.heap.size≤b:=by
  rintro b (h | ⟨i,hf,rfl⟩)
  ·exact hI.imo b h
  ·exact .inr (hI.blk i (FC hf).2.1).2.2.2
 have himb:∀ b,(e.sim H m z).im b→(∃ cells el fz,(e.sim H m z).w.heap[b]?=some (.cells cells el fz)) ∨ ∃ es ck,(e.sim H m z).w.heap[b]?=some (.map es ck):=by
  rintro b (h | ⟨i,hf,rfl⟩)
  ·exact hI.imb b h
  ·rcases (Bool.or_eq_true _ _).mp hf with hf | hf
   ·obtain ⟨_,cells,el,h1,_⟩:=hp.fz i hf;exact .inl ⟨cells,el,_,h1⟩
   ·obtain ⟨_,h1⟩:=hp.fm i hf;obtain ⟨n,ks,vs,hg⟩:=Uy hf;rw [hg] at h1;obtain ⟨es,ck,h2,_⟩:=h1;exact .inr ⟨es,ck,h2⟩
 have hrb:∀ id,(e.sim H m z).D id→(e.sim H m z).ρ id < (e.sim H m z).w.heap.size:=by
  rintro id ⟨i,h1,h2⟩;simp only [Env.sim,h1];exact hI.rb i h2
 have hgs:GS M (e.sim H m z):=⟨fun g hg =>
  CO hp (show Ay H m z (.imm (Wk g)) (.imm (Wk g)) from V1 H m z g) (hI.gs.1 g hg),fun p hp'=>⟨.inl (hI.gs.2 p hp').1,(hI.gs.2 p hp').2⟩⟩
 rcases hc with ⟨rfl,hlow⟩ | ⟨rfl,hall⟩
 ·refine ⟨hI.ev,hblk,hinj,himo,himb,hrb,fun b hb=>.inl (hI.keep b hb),fun id hid=>?_,hgs,hI.φ,hI.τ⟩;obtain ⟨h1,h2⟩:=hI.low id hid;exact ⟨⟨id,hlow id hid,h1⟩,by simp only [Env.sim,hlow id hid];exact h2⟩
 ·refine ⟨Ev.refl _ _,fun j hj=>⟨(hblk j hj).1,(hblk j hj).2.1,(hblk j hj).2.2.1,.inl ⟨j,hj,rfl⟩⟩,hinj,fun b hb=>.inl hb,himb,hrb,fun b hb=>hb,fun id hid=>⟨?_,rfl⟩,hgs,hI.φ,hI.τ⟩;have hid':id < m.length:=hid;exact ⟨m[id],List.getElem?_eq_getElem hid',(hI.blk _ (hall _ (List.getElem_mem hid'))).1⟩
theorem Ak.sim {c:Ctx} {A:List V} {H:Hp} {N:Nat} (m z:List Nat) {A':List V} {H':Hp} {N':Nat} (hm:m.Nodup) (hz:∀ i ∈ z,i ∉ m) (hN:m.length≤N') (hk:c.k≤N') (hlow:∀ j,j < c.k→m[j]?=some j)
 (hA:Bp H m z A' A) (hH:BC H m z H'):Ak M c A H N A' H' N':=by
 rintro a w ⟨e,rfl,hI,hF,hD,hk',hdef⟩;refine ⟨e.sim H m z,rfl,hI.sim hm hz hH (.inl ⟨rfl,hlow⟩),⟨hF.len.trans (I9 hA).symm,fun t=>OG (Pull.of hI m z) (Ib hA t) (hF.val t)⟩,?_,hk,hdef⟩;rintro id hid ⟨i,h1,_⟩;have:=(List.getElem?_eq_some_iff.1 h1).1;omega
def Aj1:V:=.mp 0 (fun _=>.junk) (fun _=>.junk)
def V.ren (m:List Nat):V→V
 | .ptr j p=>(match m[j]? with | some i=>.ptr i p | none=>Aj1)
 | .map j=>(match m[j]? with | some i=>.map i | none=>Aj1)
 | .sl j p o n sz=>(match m[j]? with | some i=>.sl i p o n sz | none=>Aj1)
 | .imm v=>.imm (v.ren m)
 | .lst sz n f=>.lst sz n (fun i=>(f i).ren m)
 | .fn f c=>.fn f (c.ren m)
 | .ifc t v=>.ifc t (v.ren m)
 | .st n fs=>.st n (fs.ren m)
 | .ar sz n f=>.ar sz n (fun i=>(f i).ren m)
 | .fcons o v r=>.fcons o (v.ren m) (r.ren m)
 | .tup fs=>.tup (fs.ren m)
 | .mp n ks vs=>.mp n (fun i=>(ks i).ren m) (fun i=>(vs i).ren m)
 | .fm n ks vs=>.fm n (fun i=>(ks i).ren m) (fun i=>(vs i).ren m)
 | v=>v
theorem Fj (m:List Nat) (v:V):(v.ren m).size=v.size:=by
 cases v <;> simp only [V.ren] <;> first | rfl | (split <;> rfl)
theorem O7 (m:List Nat) (v:V):(v.ren m).isAgg=v.isAgg:=by
 cases v <;> simp only [V.ren] <;> first | rfl | (split <;> rfl)
theorem NX (m:List Nat) (v:V):(v.ren m).chain=v.chain:=by
 cases v <;> simp only [V.ren] <;> first | rfl | (split <;> rfl)
theorem Ad8 (m:List Nat) (d:Nat) (v:V):(v.ren m).flo d=v.flo d:=by
 cases v <;> simp only [V.ren] <;> first | rfl | (split <;> rfl)
def AF:V→Prop
 | .imm _=>False
 | .lst ..=>False
 | .fn _ c=>AF c
 | .ifc _ v=>AF v
 | .st _ fs=>AF fs
 | .ar _ n f=>∀ i,i < n→AF (f i)
 | .fcons _ v r=>AF v∧AF r
 | .tup fs=>AF fs
 | .mp n ks vs=>∀ i,i < n→AF (ks i)∧AF (vs i)
 | .fm ..=>False
 | _=>True
structure Push (L:Prop) (m:List Nat) (e2 e:Env):Prop where
 D:∀ j,e2.D j→∃ i,m[j]?=some i∧e.D i∧e.ρ i=e2.ρ j
 im:¬ L→∀ b,e2.im b→e.im b
 w:e.w=e2.w
 φ:e.φ=e2.φ
 τ:e.τ=e2.τ
theorem BV {L:Prop} {m:List Nat} {e2 e:Env} (hp:Push L m e2 e):∀ {v:V} {cs:List Value},(L→AF v)→R e2 v cs→R e (v.ren m) cs∧(v.solid=true→(v.ren m).solid=true)
 | .junk,_,_,h=>⟨h,fun h=>h⟩
 | .int _ _,_,_,h=>⟨h,fun h=>h⟩
 | .bool _,_,_,h=>⟨h,fun h=>h⟩
 | .str _,_,_,h=>⟨h,fun h=>h⟩
 | .nilp,_,_,h=>⟨h,fun h=>h⟩
 | .nils,_,_,h=>⟨h,fun h=>h⟩
 | .nilm,_,_,h=>⟨h,fun h=>h⟩
 | .nilf,_,_,h=>⟨h,fun h=>h⟩
 | .nili,_,_,h=>⟨h,fun h=>h⟩
 | .fnil,_,_,h=>⟨h,fun h=>h⟩
 | .ptr j p, cs, _, h => by
   simp only [R] at h;obtain ⟨i,h1,h2,h3⟩:=hp.D j h.1;simp only [V.ren,h1,R,h3];exact ⟨⟨h2,h.2⟩,fun _=>rfl⟩
 | .map j, cs, _, h => by
   simp only [R] at h;obtain ⟨i,h1,h2,h3⟩:=hp.D j h.1;simp only [V.ren,h1,R,h3];exact ⟨⟨h2,h.2⟩,fun _=>rfl⟩
 | .sl j p o n sz, cs, _, h => by
   simp only [R] at h;obtain ⟨i,h1,h2,h3⟩:=hp.D j h.1;simp only [V.ren,h1,R,h3,hp.w];exact ⟨⟨h2,h.2⟩,fun _=>rfl⟩
 | .imm v, cs, hL, h => by
   have hnL:¬ L:=fun hl=>(hL hl:AF (.imm v)).elim;simp only [R] at h;obtain ⟨b,o,c,el,fz,h1,h2,h3,h4,h5⟩:=h;simp only [V.ren,R,Fj,hp.w];exact ⟨⟨b,o,c,el,fz,h1,hp.im hnL b h2,h3,h4,(BV hp (fun hl=>(hnL hl).elim) h5).1⟩,fun _=>rfl⟩
 | .lst sz n f, cs, hL, h => by
   have hnL:¬ L:=fun hl=>(hL hl:AF (.lst sz n f)).elim;simp only [R] at h;obtain ⟨a,cap,h1,h2,h3⟩:=h;simp only [V.ren,R,Fj,hp.w];refine ⟨⟨a,cap,h1,h2,fun h0=>?_⟩,fun _=>rfl⟩;obtain ⟨b,o,c,el,fz,k1,k2,k3,k4,k5⟩:=h3 h0;refine ⟨b,o,c,el,fz,k1,hp.im hnL b k2,k3,k4,fun i hi=>?_⟩;obtain ⟨q1,q2⟩:=BV hp (fun hl=>(hnL hl).elim) (k5 i hi).2;exact ⟨⟨q2 (k5 i hi).1.1,(k5 i hi).1.2⟩,q1⟩
 | .fn f c, cs, hL, h => by
   simp only [R] at h;obtain ⟨xs,h1,h2⟩:=h;simp only [V.ren,R,hp.φ];exact ⟨⟨xs,h1,(BV (v:=c) hp hL h2).1⟩,fun _=>rfl⟩
 | .ifc t v, cs, hL, h => by
   simp only [R] at h;obtain ⟨x,h1,h2,h3⟩:=h;simp only [V.ren,R,hp.τ,O7];refine ⟨⟨x,h1,?_,?_⟩,fun _=>rfl⟩
   ·split at h3
    ·obtain ⟨c,k1,k2⟩:=h3;exact (BV (v:=v) hp hL k2).2 h2
    ·exact (BV (v:=v) hp hL h3).2 h2
   ·split at h3
    ·obtain ⟨c,k1,k2⟩:=h3;exact ⟨c,k1,(BV (v:=v) hp hL k2).1⟩
    ·exact (BV (v:=v) hp hL h3).1
 | .st n fs, cs, hL, h => by
   simp only [R] at h;simp only [V.ren,R,NX];exact ⟨⟨h.1,h.2.1,(BV (v:=fs) hp hL h.2.2).1⟩,fun _=>rfl⟩
 | .ar sz n f, cs, hL, h => by
   simp only [R] at h;simp only [V.ren,R,Fj];refine ⟨⟨h.1,fun i hi=>?_⟩,fun _=>rfl⟩;obtain ⟨q1,q2⟩:=BV hp (fun hl=>(hL hl:∀ i,i < n→AF (f i)) i hi) (h.2 i hi).2;exact ⟨⟨q2 (h.2 i hi).1.1,(h.2 i hi).1.2⟩,q1⟩
 | .fcons o v r, cs, hL, h => by
   simp only [R] at h;simp only [V.ren,R,Fj,NX,Ad8];exact ⟨⟨h.1,h.2.1,h.2.2.1,(BV hp (fun hl=>(hL hl:AF v∧AF r).1) h.2.2.2.1).1,(BV hp (fun hl=>(hL hl:AF v∧AF r).2) h.2.2.2.2).1⟩,fun hf=>by simp [V.solid] at hf⟩
 | .tup fs,cs,_,h=>by simp only [R] at h
 | .mp n ks vs,cs,_,h=>by simp only [R] at h
 | .fm n ks vs, cs, hL, h => by
   have hnL:¬ L:=fun hl=>(hL hl:AF (.fm n ks vs)).elim;simp only [R] at h;obtain ⟨b,es,ck,hc,hi,hb,hn,hx⟩:=h;simp only [V.ren,R,O7,hp.w];refine ⟨⟨b,es,ck,hc,hp.im hnL b hi,hb,hn,fun i x hix=>?_⟩,fun _=>rfl⟩;obtain ⟨⟨q1,q2⟩,q3,q4⟩:=hx i x hix;refine ⟨⟨?_,?_⟩,?_,?_⟩
   ·split at q2
    ·obtain ⟨c,k1,k2⟩:=q2;exact (BV (v:=ks i) hp (fun hl=>(hnL hl).elim) k2).2 q1
    ·exact (BV (v:=ks i) hp (fun hl=>(hnL hl).elim) q2).2 q1
   ·split at q2
    ·obtain ⟨c,k1,k2⟩:=q2;exact ⟨c,k1,(BV (v:=ks i) hp (fun hl=>(hnL hl).elim) k2).1⟩
    ·exact (BV (v:=ks i) hp (fun hl=>(hnL hl).elim) q2).1
   ·split at q4
    ·obtain ⟨c,k1,k2⟩:=q4;exact (BV (v:=vs i) hp (fun hl=>(hnL hl).elim) k2).2 q3
    ·exact (BV (v:=vs i) hp (fun hl=>(hnL hl).elim) q4).2 q3
   ·split at q4
    ·obtain ⟨c,k1,k2⟩:=q4;exact ⟨c,k1,(BV (v:=vs i) hp (fun hl=>(hnL hl).elim) k2).1⟩
    ·exact (BV (v:=vs i) hp (fun hl=>(hnL hl).elim) q4).1
theorem K5 {L:Prop} {m:List Nat} {e2 e:Env} (hp:Push L m e2 e) {v:V} {x:Value} (hL:L→AF v) (hs:v.solid=true) (h:RS e2 v x):RS e (v.ren m) x∧(v.ren m).solid=true:=by
 unfold RS at *
 rw [O7];split
 ·rename_i ha;simp only [ha] at h;obtain ⟨c,h1,h2⟩:=h;exact ⟨⟨c,h1,(BV hp hL h2).1⟩,(BV hp hL h2).2 hs⟩
 ·rename_i ha;simp only [ha] at h;exact ⟨(BV hp hL h).1,(BV hp hL h).2 hs⟩
theorem UK {L:Prop} {m:List Nat} {e2 e:Env} (hp:Push L m e2 e):∀ {v:V} {xs:Array Value},(L→AF v)→RT e2 v xs→RT e (v.ren m) xs
 | .fcons i v r, xs, hL, h => by
   simp only [RT] at h;simp only [V.ren,RT];obtain ⟨⟨h0,y,h1,h2⟩,h3⟩:=h;obtain ⟨q1,q2⟩:=K5 hp (fun hl=>(hL hl:AF v∧AF r).1) h0 h2;exact ⟨⟨q2,y,h1,q1⟩,UK hp (fun hl=>(hL hl:AF v∧AF r).2) h3⟩
 | .ptr j p,_,_,_ | .map j,_,_,_ | .sl j p o n sz,_,_,_=>by simp only [V.ren];split <;> trivial
 | .junk,_,_,_ | .int ..,_,_,_ | .bool _,_,_,_ | .str _,_,_,_ | .nilp,_,_,_ | .imm _,_,_,_ | .nils,_,_,_ | .lst ..,_,_,_ | .nilm,_,_,_ | .nilf,_,_,_ | .fn ..,_,_,_ | .nili,_,_,_ | .ifc ..,_,_,_ | .st ..,_,_,_ | .ar ..,_,_,_ | .fnil,_,_,_ | .tup _,_,_,_ | .mp ..,_,_,_ | .fm ..,_,_,_=>trivial
theorem U1 {L:Prop} {m:List Nat} {e2 e:Env} (hp:Push L m e2 e) {v:V} {x:Value} (hL:L→AF v) (h:RV e2 v x):RV e (v.ren m) x:=by
 by_cases hs:v.solid=true
 ·rw [Bh hs] at h;obtain ⟨h1,h2⟩:=K5 hp hL hs h;rw [Bh h2];exact h1
 ·cases v <;> simp only [V.solid,not_true_eq_false] at hs;case junk=>trivial
  case tup fs =>
   obtain ⟨xs,h1,h2⟩:=h;exact ⟨xs,h1,UK hp hL h2⟩
  all_goals exact (h:False).elim
theorem MA {L:Prop} {m:List Nat} {e2 e:Env} (hp:Push L m e2 e) {i j:Nat} (hρ:e.ρ i=e2.ρ j) {v:V} (hL:L→AF v) (h:Eb e2 j v):Eb e i (v.ren m):=by
 by_cases hs:v.solid=true
 ·obtain ⟨cells,el,h1,h2,h3⟩:=(CT hs).1 h;obtain ⟨q1,q2⟩:=BV hp hL h3;refine (CT (q2 hs)).2 ⟨cells,el,by rw [hρ,hp.w];exact h1,by rw [Fj];exact h2,?_⟩;rw [Fj];exact q1
 ·cases v;case mp n ks vs =>
   obtain ⟨es,clock,h1,h2,h3⟩:=h;refine ⟨es,clock,by rw [hρ,hp.w];exact h1,h2,fun i x hx=>?_⟩;have hi:i < es.size:=(Array.getElem?_eq_some_iff.1 hx).1;obtain ⟨⟨q1,q2⟩,q3,q4⟩:=h3 i x hx;obtain ⟨a1,a2⟩:=K5 hp (fun hl=>((hL hl:∀ i,i < n→AF (ks i)∧AF (vs i)) i Aa).1) q1 q2;obtain ⟨b1,b2⟩:=K5 hp (fun hl=>((hL hl:∀ i,i < n→AF (ks i)∧AF (vs i)) i Aa).2) q3 q4;exact ⟨⟨a2,a1⟩,b2,b1⟩
  case tup fs =>
   cases fs;case map j =>
    obtain ⟨hj,since,seen,last,h1⟩:=h;obtain ⟨i',k1,k2,k3⟩:=hp.D j hj;have hr:(V.tup (.map j)).ren m = .tup (.map i'):=by simp [V.ren,k1]
    rw [hr];exact ⟨k2,since,seen,last,by rw [hρ,hp.w,k3];exact h1⟩
   case fm=>trivial
   all_goals exact absurd (show false=true from h.1) Al
  all_goals exact absurd h.1 hs
def l9:=@AF.eq_1
def u7:=@V.ren.eq_1
end Mv
