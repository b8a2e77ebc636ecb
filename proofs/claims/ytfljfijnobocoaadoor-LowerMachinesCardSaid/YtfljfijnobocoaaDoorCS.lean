/- A part. -/
import Derived.Test.YtfljfijnobocoaaDoorCR
set_option linter.all false
namespace Mv
open Go
def Sj (H:Hp) (z:List Nat) (i:Nat):Bool:=z.contains i && Af H i && (hget H i).solid
def V.isMp:V→Bool
 | .mp ..=>true
 | _=>false
def Amf (H:Hp) (z:List Nat) (i:Nat):Bool:=z.contains i && Af H i && (hget H i).isMp
def Ame (H:Hp) (z:List Nat) (i:Nat):Bool:=Sj H z i || Amf H z i
def Az (H:Hp) (m z:List Nat):V→V→Prop
 | .junk,a=>a = .junk
 | .int k n,a=>a = .int k n
 | .bool b,a=>a = .bool b
 | .str s,a=>a = .str s
 | .nilp,a=>a = .nilp
 | .nils,a=>a = .nils
 | .nilm,a=>a = .nilm
 | .nilf,a=>a = .nilf
 | .nili,a=>a = .nili
 | .fnil,a=>a = .fnil
 | .ptr j p,a=>(match a with | .ptr i q=>m[j]?=some i∧As q=As p | _=>False)
 | .map j,a=>(match a with | .map i=>m[j]?=some i | _=>False)
 | .sl j p o n sz,a=>(match a with | .sl i q o' n' sz'=>m[j]?=some i∧(As q=As p∧o'=o∧n'=n∧sz'=sz) | _=>False)
 | .imm v, a => (match a with
   | .imm u=>Az H m z v u
   | .ptr i q=>Sj H z i=true∧(hget H i).ok q∧Az H m z v ((hget H i).get q)
   | _=>False)
 | .lst sz n f, a => (match a with
   | .lst sz' n' g=>(sz'=sz∧n'=n)∧∀ i,i < n→Az H m z (f i) (g i)
   | .sl i q o n' sz' => (sz' = sz ∧ n' = n) ∧ Sj H z i = true ∧ (hget H i).ok q ∧ (match (hget H i).get q with
     | .ar s L g=>s=sz∧o + n≤L∧∀ i,i < n→Az H m z (f i) (g (o + i))
     | _=>False)
   | .nils=>n=0
   | _=>False)
 | .fn f c,a=>(match a with | .fn f' c'=>f'=f∧Az H m z c c' | _=>False)
 | .ifc t v,a=>(match a with | .ifc t' v'=>t'=t∧Az H m z v v' | _=>False)
 | .st n fs,a=>(match a with | .st n' fs'=>n'=n∧Az H m z fs fs' | _=>False)
 | .ar sz n f,a=>(match a with | .ar sz' n' g=>(sz'=sz∧n'=n)∧∀ i,i < n→Az H m z (f i) (g i) | _=>False)
 | .fcons o v r,a=>(match a with | .fcons o' v' r'=>o'=o∧Az H m z v v'∧Az H m z r r' | _=>False)
 | .tup fs,a=>(match a with | .tup fs'=>Az H m z fs fs' | _=>False)
 | .mp n ks vs,a=>(match a with | .mp n' ks' vs'=>n'=n∧∀ i,i < n→Az H m z (ks i) (ks' i)∧Az H m z (vs i) (vs' i) | _=>False)
 | .fm n ks vs, a => (match a with
   | .fm n' ks' vs'=>n'=n∧∀ i,i < n→Az H m z (ks i) (ks' i)∧Az H m z (vs i) (vs' i)
   | .map i=>Amf H z i=true∧(match hget H i with | .mp n' ks' vs'=>n'=n∧∀ i,i < n→Az H m z (ks i) (ks' i)∧Az H m z (vs i) (vs' i) | _=>False)
   | _=>False)
theorem Do {H:Hp} {m z:List Nat} {v u:V} (h:Az H m z v u):v.size=u.size:=by
 cases v <;> cases u <;> simp_all [Az,V.size]
theorem Qr {H:Hp} {m z:List Nat} {v u:V} (h:Az H m z v u):v.isAgg=u.isAgg:=by
 cases v <;> cases u <;> simp_all [Az,V.isAgg]
theorem Cb {H:Hp} {m z:List Nat} {v u:V} (h:Az H m z v u):v.solid=u.solid:=by
 cases v <;> cases u <;> simp_all [Az,V.solid]
theorem Lb {H:Hp} {m z:List Nat} {v u:V} (h:Az H m z v u):v.chain=u.chain:=by
 cases v <;> cases u <;> simp_all [Az,V.chain]
theorem XX {H:Hp} {m z:List Nat} {v u:V} (d:Nat) (h:Az H m z v u):v.flo d=u.flo d:=by
 cases v <;> cases u <;> simp_all [Az,V.flo]
structure Pull (H:Hp) (m z:List Nat) (e e2:Env):Prop where
 D:∀ j i,m[j]?=some i→e.D i→e2.D j∧e2.ρ j=e.ρ i
 im:∀ b,e.im b→e2.im b
 fz:∀ i,Sj H z i=true→e2.im (e.ρ i)∧∃ cells el,e.w.heap[e.ρ i]?=some (.cells cells el (0,0))∧(hget H i).size≤cells.size∧R e (hget H i) (cells.toList.take (hget H i).size)
 fm:∀ i,Amf H z i=true→e2.im (e.ρ i)∧D8 e i (hget H i)
 w:e2.w=e.w
 φ:e2.φ=e.φ
 τ:e2.τ=e.τ
theorem CW {H:Hp} {m z:List Nat} {e e2:Env} (hp:Pull H m z e e2):∀ {v u:V} {cs:List Value},Az H m z v u→R e u cs→R e2 v cs
 | .junk,u,cs,hs,h=>by simp only [Az] at hs;subst hs;exact h
 | .int _ _,u,cs,hs,h=>by simp only [Az] at hs;subst hs;exact h
 | .bool _,u,cs,hs,h=>by simp only [Az] at hs;subst hs;exact h
 | .str _,u,cs,hs,h=>by simp only [Az] at hs;subst hs;exact h
 | .nilp,u,cs,hs,h=>by simp only [Az] at hs;subst hs;exact h
 | .nils,u,cs,hs,h=>by simp only [Az] at hs;subst hs;exact h
 | .nilm,u,cs,hs,h=>by simp only [Az] at hs;subst hs;exact h
 | .nilf,u,cs,hs,h=>by simp only [Az] at hs;subst hs;exact h
 | .nili,u,cs,hs,h=>by simp only [Az] at hs;subst hs;exact h
 | .fnil,u,cs,hs,h=>trivial
 | .ptr j p, u, cs, hs, h => by
   cases u <;> simp only [Az] at hs
   obtain ⟨h1,h2⟩:=hs
   simp only [R] at h ⊢
   obtain ⟨d1,d2⟩:=hp.D _ _ h1 h.1
   rw [d2,← h2];exact ⟨d1,h.2⟩
 | .map j, u, cs, hs, h => by
   cases u <;> simp only [Az] at hs
   simp only [R] at h ⊢
   obtain ⟨d1,d2⟩:=hp.D _ _ hs h.1
   rw [d2];exact ⟨d1,h.2⟩
 | .sl j p o n sz, u, cs, hs, h => by
   cases u <;> simp only [Az] at hs
   obtain ⟨h1,h2,rfl,rfl,rfl⟩:=hs
   simp only [R] at h ⊢
   obtain ⟨d1,d2⟩:=hp.D _ _ h1 h.1
   rw [d2,← h2,hp.w];exact ⟨d1,h.2⟩
 | .imm v, u, cs, hs, h => by
   cases u <;> simp only [Az] at hs
   case imm u =>
    simp only [R] at h ⊢
    obtain ⟨b,o,c,el,fz,h1,h2,h3,h4,h5⟩:=h
    rw [Do hs,hp.w]
    exact ⟨b,o,c,el,fz,h1,hp.im b h2,h3,h4,CW hp hs h5⟩
   case ptr i q =>
    simp only [R] at h ⊢
    obtain ⟨h0,h1,h2⟩:=hs
    obtain ⟨k1,cells,el,hc,hsz,hR⟩:=hp.fz i h0
    have hlen:(cells.toList.take (hget H i).size).length=(hget H i).size:=DI
    obtain ⟨g1,g2⟩:=Ds hR hlen h1
    rw [hlen] at g1
    rw [Do h2,hp.w]
    refine ⟨_,_,cells,el,_,h.2,k1,hc,by omega,CW hp h2 ?_⟩
    rw [List.drop_take,List.take_take,Nat.min_eq_left Aa] at g2
    exact g2
 | .lst sz n f, u, cs, hs, h => by
   cases u <;> simp only [Az] at hs
   case lst sz' n' g =>
    obtain ⟨⟨rfl,rfl⟩,hs⟩:=hs
    simp only [R] at h ⊢
    obtain ⟨a,cap,h1,h2,h3⟩:=h
    refine ⟨a,cap,h1,h2,fun h0=>?_⟩
    obtain ⟨b,o,c,el,fz,k1,k2,k3,k4,k5⟩:=h3 h0
    refine ⟨b,o,c,el,fz,k1,hp.im b k2,by rw [hp.w];exact k3,k4,fun i hi=>⟨?_,CW hp (hs i hi) (k5 i hi).2⟩⟩
    rw [Cb (hs i hi),Do (hs i hi)]
    exact (k5 i hi).1
   case nils =>
    subst hs
    simp only [R] at h ⊢
    exact ⟨none,0,h,Nat.le_refl _,fun h=>absurd h (Nat.lt_irrefl _)⟩
   case sl i q o n' sz' =>
    obtain ⟨⟨rfl,rfl⟩,h0,h1,hs⟩:=hs
    split at hs
    case h_2=>exact hs.elim
    rename_i s L g hget
    obtain ⟨rfl,hL,hs⟩:=hs
    simp only [R] at h ⊢
    obtain ⟨_,b,cap,hcs,hcap,hle,_⟩:=h
    refine ⟨b,cap,hcs,hle,fun hn=>?_⟩
    have hb:=hcap.resolve_left Aa
    obtain ⟨k1,cells,el,hc,hsz,hR⟩:=hp.fz i h0
    have hlen:(cells.toList.take (Mv.hget H i).size).length=(Mv.hget H i).size:=DI
    obtain ⟨g1,g2⟩:=Ds hR hlen h1
    rw [hlen] at g1
    rw [hget] at g1 g2
    rw [List.drop_take,List.take_take,Nat.min_eq_left Aa] at g2
    have g1:As q + L * s≤(Mv.hget H i).size:=g1
    have g2:R e (.ar s L g) ((cells.toList.drop (As q)).take (L * s)):=g2
    simp only [R] at g2
    have hmul:∀ j,j≤L→j * s≤L * s:=fun j hj=>Nat.mul_le_mul_right _ hj
    refine ⟨_,_,cells,el,_,hb,k1,by rw [hp.w];exact hc,?_,fun j hj=>⟨?_,?_⟩⟩
    ·have:=hmul (o + n') hL
     rw [Nat.add_mul] at this
     omega
    ·have:=(g2.2 (o + j) Aa).1
     rw [Cb (hs j hj),Do (hs j hj)]
     exact this
    ·have g3:=(g2.2 (o + j) Aa).2
     refine CW hp (hs j hj) ?_
     have h3:=hmul (o + j + 1) Aa
     rw [Nat.add_mul,Nat.one_mul] at h3
     rw [List.drop_take,List.take_take,Nat.min_eq_left Aa,List.drop_drop] at g3
     have e1:As q + o * s + j * s=As q + (o + j) * s:=by rw [Nat.add_mul];omega
     rw [e1];exact g3
 | .fn f c, u, cs, hs, h => by
   cases u <;> simp only [Az] at hs
   obtain ⟨rfl,hs⟩:=hs
   simp only [R] at h ⊢
   obtain ⟨xs,h1,h2⟩:=h
   rw [hp.φ]
   exact ⟨xs,h1,CW hp hs h2⟩
 | .ifc t v, u, cs, hs, h => by
   cases u <;> simp only [Az] at hs
   obtain ⟨rfl,hs⟩:=hs
   simp only [R] at h ⊢
   obtain ⟨x,h1,h2,h3⟩:=h
   rw [hp.τ,Cb hs,Qr hs]
   refine ⟨x,h1,h2,?_⟩
   split at h3
   ·obtain ⟨c,k1,k2⟩:=h3;exact ⟨c,k1,CW hp hs k2⟩
   ·exact CW hp hs h3
 | .st n fs, u, cs, hs, h => by
   cases u <;> simp only [Az] at hs
   obtain ⟨rfl,hs⟩:=hs
   simp only [R] at h ⊢
   rw [Lb hs]
   exact ⟨h.1,h.2.1,CW hp hs h.2.2⟩
 | .ar sz n f, u, cs, hs, h => by
   cases u <;> simp only [Az] at hs
   obtain ⟨⟨rfl,rfl⟩,hs⟩:=hs
   simp only [R] at h ⊢
   refine ⟨h.1,fun i hi=>⟨?_,CW hp (hs i hi) (h.2 i hi).2⟩⟩
   rw [Cb (hs i hi),Do (hs i hi)]
   exact (h.2 i hi).1
 | .fcons o v r, u, cs, hs, h => by
   cases u <;> simp only [Az] at hs
   obtain ⟨rfl,hv,hr⟩:=hs
   simp only [R] at h ⊢
   rw [Lb hr,XX _ hr,Do hv]
   exact ⟨h.1,h.2.1,h.2.2.1,CW hp hv h.2.2.2.1,CW hp hr h.2.2.2.2⟩
 | .tup fs, u, cs, hs, h => by
   cases u <;> simp only [Az] at hs
   simp only [R] at h
 | .mp n ks vs, u, cs, hs, h => by
   cases u <;> simp only [Az] at hs
   simp only [R] at h
 | .fm n ks vs, u, cs, hs, h => by
   cases u <;> simp only [Az] at hs
   case fm n' ks' vs' =>
    obtain ⟨rfl,hs⟩:=hs
    simp only [R] at h ⊢
    obtain ⟨b,es,ck,hc,hi,hb,hn,hx⟩:=h
    refine ⟨b,es,ck,hc,hp.im b hi,by rw [hp.w];exact hb,hn,fun i x hix=>?_⟩
    have hi':i < es.size:=(Array.getElem?_eq_some_iff.1 hix).1
    obtain ⟨s1,s2⟩:=hs i Aa
    obtain ⟨⟨q1,q2⟩,q3,q4⟩:=hx i x hix
    refine ⟨⟨by rw [Cb s1];exact q1,?_⟩,by rw [Cb s2];exact q3,?_⟩
    ·rw [Qr s1]
     split
     ·rename_i ha;simp only [ha] at q2;obtain ⟨c,k1,k2⟩:=q2;exact ⟨c,k1,CW hp s1 k2⟩
     ·rename_i ha;simp only [ha] at q2;exact CW hp s1 q2
    ·rw [Qr s2]
     split
     ·rename_i ha;simp only [ha] at q4;obtain ⟨c,k1,k2⟩:=q4;exact ⟨c,k1,CW hp s2 k2⟩
     ·rename_i ha;simp only [ha] at q4;exact CW hp s2 q4
   case map j =>
    obtain ⟨h0,hs⟩:=hs
    obtain ⟨k1,k2⟩:=hp.fm j h0
    split at hs
    case h_2=>exact hs.elim
    rename_i n' ks' vs' hg
    obtain ⟨rfl,hs⟩:=hs
    rw [hg] at k2
    obtain ⟨es,ck,hb,hn,hx⟩:=k2
    simp only [R] at h ⊢
    refine ⟨e.ρ j,es,ck,h.2,k1,by rw [hp.w];exact hb,hn,fun i x hix=>?_⟩
    have hi':i < es.size:=(Array.getElem?_eq_some_iff.1 hix).1
    obtain ⟨s1,s2⟩:=hs i Aa
    obtain ⟨⟨q1,q2⟩,q3,q4⟩:=hx i x hix
    unfold RS at q2 q4
    refine ⟨⟨by rw [Cb s1];exact q1,?_⟩,by rw [Cb s2];exact q3,?_⟩
    ·rw [Qr s1]
     split
     ·rename_i ha;simp only [ha] at q2;obtain ⟨c,k1,k2⟩:=q2;exact ⟨c,k1,CW hp s1 k2⟩
     ·rename_i ha;simp only [ha] at q2;exact CW hp s1 q2
    ·rw [Qr s2]
     split
     ·rename_i ha;simp only [ha] at q4;obtain ⟨c,k1,k2⟩:=q4;exact ⟨c,k1,CW hp s2 k2⟩
     ·rename_i ha;simp only [ha] at q4;exact CW hp s2 q4
theorem Mb {H:Hp} {m z:List Nat} {e e2:Env} (hp:Pull H m z e e2) {v u:V} {x:Value} (hs:Az H m z v u) (h:RS e u x):RS e2 v x:=by
 unfold RS at *
 rw [Qr hs]
 split
 ·rename_i ha;simp only [ha] at h;obtain ⟨c,h1,h2⟩:=h;exact ⟨c,h1,CW hp hs h2⟩
 ·rename_i ha;simp only [ha] at h;exact CW hp hs h
theorem Tz {H:Hp} {m z:List Nat} {e e2:Env} (hp:Pull H m z e e2):∀ {v u:V} {xs:Array Value},Az H m z v u→RT e u xs→RT e2 v xs
 | .fcons i v r, u, xs, hs, h => by
   cases u <;> simp only [Az] at hs
   obtain ⟨rfl,hv,hr⟩:=hs
   simp only [RT] at h ⊢
   obtain ⟨⟨h0,y,h1,h2⟩,h3⟩:=h
   rw [Cb hv]
   exact ⟨⟨h0,y,h1,Mb hp hv h2⟩,Tz hp hr h3⟩
 | .junk,_,_,_,_ | .int ..,_,_,_,_ | .bool _,_,_,_,_ | .str _,_,_,_,_ | .nilp,_,_,_,_ | .ptr ..,_,_,_,_ | .imm _,_,_,_,_ | .nils,_,_,_,_ | .sl ..,_,_,_,_ | .lst ..,_,_,_,_ | .nilm,_,_,_,_ | .map _,_,_,_,_ | .nilf,_,_,_,_ | .fn ..,_,_,_,_ | .nili,_,_,_,_ | .ifc ..,_,_,_,_ | .st ..,_,_,_,_ | .ar ..,_,_,_,_ | .fnil,_,_,_,_ | .tup _,_,_,_,_ | .mp ..,_,_,_,_ | .fm ..,_,_,_,_=>trivial
def Bi (H:Hp) (m z:List Nat) (v u:V):Prop :=
 match v with
 | .junk=>True
 | v=>Az H m z v u
theorem Lh {H:Hp} {m z:List Nat} {e e2:Env} (hp:Pull H m z e e2) {v u:V} {x:Value} (hs:Bi H m z v u) (h:RV e u x):RV e2 v x:=by
 cases v
 case junk=>trivial
 case tup fs =>
  cases u <;> simp only [Bi,Az] at hs
  obtain ⟨xs,h1,h2⟩:=h
  exact ⟨xs,h1,Tz hp hs h2⟩
 all_goals
  simp only [Bi] at hs
  have hsol:=Cb hs
  cases u <;> first
   | (simp only [Az,reduceCtorEq] at hs;done)
   | (simp only [Az] at hs;done)
   | (simp only [RV] at h;done)
   | (rw [AI rfl] at h;rw [AI rfl];exact Mb hp hs h)
   | skip
end Mv
