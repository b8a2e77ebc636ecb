/- A part. -/
import Derived.Test.YtncipgmjhaiagaaGreatDoorEM
import Derived.Laws.Sem
set_option linter.all false
namespace Mv
open Go
variable {M:Seat}
inductive RVr where
 | tmp (t:Nat)
 | cell (a:Nat) (agg:Bool) (sz:Nat)
structure LF where
 c:LC
 np:Nat
 nf:Nat
 nt:Nat
 rs:List RVr
def Ek (A:List V) (H:Hp):RVr→V
 | .tmp t=>A.getD t .junk
 | .cell a agg sz=>(Ad A H 0 (.load agg sz (.t a))).v
def Ig (A:List V) (H:Hp):RVr→Prop
 | .tmp _=>True
 | .cell a agg sz=>(match A.getD a .junk with | .ptr _ _=>True | _=>False)∧(Ad A H 0 (.load agg sz (.t a))).pre
def Gx (A:List V) (H:Hp):List RVr→Prop
 | []=>True
 | r :: rs=>Ig A H r∧Gx A H rs
def GH (A:List V) (H:Hp):List RVr→Nat→V
 | [],_=>.fnil
 | r :: rs, i => match Ek A H r with
   | .junk=>GH A H rs (i + 1)
   | v=>.fcons i v (GH A H rs (i + 1))
def HD (A:List V) (H:Hp):List RVr→Prop
 | []=>True
 | r :: rs=>(match Ek A H r with | .junk=>True | v=>v.solid=true)∧HD A H rs
def DS (A:List V) (H:Hp) (rs:List RVr):Prop × V :=
 match rs with
 | [r]=>(Ig A H r,Ek A H r)
 | rs=>(Gx A H rs∧HD A H rs,.tup (GH A H rs 0))
def Tp:=(aq8 @DS.eq_1 @DS.eq_2 @Ig.eq_1 @Ig.eq_2 @Gx.eq_1 @Gx.eq_2 @Ek.eq_1 @Ek.eq_2)
def Aih (M:Seat):ResultVar→RVr→Bool
 | .tmp t,.tmp t'=>t == t'
 | .cell a t,.cell a' agg sz=>a == a' && Fr M t == some sz && Ht M t == some agg
 | _,_=>false
def KU (M:Seat):List ResultVar→List RVr→Bool
 | [],[]=>true
 | r :: rs,s :: ss=>Aih M r s && KU M rs ss
 | _,_=>false
def Al (M:Seat) (f:Nat) (lf:LF):Bool :=
 match M.P.funcs[M.φ f]? with
 | some fn=>(match fn.body with | some c=>B6 M c lf.c | none=>false) && fn.ntmps == lf.nt && KU M fn.results.toList lf.rs
 | none=>false
def GI (us:List V) (nt:Nat):List V:=us ++ List.replicate (nt - us.length) .junk
def Alt (M:Seat) (x:Ctx) (rs:List RVr) (Q:V→Hp→Nat→Prop) (A:List V) (H:Hp) (N:Nat):Prop :=
 ∃ A' H' N',Aj M x A H N A' H' N'∧(DS A' H' rs).1∧Q (DS A' H' rs).2 H' N'
theorem Alt.now {x:Ctx} {rs:List RVr} {Q:V→Hp→Nat→Prop} {A:List V} {H:Hp} {N:Nat} (h:(DS A H rs).1∧Q (DS A H rs).2 H N):Alt M x rs Q A H N :=
 ⟨A,H,N,Aj.refl,h⟩
def Acc (tmps:Array Value):ResultVar→Sem Value
 | .tmp t=>pure (tmps.getD t undef)
 | .cell a' t=>do loadVar t (← asAddr (tmps.getD a' undef))
theorem ZZ {c:Ctx} {e:Env} {H:Hp} {A:List V} {a:Act} (hI:Inv M c e H) (hA:FR e A a.tmps) {r:ResultVar} {s:RVr} (hc:Aih M r s=true) (hp:Ig A H s) :
 ∃ v,Sem.run M.P (Acc a.tmps r) e.w = .ok v e.w∧RV e (Ek A H s) v:=by
 cases r <;> cases s <;> simp only [Aih,Bool.false_eq_true] at hc
 case tmp.tmp t t' =>
  simp only [beq_iff_eq] at hc
  subst hc
  exact ⟨_,rfl,hA.val t⟩
 case cell.cell a' t a'' agg sz =>
  simp only [Bool.and_eq_true,beq_iff_eq] at hc
  obtain ⟨⟨rfl,hs⟩,ha⟩:=hc
  obtain ⟨hptr,hp⟩:=hp
  have hv:=hA.val a'
  simp only [Ek]
  simp only [Ad,X.ev] at hp ⊢
  split at hptr
  case h_2=>exact hptr.elim
  rename_i id p hy
  rw [hy] at hv
  simp only [hy] at hp ⊢
  obtain ⟨⟨h1,h2,h3⟩,h4,h5,h6⟩:=hp
  obtain ⟨cells,el,hcc,hsz,hR⟩:=hI.cells h1 h2
  have hlen:(cells.toList.take (hget H id).size).length=(hget H id).size:=Cd
  obtain ⟨g1,g2⟩:=DD hR hlen h3
  rw [hlen] at g1
  have g3:R e ((hget H id).get p) ((cells.toList.drop (Ar p)).take sz):=by
   rw [List.drop_take,List.take_take,Nat.min_eq_left Aa,h5] at g2
   exact g2
  have hle:Ar p + sz≤cells.size:=Aa
  obtain ⟨k1,k2⟩:=D7 (o:=Ar p) h4 h5 h6 hle g3
  simp only [RV,RS,V.isAgg,R,Gp] at hv
  refine ⟨_,?_,k2⟩
  have:=F6 hs ha hcc hle k1
  simp only [Acc]
  rw [hv.2]
  simpa [Instr.loadAt,Instr.sureAddr,asAddr] using this
theorem SU {c:Ctx} {e:Env} {H:Hp} {A:List V} {a:Act} (hI:Inv M c e H) (hA:FR e A a.tmps):∀ (rs:List ResultVar) (ss:List RVr),KU M rs ss=true→Gx A H ss →
 ∃ vs:List Value,Sem.run M.P (rs.mapM (Acc a.tmps)) e.w = .ok vs e.w∧vs.length=ss.length∧∀ i (h:i < ss.length),RV e (Ek A H ss[i]) (vs.getD i undef)
 | [],[],_,_=>⟨[],by simp,rfl,fun i h=>by simp at h⟩
 | r :: rs, s :: ss, hc, hp => by
   simp only [KU,Bool.and_eq_true] at hc
   simp only [Gx] at hp
   obtain ⟨v,h1,h2⟩:=ZZ hI hA hc.1 hp.1
   obtain ⟨vs,h3,h4,h5⟩:=SU hI hA rs ss hc.2 hp.2
   refine ⟨v :: vs,?_,by simp [h4],fun i hi=>?_⟩
   ·rw [List.mapM_cons,Sem.run_bind,h1]
    simp only [Result.andThen_ok]
    rw [Sem.run_bind,h3]
    rfl
   ·cases i with
    | zero=>simpa using h2
    | succ i=>simpa using h5 i (by simpa using hi)
 | [],_ :: _,hc,_=>by simp [KU] at hc
 | _ :: _,[],hc,_=>by simp [KU] at hc
theorem Ac4 {e:Env} {A:List V} {H:Hp}:∀ (ss:List RVr) (k:Nat) (xs:Array Value),HD A H ss→(∀ i (h:i < ss.length),∃ y,xs[k + i]?=some y∧RV e (Ek A H ss[i]) y)→RT e (GH A H ss k) xs
 | [],_,_,_,_=>trivial
 | s :: ss, k, xs, hp, h => by
   simp only [HD] at hp
   have A4:=Ac4 ss (k + 1) xs hp.2 (fun i hi=>by
    have:=h (i + 1) (by simpa using hi)
    have e1:k + (i + 1)=k + 1 + i:=Aa
    rw [e1] at this
    simpa using this)
   obtain ⟨y,h1,h2⟩:=h 0 Bu
   simp only [List.getElem_cons_zero,Nat.add_zero] at h1 h2
   have h3:=hp.1
   unfold GH
   cases hv:Ek A H s with
   | junk=>exact A4
   | _ =>
     rw [hv] at h2 h3
     exact ⟨⟨h3,y,h1,(AL h3).1 h2⟩,A4⟩
theorem O0 {c:Ctx} {e:Env} {H:Hp} {A:List V} {a:Act} (hI:Inv M c e H) (hA:FR e A a.tmps) {fn:Func} {ss:List RVr} (hc:KU M fn.results.toList ss=true) (hp:(DS A H ss).1) :
 ∃ v,(results fn a.tmps).run M.P e.w = .ok v e.w∧RV e (DS A H ss).2 v:=by
 have hps:Gx A H ss:=by
  unfold DS at hp
  split at hp
  ·exact ⟨hp,trivial⟩
  ·exact hp.1
 obtain ⟨vs,h1,h2,h3⟩:=SU hI hA _ _ hc hps
 have hres:results fn a.tmps=(do let vs ← fn.results.mapM (Acc a.tmps);pure (if h:vs.size=1 then vs[0] else .tuple vs)):=by
  unfold results
  congr 1
  try (congr 1;funext r;cases r <;> rfl)
 rw [hres,Array.mapM_eq_mapM_toList]
 simp only [map_eq_pure_bind,bind_assoc,pure_bind]
 rw [Sem.run_bind,h1]
 simp only [Result.andThen_ok,Sem.run_pure]
 refine ⟨_,rfl,?_⟩
 unfold DS
 split
 ·rename_i s
  have hl:vs.length=1:=h2
  rw [dif_pos Py]
  have:=h3 0 Bu
  simp only [List.getElem_cons_zero] at this
  have e1:vs.getD 0 undef=vs[0]'(by omega):=by simp [List.getD,hl]
  rw [e1] at this
  simpa using this
 ·rename_i hne
  have hl:vs.length ≠ 1:=by
   rw [h2]
   intro hl
   match ss,hl,hne with
   | [s],_,hne=>exact hne s rfl
  rw [dif_neg Py]
  refine ⟨_,rfl,Ac4 ss 0 _ ?_ (fun i hi=>?_)⟩
  ·unfold DS at hp
   split at hp
   ·rename_i s;exact absurd rfl (hne s)
   ·exact hp.2
  ·have:=h3 i hi
   have hi':i < vs.length:=Aa
   refine ⟨vs[i],by simp [hi'],?_⟩
   simpa [List.getD,hi'] using this
theorem Uw {e:Env} {us:List V} {vs:Array Value} (h:Qb e us vs) (nt:Nat):FR e (GI us nt) (vs ++ Array.replicate (nt - vs.size) undef):=by
 obtain ⟨h1,h2⟩:=h
 refine ⟨by simp [GI,h1],fun t=>?_⟩
 unfold GI
 by_cases ht:t < us.length
 ·have e1:(us ++ List.replicate (nt - us.length) V.junk).getD t .junk=us.getD t .junk:=by
   simp only [List.getD,List.getElem?_append,ht,if_true]
  have e2:(vs ++ Array.replicate (nt - vs.size) undef).getD t undef=vs.getD t undef:=by
   have:t < vs.size:=Aa
   simp [Array.getElem?_append,this]
  rw [e1,e2];exact h2 t
 ·have e1:(us ++ List.replicate (nt - us.length) V.junk).getD t .junk = .junk:=by
   simp only [List.getD,List.getElem?_append,ht,if_false,List.getElem?_replicate]
   split <;> rfl
  rw [e1];trivial
def Aq (M:Seat) (x:Ctx) (rs:List RVr) (Q:V→Hp→Nat→Prop) (A:List V) (H:Hp) (N:Nat):Prop :=
 ∃ (m z:List Nat) (v:V) (H':Hp) (N':Nat),(decide m.Nodup && z.all (fun i=>!m.contains i) && decide (m.length≤N') && decide (x.k≤N') && (List.range x.k).all (fun j=>m[j]? == some j))=true ∧
  (DS A H rs).1∧Bd H m z v (DS A H rs).2∧Bk H m z H'∧Q v H' N'
theorem Aq.mk {x:Ctx} {rs:List RVr} {Q:V→Hp→Nat→Prop} {A:List V} {H:Hp} {N:Nat} {k:Nat} (hx:x.k=k) (m z:List Nat) (v:V) (H':Hp) (N':Nat)
 (hm:(decide m.Nodup && z.all (fun i=>!m.contains i) && decide (m.length≤N') && decide (k≤N') && (List.range k).all (fun j=>m[j]? == some j))=true) (h1:(DS A H rs).1) (h2:Bd H m z v (DS A H rs).2) (h3:Bk H m z H') (h4:Q v H' N'):Aq M x rs Q A H N :=
 ⟨m,z,v,H',N',by rw [hx];exact hm,h1,h2,h3,h4⟩
theorem Up {f:Nat} {lf:LF} {us:List V} {H:Hp} {k:Nat} {Q:V→Hp→Nat→Prop} (hf:Al M f lf=true)
 (h:∀ x:Ctx,x.k=k→Bl M x (fun A' H' N'=>Aq M x lf.rs Q A' H' N') [.code lf.c] k (GI us lf.nt) H):Af M f us H k Q:=by
 intro e vs hI hD hargs
 unfold Al at hf
 split at hf
 case h_2=>cases hf
 rename_i fn hfn
 simp only [Bool.and_eq_true,beq_iff_eq] at hf
 obtain ⟨⟨hb,hnt⟩,hrs⟩:=hf
 split at hb
 case h_2=>cases hb
 rename_i C hC
 refine calls_of_wp hfn hC ?_
 rw [hnt]
 have hsat:Uy M ⟨e,fun b=>∃ id,Ae H id=true∧e.ρ id=b,k⟩ (GI us lf.nt) H k { tmps:=vs ++ Array.replicate (lf.nt - vs.size) undef,defers:=[] } e.w :=
  ⟨e,rfl,hI,Uw hargs lf.nt,hD,Nat.le_refl k,rfl⟩
 have:=h ⟨e,fun b=>∃ id,Ae H id=true∧e.ρ id=b,k⟩ rfl _ _ [.code C] hsat ⟨hb,trivial⟩
 have h2:C.wp M.P (Dn M ⟨e,fun b=>∃ id,Ae H id=true∧e.ρ id=b,k⟩ (fun A' H' N'=>Aq M ⟨e,fun b=>∃ id,Ae H id=true∧e.ρ id=b,k⟩ lf.rs Q A' H' N') []) { tmps:=vs ++ Array.replicate (lf.nt - vs.size) undef,defers:=[] } e.w:=this
 refine Code.wp_mono (fun ex a w hx=>?_) h2
 have key:(∃ A H' N,Uy M ⟨e,fun b=>∃ id,Ae H id=true∧e.ρ id=b,k⟩ A H' N a w∧Aq M ⟨e,fun b=>∃ id,Ae H id=true∧e.ρ id=b,k⟩ lf.rs Q A H' N) →
  a.defers=[]∧∃ v,(results fn a.tmps).run M.P w = .ok v w∧∃ x v' e' H' k',(Ending.returned v:Ending) = .returned x∧e'.w=w∧Inv M ⟨e,fun b=>∃ id,Ae H id=true∧e.ρ id=b,k⟩ e' H'∧RV e' v' x∧(∀ id,k'≤id→¬ e'.D id)∧k≤k'∧Q v' H' k':=by
  rintro ⟨A,H1,N,hs,m,z,v',H',N',hm,hpre,hv',hH',hq⟩
  simp only [YC,decide_eq_true_eq,List.all_eq_true,List.mem_range,beq_iff_eq,List.contains_eq_mem,decide_eq_false_iff_not] at hm
  obtain ⟨⟨⟨⟨m1,m2⟩,m3⟩,m4⟩,m5⟩:=hm
  obtain ⟨e',rfl,hI',hF',hD',hk',hdef⟩:=hs
  obtain ⟨v,hv,hRV⟩:=O0 hI' hF' hrs hpre
  refine ⟨hdef,v,hv,v,v',e'.sim H1 m z,H',N',rfl,rfl,hI'.sim m1 m2 hH' (.inl ⟨rfl,m5⟩),Nu (Pull.of hI' m z) hv' hRV,?_,m4,hq⟩
  rintro id hid ⟨i,h1,_⟩
  have:=(List.getElem?_eq_some_iff.1 h1).1
  omega
 cases ex <;> try (exact hx.elim)
 ·exact key hx
 ·exact key hx
theorem Ex (k:IntKind) (n:Int):(V.int k n).solid=true:=rfl
theorem HK (k:IntKind) (n:Int):(V.int k n).size=1:=rfl
theorem JA (k:IntKind) (n:Int):(V.int k n).isAgg=false:=rfl
theorem DK (b:Bool):(V.bool b).solid=true:=rfl
theorem Gi (b:Bool):(V.bool b).size=1:=rfl
theorem HT (b:Bool):(V.bool b).isAgg=false:=rfl
theorem En (s:ByteArray):(V.str s).solid=true:=rfl
theorem H5 (s:ByteArray):(V.str s).size=1:=rfl
theorem J5 (s:ByteArray):(V.str s).isAgg=false:=rfl
theorem DH:V.nilp.solid=true:=rfl
theorem Xa0:V.nilp.size=1:=rfl
theorem HV:V.nilp.isAgg=false:=rfl
theorem Ez (i:Nat) (p:List Stp):(V.ptr i p).solid=true:=rfl
theorem Hk (i:Nat) (p:List Stp):(V.ptr i p).size=1:=rfl
theorem JP (i:Nat) (p:List Stp):(V.ptr i p).isAgg=false:=rfl
theorem Es (v:V):(V.imm v).solid=true:=rfl
theorem Hq (v:V):(V.imm v).size=1:=rfl
theorem JD (v:V):(V.imm v).isAgg=false:=rfl
theorem DI:V.nils.solid=true:=rfl
theorem FV:V.nils.size=1:=rfl
theorem HI:V.nils.isAgg=false:=rfl
theorem FD (i:Nat) (p:List Stp) (o n sz:Nat):(V.sl i p o n sz).solid=true:=rfl
theorem JN (i:Nat) (p:List Stp) (o n sz:Nat):(V.sl i p o n sz).size=1:=rfl
theorem ME (i:Nat) (p:List Stp) (o n sz:Nat):(V.sl i p o n sz).isAgg=false:=rfl
theorem Ep (sz n:Nat) (f:Nat→V):(V.lst sz n f).solid=true:=rfl
theorem HC (sz n:Nat) (f:Nat→V):(V.lst sz n f).size=1:=rfl
theorem JK (sz n:Nat) (f:Nat→V):(V.lst sz n f).isAgg=false:=rfl
theorem DN:V.nilm.solid=true:=rfl
theorem FX:V.nilm.size=1:=rfl
theorem H8:V.nilm.isAgg=false:=rfl
theorem Er (i:Nat):(V.map i).solid=true:=rfl
theorem Hy (i:Nat):(V.map i).size=1:=rfl
theorem J7 (i:Nat):(V.map i).isAgg=false:=rfl
theorem DF:V.nilf.solid=true:=rfl
theorem Gk:V.nilf.size=1:=rfl
theorem HF:V.nilf.isAgg=false:=rfl
theorem FL (f:Nat) (c:V):(V.fn f c).solid=true:=rfl
theorem J9 (f:Nat) (c:V):(V.fn f c).size=1:=rfl
theorem Nn (f:Nat) (c:V):(V.fn f c).isAgg=false:=rfl
theorem DA:V.nili.solid=true:=rfl
theorem FY:V.nili.size=1:=rfl
theorem Ic:V.nili.isAgg=false:=rfl
theorem Em (t:Nat) (v:V):(V.ifc t v).solid=true:=rfl
theorem HQ (t:Nat) (v:V):(V.ifc t v).size=1:=rfl
theorem J8 (t:Nat) (v:V):(V.ifc t v).isAgg=false:=rfl
theorem FI (n:Nat) (fs:V):(V.st n fs).solid=true:=rfl
theorem J2 (n:Nat) (fs:V):(V.st n fs).size=n:=rfl
theorem MS (n:Nat) (fs:V):(V.st n fs).isAgg=true:=rfl
theorem FB (sz n:Nat) (f:Nat→V):(V.ar sz n f).solid=true:=rfl
theorem J4 (sz n:Nat) (f:Nat→V):(V.ar sz n f).size=n * sz:=rfl
theorem MR (sz n:Nat) (f:Nat→V):(V.ar sz n f).isAgg=true:=rfl
theorem Dw (n:Int):IntKind.u64.wrap n=n % 18446744073709551616:=YW
theorem KB (n:Int):IntKind.u8.wrap n=n % 256:=YW
theorem Cy {n:Int} (h:0≤n∧n < 18446744073709551616):IntKind.u64.wrap n=n:=by
 rw [Dw];omega
theorem VR (n:Int):IntKind.i64.wrap n=if n % 18446744073709551616 ≥ 9223372036854775808 then n % 18446744073709551616 - 18446744073709551616 else n % 18446744073709551616:=YW
theorem AI {n:Int} (h:-9223372036854775808≤n∧n < 9223372036854775808):IntKind.i64.wrap n=n:=by
 rw [VR];split <;> omega
theorem Ns {p:Prop} [Decidable p] (k:IntKind) (a b:Int):(if p then V.int k a else V.int k b)=V.int k (if p then a else b):=by split <;> rfl
theorem Kw {p:Prop} [Decidable p] (a b:Bool):(if p then V.bool a else V.bool b)=V.bool (if p then a else b):=by split <;> rfl
theorem Aj.at {M:Seat} {c:Ctx} {A:List V} {H:Hp} {N:Nat} (m z:List Nat) {k:Nat} (hck:c.k=k) {A':List V} {H':Hp} {N':Nat} (hm:(decide m.Nodup && z.all (fun i=>!m.contains i) && decide (m.length≤N') && decide (k≤N') && (List.range k).all (fun j=>m[j]? == some j))=true)
 (hA:AV H m z A' A) (hH:Bk H m z H'):Aj M c A H N A' H' N':=by
 simp only [YC,decide_eq_true_eq,List.all_eq_true,List.mem_range,beq_iff_eq,List.contains_eq_mem,decide_eq_false_iff_not] at hm
 obtain ⟨⟨⟨⟨h1,h2⟩,h3⟩,h4⟩,h5⟩:=hm
 exact Aj.sim m z h1 h2 h3 Aa (fun j hj=>h5 j Aa) hA hH
abbrev A0 (l:LO):LOp:=⟨none,.lo l,none⟩
abbrev A1 (d:Nat) (l:LO):LOp:=⟨some d,.lo l,none⟩
abbrev A2 (d t:Nat) (b:Bool) (l:LO):LOp:=⟨some d,.lo l,some (t,b)⟩
abbrev mt (d s:Nat):LOp:=⟨some d,.lo (.mv (.t s)),none⟩
abbrev mn (d:Nat):LOp:=⟨some d,.lo (.mv (.c .nili)),none⟩
abbrev cI (n:Int):X:=.c (.int .i64 n)
abbrev cU (n:Int):X:=.c (.int .u64 n)
abbrev kl (d f:Nat) (l:List X):LOp:=⟨some d,.call f l,none⟩
abbrev sr (l:List LOp) (c:LC):LC:=.seq (.reg l) c
theorem BB (n:Nat) (a:Nat):BitVec.ofInt n (a:Int)=BitVec.ofNat n a:=by
 apply BitVec.eq_of_toNat_eq
 simp
theorem VO {a b:Nat} (ha:a < 18446744073709551616) (hb:b < 18446744073709551616):IntKind.u64.wrap (((BitVec.ofInt IntKind.u64.bits (a:Int) ||| BitVec.ofInt IntKind.u64.bits (b:Int)).toNat:Nat):Int)=((a ||| b:Nat):Int):=by
 have h:a ||| b < 2 ^ 64:=Nat.or_lt_two_pow Aa Aa
 rw [BB,BB,BitVec.toNat_or,BitVec.toNat_ofNat,BitVec.toNat_ofNat,Nat.mod_eq_of_lt (by simpa [IntKind.bits] using ha),Nat.mod_eq_of_lt (by simpa [IntKind.bits] using hb)]
 exact Cy Aa
theorem S1 {a b:Nat} (ha:a < 18446744073709551616) (hb:b < 18446744073709551616):IntKind.u64.wrap (((BitVec.ofInt IntKind.u64.bits (a:Int) &&& BitVec.ofInt IntKind.u64.bits (b:Int)).toNat:Nat):Int)=((a &&& b:Nat):Int):=by
 have h:a &&& b < 2 ^ 64:=Nat.lt_of_le_of_lt Nat.and_le_left Aa
 rw [BB,BB,BitVec.toNat_and,BitVec.toNat_ofNat,BitVec.toNat_ofNat,Nat.mod_eq_of_lt (by simpa [IntKind.bits] using ha),Nat.mod_eq_of_lt (by simpa [IntKind.bits] using hb)]
 exact Cy Aa
theorem Ss {a b:Nat} (ha:a < 18446744073709551616) (hb:b < 18446744073709551616):IntKind.u64.wrap (((BitVec.ofInt IntKind.u64.bits (a:Int) ^^^ BitVec.ofInt IntKind.u64.bits (b:Int)).toNat:Nat):Int)=((a ^^^ b:Nat):Int):=by
 have h:a ^^^ b < 2 ^ 64:=Nat.xor_lt_two_pow Aa Aa
 rw [BB,BB,BitVec.toNat_xor,BitVec.toNat_ofNat,BitVec.toNat_ofNat,Nat.mod_eq_of_lt (by simpa [IntKind.bits] using ha),Nat.mod_eq_of_lt (by simpa [IntKind.bits] using hb)]
 exact Cy Aa
theorem Ab3 {a:Nat} (ha:a < 18446744073709551616):IntKind.u64.wrap (((BitVec.ofInt IntKind.u64.bits (if IntKind.u64.signed=true then -1 else IntKind.u64.max) ^^^ BitVec.ofInt IntKind.u64.bits (a:Int)).toNat:Nat):Int)=((18446744073709551615 ^^^ a:Nat):Int):=by
 have e1:(if IntKind.u64.signed=true then (-1:Int) else IntKind.u64.max)=((18446744073709551615:Nat):Int):=Bx
 rw [e1,Ss Aa ha]
theorem Acr {a k:Nat} (hk:k < 64):IntKind.u64.wrap ((a:Int) * 2 ^ min (k:Int).toNat IntKind.u64.bits)=((a <<< k % 18446744073709551616:Nat):Int):=by
 have e1:min (k:Int).toNat IntKind.u64.bits=k:=by simp only [IntKind.bits];omega
 rw [e1,Dw,Nat.shiftLeft_eq,Int.natCast_emod,Int.natCast_mul,Int.natCast_pow]
 rfl
theorem Aam {a k:Nat} (hk:k≤64):(a:Int).fdiv (2 ^ min (k:Int).toNat IntKind.u64.bits)=((a >>> k:Nat):Int):=by
 have e1:min (k:Int).toNat IntKind.u64.bits=k:=by simp only [IntKind.bits];omega
 rw [e1,Int.fdiv_eq_ediv_of_nonneg _ (Int.pow_nonneg Aa),Nat.shiftRight_eq_div_pow,Int.natCast_ediv,Int.natCast_pow]
 rfl
def TI (x k:Nat):Nat:=(x <<< k % 18446744073709551616) ||| (x >>> (64 - k))
theorem Acd {x k:Nat} (hx:x < 18446744073709551616):TI x k < 18446744073709551616:=by
 have h1:x <<< k % 18446744073709551616 < 2 ^ 64:=Nat.mod_lt _ Aa
 have h2:x >>> (64 - k) < 2 ^ 64:=by
  rw [Nat.shiftRight_eq_div_pow]
  exact Nat.lt_of_le_of_lt (Nat.div_le_self _ _) Aa
 exact Nat.or_lt_two_pow h1 h2
theorem Hh (A:List V) (v:V):put A none v=A:=rfl
theorem QR (A:List V) (d:Option Nat) (v:V):(put A d v).length=A.length:=by cases d <;> simp [put]
theorem VS {A:List V} {i:Nat} {v:V} (h:i < A.length):(put A (some i) v).getD i .junk=v:=by simp [put,List.getD,h]
theorem Agj {A:List V} {i t:Nat} {v:V} (h:i ≠ t):(put A (some i) v).getD t .junk=A.getD t .junk:=by simp [put,List.getD,List.getElem?_set_ne h]
def fr (n:Nat):List (Nat × V)→List V
 | []=>List.replicate n .junk
 | (t,v) :: r=>put (fr n r) (some t) v
theorem BH (n:Nat):∀ l,(fr n l).length=n
 | []=>by simp [fr]
 | (t,v) :: r=>by simp [fr,QR,BH n r]
theorem GO (n t:Nat):(fr n []).getD t .junk = .junk:=by
 simp only [fr,List.getD,List.getElem?_replicate]
 split <;> rfl
theorem Ea {n t:Nat} {v:V} {r:List (Nat × V)} (h:t < n):(fr n ((t,v) :: r)).getD t .junk=v:=VS (by rw [BH];exact h)
theorem Je {n t i:Nat} {v:V} {r:List (Nat × V)} (h:i ≠ t):(fr n ((i,v) :: r)).getD t .junk=(fr n r).getD t .junk:=Agj h
theorem Od (n t:Nat) (v:V) (r:List (Nat × V)):put (fr n r) (some t) v=fr n ((t,v) :: r):=rfl
def YQ:Nat→List V→List (Nat × V)→List (Nat × V)
 | _,[],acc=>acc
 | i,u :: r,acc=>YQ (i + 1) r ((i,u) :: acc)
def La0:=(aq9 (Apk @BEq.rfl.{0} @Int.cast_ofNat_Int @LK.isA.eq_1 @LK.isA.eq_2 @LK.isA.eq_3 @LK.isA.eq_4 @LK.isA.eq_5 @LK.isA.eq_6 @LK.isA.eq_7 @LK.isP.eq_1 @LK.isP.eq_2 @LK.isP.eq_3 @LK.isP.eq_4 @LK.isP.eq_5 @LK.isP.eq_6) (Apk @LK.isP.eq_7 @LK.isP.eq_8 @LK.isP.eq_9 @LK.isP.eq_10 @LK.isP.eq_11 @LK.isW.eq_1 @LK.isW.eq_2 @LK.isW.eq_3 @LK.isW.eq_4 @LK.isW.eq_5 @LK.isW.eq_6 @LK.isW.eq_7 @List.cons_append.{0} @List.filter_cons.{0} @List.filter_nil.{0}) (Apk @List.length_cons.{0} @List.length_nil.{0} (@List.map_cons.{0,0}) (@List.map_nil.{0,0}) @List.nil_append.{0} @hx.eq_1 @V.fget.eq_1 @V.fget.eq_2 @V.fhas.eq_1 @V.fhas.eq_2 @V.fset.eq_1 @V.fset.eq_2 @V.get.eq_1 @V.get.eq_2 @V.get.eq_3) (Apk @V.get.eq_4 @V.get.eq_5 @V.ok.eq_1 @V.ok.eq_2 @V.ok.eq_3 @V.ok.eq_4 @V.ok.eq_5 @V.set.eq_1 @V.set.eq_2 @V.set.eq_3 @V.set.eq_4 @X.ev.eq_1 @X.ev.eq_2 @X.ev.eq_3 @X.ev.eq_4) (Apk @Z.sz.eq_1 @Z.sz.eq_2 @Z.sz.eq_3 @Z.sz.eq_4 @Z.sz.eq_5 @Z.v.eq_1 @Z.v.eq_2 @Z.v.eq_3 @Z.v.eq_4 @Z.v.eq_5 @Z.v.eq_6 @Z.v.eq_7 @Z.v.eq_8 @Z.v.eq_9 @Z.v.eq_10) (Apk @Z.v.eq_11 @Z.v.eq_12 @bs.eq_1 @cond_false.{1} @cond_true.{1} @BX.eq_1 @BX.eq_2 @BX.eq_3 @CN.eq_1 @CN.eq_2 @CN.eq_3 @CN.eq_4 @BF.eq_1 @BF.eq_2 @TZ.eq_1) (Apk @TZ.eq_2 @F2.eq_1 @F2.eq_2 @forall_const.{0} @forall_const.{1} @BO.eq_1 @BO.eq_2 @hget.eq_1 @hget.eq_2 @Ae.eq_1 @Ae.eq_2 @Ch.eq_1 @Ch.eq_2 @Dq.eq_1 @Dq.eq_2) (Apk @if_false.{1} @if_true.{1} @Ox.eq_1 @Ox.eq_2 @ite_false.{1} @ite_true.{1} @ne_eq.{1} @H4.eq_1 @H4.eq_2 @H4.eq_3 @YQ.eq_1 @YQ.eq_2 @B4.eq_1 @B4.eq_2 @CJ.eq_1) (Apm @CJ.eq_2 @CJ.eq_3 @BY.eq_1 @BY.eq_2 @By.eq_1 @By.eq_2 @DQ.eq_1 @DQ.eq_2 @C8.eq_1 @C8.eq_2 @AA.eq_1 @AA.eq_2 @F4.eq_1 @F4.eq_2 @G3.eq_1 @G3.eq_2))
theorem X6 (n:Nat):∀ (us:List V) (i:Nat) (acc:List (Nat × V)) (pre:List V),pre.length=i→fr n acc=pre ++ List.replicate (n - i) .junk→i + us.length≤n→fr n (YQ i us acc)=pre ++ us ++ List.replicate (n - i - us.length) .junk
 | [],i,acc,pre,_,h,_=>by simpa [YQ] using h
 | u :: r, i, acc, pre, hp, h, hl => by
   simp only [List.length_cons] at hl
   have h2:fr n ((i,u) :: acc)=(pre ++ [u]) ++ List.replicate (n - (i + 1)) .junk:=by
    simp only [fr,put,h]
    have e1:n - i=(n - (i + 1)) + 1:=Aa
    rw [e1,List.replicate_succ]
    apply List.ext_getElem?
    intro k
    by_cases hk:k=i
    ·subst hk
     rw [List.getElem?_set_self (by simp [hp])]
     rw [List.getElem?_append_left (by simp [hp])]
     rw [List.getElem?_append_right Aa]
     simp [hp]
    ·rw [List.getElem?_set_ne (Ne.symm hk)]
     by_cases hk2:k < i
     ·rw [List.getElem?_append_left Aa,List.getElem?_append_left Cd,List.getElem?_append_left Aa]
     ·rw [List.getElem?_append_right Aa,List.getElem?_append_right Cd]
      have e2:k - pre.length=(k - (pre ++ [u]).length) + 1:=Cd
      rw [e2,List.getElem?_cons_succ]
   have:=X6 n r (i + 1) ((i,u) :: acc) (pre ++ [u]) (by simp [hp]) h2 Aa
   simp only [YQ]
   rw [this]
   have e3:n - (i + 1) - r.length=n - i - (u :: r).length:=Cd
   rw [e3]
   simp
theorem UC {us:List V} {n:Nat} (h:us.length≤n):GI us n=fr n (YQ 0 us []):=by
 rw [X6 n us 0 [] [] rfl (by simp [fr]) Aa]
 simp [GI]
theorem Ac {M:Seat} {f:Nat} {lf:LF} {us:List V} {H:Hp} {k:Nat} {Q:V→Hp→Nat→Prop} (hf:Al M f lf=true) (hn:decide (us.length≤lf.nt)=true)
 (h:∀ x:Ctx,x.k=k→Bl M x (Aq M x lf.rs Q) [.code lf.c] k (fr lf.nt (YQ 0 us [])) H):Af M f us H k Q:=by
 refine Up hf fun x hx=>?_
 rw [UC (of_decide_eq_true hn)]
 exact h x hx
def Lj (H:Hp) (m z:List Nat) (A:List V):List (Nat × V)→Prop
 | []=>True
 | (t,v) :: r=>Bd H m z v (A.getD t .junk)∧Lj H m z A r
def La4:=(aq4 (Apo @List.getElem?_cons_succ.{0} @List.getElem?_cons_zero.{0} @List.getElem?_nil.{0} @Option.some.injEq.{0} @Aw.eq_1 @Aw.eq_2 @Aw.eq_3 @Aw.eq_4 @Aw.eq_5 @Aw.eq_6 @Aw.eq_7 @Aw.eq_8) (Apo @Aw.eq_9 @Aw.eq_10 @Aw.eq_11 @Aw.eq_12 @Aw.eq_13 @Aw.eq_14 @Aw.eq_15 @Aw.eq_16 @Aw.eq_17 @Aw.eq_18 @Aw.eq_19 @Aw.eq_20) (Apo @Aw.eq_21 @Aw.eq_22 @Aw.eq_23 @Aw.eq_24 @Aw.eq_25 @Aw.eq_26 @Aw.eq_27 @Aw.eq_28 @Aw.eq_29 @Aw.eq_30 @Aw.eq_31 @Aw.eq_32) (App @Aw.eq_33 @Aw.eq_34 @Aw.eq_35 @Aw.eq_36 @Aw.eq_37 @AV.eq_1 @AV.eq_2 @AV.eq_3 @Bk.eq_1 @Bk.eq_2 @Lj.eq_1 @Lj.eq_2 @Ux.eq_1))
theorem NE {H:Hp} {m z:List Nat}:∀ {A B:List V},A.length=B.length→(∀ t,Bd H m z (A.getD t .junk) (B.getD t .junk))→AV H m z A B
 | [],[],_,_=>trivial
 | _ :: _,_ :: _,hl,h=>⟨by simpa using h 0,NE Py (fun t=>by simpa using h (t + 1))⟩
 | [],_ :: _,hl,_=>by simp at hl
 | _ :: _,[],hl,_=>by simp at hl
theorem La {H:Hp} {m z:List Nat} {A:List V} {n:Nat}:∀ {l:List (Nat × V)},Lj H m z A l→∀ t,t < n→Bd H m z ((fr n l).getD t .junk) (A.getD t .junk)
 | [],_,t,_=>by rw [GO];trivial
 | (i, v) :: r, h, t, ht => by
   by_cases hit:i=t
   ·subst hit;rw [Ea ht];exact h.1
   ·rw [Je hit];exact La h.2 t ht
theorem Aj.fr {M:Seat} {c:Ctx} {A:List V} {H:Hp} {N n:Nat} (m z:List Nat) {k:Nat} (hck:c.k=k) {l:List (Nat × V)} {H':Hp} {N':Nat} (hlen:A.length=n)
 (hm:(decide m.Nodup && z.all (fun i=>!m.contains i) && decide (m.length≤N') && decide (k≤N') && (List.range k).all (fun j=>m[j]? == some j))=true)
 (hA:Lj H m z A l) (hH:Bk H m z H'):Aj M c A H N (Mv.fr n l) H' N':=by
 refine Aj.at m z hck hm (NE (by rw [BH,hlen]) (fun t=>?_)) hH
 by_cases ht:t < n
 ·exact La hA t ht
 ·have:(Mv.fr n l).getD t .junk = .junk:=by rw [List.getD_eq_getElem?_getD,List.getElem?_eq_none (by rw [BH];omega)];rfl
  rw [this];trivial
def W (w:BitVec 64):V:=.int .u64 (w.toNat:Int)
def Lcd:=(aq2 @Int.toNat_natCast @W.eq_1)
def B (b:BitVec 8):V:=.int .u8 (b.toNat:Int)
theorem OR (w:BitVec 64):w.toNat < 18446744073709551616:=w.isLt
theorem GY (a b:BitVec 64) (H:Hp):AK .xor (W a) (W b) H=⟨True,W (a ^^^ b),H⟩:=by
 have h:=Ss (OR a) (OR b)
 simp only [AK,W]
 rw [h,BitVec.toNat_xor]
theorem Hb (a b:BitVec 64) (H:Hp):AK .and (W a) (W b) H=⟨True,W (a &&& b),H⟩:=by
 have h:=S1 (OR a) (OR b)
 simp only [AK,W]
 rw [h,BitVec.toNat_and]
theorem GW (a b:BitVec 64) (H:Hp):AK .or (W a) (W b) H=⟨True,W (a ||| b),H⟩:=by
 have h:=VO (OR a) (OR b)
 simp only [AK,W]
 rw [h,BitVec.toNat_or]
theorem J0 (a:BitVec 64) (H:Hp):Vk .xor (W a) H=⟨True,W (~~~a),H⟩:=by
 have h:(18446744073709551615 ^^^ a.toNat:Nat)=(~~~a).toNat:=by
  have h2:BitVec.allOnes 64 ^^^ a = ~~~a:=BitVec.allOnes_xor
  rw [← h2,BitVec.toNat_xor];rfl
 have h3:=Ab3 (OR a)
 simp only [Vk,W]
 rw [h3,h]
def Qk (x:BitVec 64) (k:Nat):BitVec 64:=x <<< k ||| x >>> (64 - k)
theorem Oq (x:BitVec 64) (k:Nat):TI x.toNat k=(Qk x k).toNat:=by
 simp only [TI,Qk,BitVec.toNat_or,BitVec.toNat_shiftLeft,BitVec.toNat_ushiftRight]
def ws (s:List (BitVec 64)):Nat→V:=fun j=>W (s.getD j 0)
def bys (s:List (BitVec 8)):Nat→V:=fun j=>B (s.getD j 0)
theorem Jf (s:List (BitVec 64)) (j:Nat):ws s j=W (s.getD j 0):=rfl
theorem Iq (s:List (BitVec 8)) (j:Nat):bys s j=B (s.getD j 0):=rfl
theorem Ib (w:BitVec 64):(W w).solid=true:=rfl
theorem NY (w:BitVec 64):(W w).size=1:=rfl
theorem SX (w:BitVec 64):(W w).isAgg=false:=rfl
theorem Hm (w:BitVec 8):(B w).solid=true:=rfl
theorem N3 (w:BitVec 8):(B w).size=1:=rfl
theorem Tf (w:BitVec 8):(B w).isAgg=false:=rfl
theorem Ds (H:Hp) (m z:List Nat) (a b:BitVec 64):Aw H m z (W a) (W b) ↔ b=a:=by
 simp only [Aw,W,V.int.injEq,true_and]
 constructor
 ·intro h;exact BitVec.eq_of_toNat_eq Aa
 ·rintro rfl;rfl
theorem Gv (H:Hp) (m z:List Nat) (a b:BitVec 8):Aw H m z (B a) (B b) ↔ b=a:=by
 simp only [Aw,B,V.int.injEq,true_and]
 constructor
 ·intro h;exact BitVec.eq_of_toNat_eq Aa
 ·rintro rfl;rfl
theorem JZ {p:Prop} [Decidable p] (a b:BitVec 64):(if p then W a else W b)=W (if p then a else b):=by split <;> rfl
theorem Ki {p:Prop} [Decidable p] (a b:BitVec 8):(if p then B a else B b)=B (if p then a else b):=by split <;> rfl
theorem M1 (H:Hp) (m z:List Nat) (u:V):Bd H m z .junk u=True:=rfl
theorem PF (H:Hp) (m z:List Nat) (k:IntKind) (n:Int) (u:V):Bd H m z (V.int k n) u=Aw H m z (V.int k n) u:=rfl
theorem Mp (H:Hp) (m z:List Nat) (b:Bool) (u:V):Bd H m z (V.bool b) u=Aw H m z (V.bool b) u:=rfl
theorem Oy (H:Hp) (m z:List Nat) (s:ByteArray) (u:V):Bd H m z (V.str s) u=Aw H m z (V.str s) u:=rfl
theorem MC (H:Hp) (m z:List Nat) (u:V):Bd H m z V.nilp u=Aw H m z V.nilp u:=rfl
theorem PN (H:Hp) (m z:List Nat) (i:Nat) (p:List Stp) (u:V):Bd H m z (V.ptr i p) u=Aw H m z (V.ptr i p) u:=rfl
theorem Pc (H:Hp) (m z:List Nat) (v:V) (u:V):Bd H m z (V.imm v) u=Aw H m z (V.imm v) u:=rfl
theorem Ma (H:Hp) (m z:List Nat) (u:V):Bd H m z V.nils u=Aw H m z V.nils u:=rfl
theorem Sr (H:Hp) (m z:List Nat) (i:Nat) (p:List Stp) (o n sz:Nat) (u:V):Bd H m z (V.sl i p o n sz) u=Aw H m z (V.sl i p o n sz) u:=rfl
theorem Ok (H:Hp) (m z:List Nat) (sz n:Nat) (f:Nat→V) (u:V):Bd H m z (V.lst sz n f) u=Aw H m z (V.lst sz n f) u:=rfl
theorem Ms (H:Hp) (m z:List Nat) (u:V):Bd H m z V.nilm u=Aw H m z V.nilm u:=rfl
theorem PA (H:Hp) (m z:List Nat) (i:Nat) (u:V):Bd H m z (V.map i) u=Aw H m z (V.map i) u:=rfl
theorem Mi (H:Hp) (m z:List Nat) (u:V):Bd H m z V.nilf u=Aw H m z V.nilf u:=rfl
theorem Tl (H:Hp) (m z:List Nat) (f:Nat) (c:V) (u:V):Bd H m z (V.fn f c) u=Aw H m z (V.fn f c) u:=rfl
theorem Mh (H:Hp) (m z:List Nat) (u:V):Bd H m z V.nili u=Aw H m z V.nili u:=rfl
theorem O8 (H:Hp) (m z:List Nat) (t:Nat) (v:V) (u:V):Bd H m z (V.ifc t v) u=Aw H m z (V.ifc t v) u:=rfl
theorem Su (H:Hp) (m z:List Nat) (n:Nat) (fs:V) (u:V):Bd H m z (V.st n fs) u=Aw H m z (V.st n fs) u:=rfl
theorem SC (H:Hp) (m z:List Nat) (sz n:Nat) (f:Nat→V) (u:V):Bd H m z (V.ar sz n f) u=Aw H m z (V.ar sz n f) u:=rfl
theorem OL (H:Hp) (m z:List Nat) (fs:V) (u:V):Bd H m z (V.tup fs) u=Aw H m z (V.tup fs) u:=rfl
theorem Wp (H:Hp) (m z:List Nat) (a:BitVec 64) (u:V):Bd H m z (W a) u=Aw H m z (W a) u:=rfl
theorem Wd (H:Hp) (m z:List Nat) (a:BitVec 8) (u:V):Bd H m z (B a) u=Aw H m z (B a) u:=rfl
theorem Amm (m:List Nat) (a:BitVec 64):(W a).ren m=W a:=rfl
theorem Al7 (m:List Nat) (a:BitVec 8):(B a).ren m=B a:=rfl
theorem Aip (m:List Nat) (s:List (BitVec 64)) (j:Nat):(ws s j).ren m=ws s j:=rfl
theorem AB {M:Seat} {f:Nat} {us us0:List V} {H:Hp} {n:Nat} {K:V→Hp→Prop} {v:V} (hr:Af M f us0 [] 0 (Q3 v [] 0)) (hus:AV H [] [] us0 us) (hv:v.ren (Bc [] n 0)=v) (hK:K v H):AS M f us H n K:=by
 refine B3 hr False [] [] List.nodup_nil Bu rfl Bu hus trivial ?_
 rintro v' H' k' ⟨rfl,rfl,rfl⟩
 refine ⟨⟨by omega,fun h=>h.elim⟩,?_⟩
 rw [hv]
 simpa [AQ,A4] using hK
theorem Abq (m:List Nat) (s:List (BitVec 8)) (j:Nat):(bys s j).ren m=bys s j:=rfl
theorem Te (k:IntKind) (a b:Int) (H:Hp):AK .add (.int k a) (.int k b) H=⟨True,.int k (k.wrap (a + b)),H⟩:=HO
theorem RU (k:IntKind) (a b:Int) (H:Hp):AK .sub (.int k a) (.int k b) H=⟨True,.int k (k.wrap (a - b)),H⟩:=HO
theorem Sl (k:IntKind) (a b:Int) (H:Hp):AK .mul (.int k a) (.int k b) H=⟨True,.int k (k.wrap (a * b)),H⟩:=HO
theorem Tj (k:IntKind) (a b:Int) (H:Hp):AK .quo (.int k a) (.int k b) H=⟨b ≠ 0,.int k (k.wrap (a.tdiv b)),H⟩:=HO
theorem SP (k:IntKind) (a b:Int) (H:Hp):AK .rem (.int k a) (.int k b) H=⟨b ≠ 0,.int k (a.tmod b),H⟩:=HO
theorem Sd (k k':IntKind) (a b:Int) (H:Hp):AK .shl (.int k a) (.int k' b) H=⟨0≤b,.int k (k.wrap (a * 2 ^ min b.toNat k.bits)),H⟩:=rfl
theorem Sy (k k':IntKind) (a b:Int) (H:Hp):AK .shr (.int k a) (.int k' b) H=⟨0≤b,.int k (a.fdiv (2 ^ min b.toNat k.bits)),H⟩:=rfl
theorem Tu (k:IntKind) (a b:Int) (H:Hp):AK .lss (.int k a) (.int k b) H=⟨True,.bool (decide (a < b)),H⟩:=HO
theorem S3 (k:IntKind) (a b:Int) (H:Hp):AK .leq (.int k a) (.int k b) H=⟨True,.bool (decide (a≤b)),H⟩:=HO
theorem SF (k:IntKind) (a b:Int) (H:Hp):AK .gtr (.int k a) (.int k b) H=⟨True,.bool (decide (b < a)),H⟩:=HO
theorem Sx (k:IntKind) (a b:Int) (H:Hp):AK .geq (.int k a) (.int k b) H=⟨True,.bool (decide (b≤a)),H⟩:=HO
theorem SI (k:IntKind) (a b:Int) (H:Hp):AK .eql (.int k a) (.int k b) H=⟨True,.bool (decide (a=b)),H⟩:=HO
theorem RZ (k:IntKind) (a b:Int) (H:Hp):AK .neq (.int k a) (.int k b) H=⟨True,.bool (!decide (a=b)),H⟩:=HO
theorem Y6 (k:IntKind) (a b:Int) (H:Hp):AK .and (.int k a) (.int k b) H=⟨True,.int k (k.wrap ((BitVec.ofInt k.bits a &&& BitVec.ofInt k.bits b).toNat)),H⟩:=HO
theorem Ahb (k:IntKind) (a b:Int) (H:Hp):AK .or (.int k a) (.int k b) H=⟨True,.int k (k.wrap ((BitVec.ofInt k.bits a ||| BitVec.ofInt k.bits b).toNat)),H⟩:=HO
theorem WW (k:IntKind) (a b:Int) (H:Hp):AK .xor (.int k a) (.int k b) H=⟨True,.int k (k.wrap ((BitVec.ofInt k.bits a ^^^ BitVec.ofInt k.bits b).toNat)),H⟩:=HO
theorem S5 (b:Bool) (H:Hp):Vk .not (.bool b) H=⟨True,.bool (!b),H⟩:=rfl
end Mv
