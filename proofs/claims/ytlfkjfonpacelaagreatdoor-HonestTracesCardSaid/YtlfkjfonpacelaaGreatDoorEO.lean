/- A part. -/
import Derived.Test.YtlfkjfonpacelaaGreatDoorEN
import Derived.Laws.Sem
set_option linter.all false
namespace Mv
open Go
variable {M:Seat}
inductive RVr where
 | tmp (t:Nat)
 | cell (a:Nat) (agg:Bool) (sz:Nat)
structure LF where
 c:LC
 np:Nat
 nf:Nat
 nt:Nat
 rs:List RVr
def E6 (A:List V) (H:Hp):RVr→V
 | .tmp t=>A.getD t .junk
 | .cell a agg sz=>(Ae A H 0 (.load agg sz (.t a))).v
def HK (A:List V) (H:Hp):RVr→Prop
 | .tmp _=>True
 | .cell a agg sz=>(match A.getD a .junk with | .ptr _ _=>True | _=>False)∧(Ae A H 0 (.load agg sz (.t a))).pre
def G4 (A:List V) (H:Hp):List RVr→Prop
 | []=>True
 | r :: rs=>HK A H r∧G4 A H rs
def GK (A:List V) (H:Hp):List RVr→Nat→V
 | [],_=>.fnil
 | r :: rs, i => match E6 A H r with
   | .junk=>GK A H rs (i + 1)
   | v=>.fcons i v (GK A H rs (i + 1))
def HE (A:List V) (H:Hp):List RVr→Prop
 | []=>True
 | r :: rs=>(match E6 A H r with | .junk=>True | v=>v.solid=true)∧HE A H rs
def En (A:List V) (H:Hp) (rs:List RVr):Prop × V :=
 match rs with
 | [r]=>(HK A H r,E6 A H r)
 | rs=>(G4 A H rs∧HE A H rs,.tup (GK A H rs 0))
def SB:=(Vy @En.eq_1 @En.eq_2 @HK.eq_1 @HK.eq_2 @G4.eq_1 @G4.eq_2 @E6.eq_1 @E6.eq_2)
def Aef (M:Seat):ResultVar→RVr→Bool
 | .tmp t,.tmp t'=>t == t'
 | .cell a t,.cell a' agg sz=>a == a' && FD M t == some sz && Hw M t == some agg
 | _,_=>false
def JH (M:Seat):List ResultVar→List RVr→Bool
 | [],[]=>true
 | r :: rs,s :: ss=>Aef M r s && JH M rs ss
 | _,_=>false
def Av (M:Seat) (f:Nat) (lf:LF):Bool :=
 match M.P.funcs[M.φ f]? with
 | some fn=>(match fn.body with | some c=>BU M c lf.c | none=>false) && fn.ntmps == lf.nt && JH M fn.results.toList lf.rs
 | none=>false
def GM (us:List V) (nt:Nat):List V:=us ++ List.replicate (nt - us.length) .junk
def Ak0 (M:Seat) (x:Ctx) (rs:List RVr) (Q:V→Hp→Nat→Prop) (A:List V) (H:Hp) (N:Nat):Prop :=
 ∃ A' H' N',Ak M x A H N A' H' N'∧(En A' H' rs).1∧Q (En A' H' rs).2 H' N'
theorem Ak0.now {x:Ctx} {rs:List RVr} {Q:V→Hp→Nat→Prop} {A:List V} {H:Hp} {N:Nat} (h:(En A H rs).1∧Q (En A H rs).2 H N):Ak0 M x rs Q A H N :=
 ⟨A,H,N,Ak.refl,h⟩
def ZU (tmps:Array Value):ResultVar→Sem Value
 | .tmp t=>pure (tmps.getD t undef)
 | .cell a' t=>do loadVar t (← asAddr (tmps.getD a' undef))
theorem Ab9 {c:Ctx} {e:Env} {H:Hp} {A:List V} {a:Act} (hI:Inv M c e H) (hA:FR e A a.tmps) {r:ResultVar} {s:RVr} (hc:Aef M r s=true) (hp:HK A H s) :
 ∃ v,Sem.run M.P (ZU a.tmps r) e.w = .ok v e.w∧RV e (E6 A H s) v:=by
 cases r <;> cases s <;> simp only [Aef,Bool.false_eq_true] at hc
 case tmp.tmp t t' =>
  simp only [beq_iff_eq] at hc
  subst hc
  exact ⟨_,rfl,hA.val t⟩
 case cell.cell a' t a'' agg sz =>
  simp only [Bool.and_eq_true,beq_iff_eq] at hc
  obtain ⟨⟨rfl,hs⟩,ha⟩:=hc
  obtain ⟨hptr,hp⟩:=hp
  have hv:=hA.val a'
  simp only [E6]
  simp only [Ae,X.ev] at hp ⊢
  split at hptr
  case h_2=>exact hptr.elim
  rename_i id p hy
  rw [hy] at hv
  simp only [hy] at hp ⊢
  obtain ⟨⟨h1,h2,h3⟩,h4,h5,h6⟩:=hp
  obtain ⟨cells,el,hcc,hsz,hR⟩:=hI.cells h1 h2
  have hlen:(cells.toList.take (hget H id).size).length=(hget H id).size:=EP
  obtain ⟨g1,g2⟩:=Em hR hlen h3
  rw [hlen] at g1
  have g3:R e ((hget H id).get p) ((cells.toList.drop (Aq p)).take sz):=by
   rw [List.drop_take,List.take_take,Nat.min_eq_left Aa,h5] at g2
   exact g2
  have hle:Aq p + sz≤cells.size:=Aa
  obtain ⟨k1,k2⟩:=DU (o:=Aq p) h4 h5 h6 hle g3
  simp only [RV,RS,V.isAgg,R,EU] at hv
  refine ⟨_,?_,k2⟩
  have:=FG hs ha hcc hle k1
  simp only [ZU]
  rw [hv.2]
  simpa [Instr.loadAt,Instr.sureAddr,asAddr] using this
theorem Tc {c:Ctx} {e:Env} {H:Hp} {A:List V} {a:Act} (hI:Inv M c e H) (hA:FR e A a.tmps):∀ (rs:List ResultVar) (ss:List RVr),JH M rs ss=true→G4 A H ss →
 ∃ vs:List Value,Sem.run M.P (rs.mapM (ZU a.tmps)) e.w = .ok vs e.w∧vs.length=ss.length∧∀ i (h:i < ss.length),RV e (E6 A H ss[i]) (vs.getD i undef)
 | [],[],_,_=>⟨[],by simp,rfl,fun i h=>by simp at h⟩
 | r :: rs, s :: ss, hc, hp => by
   simp only [JH,Bool.and_eq_true] at hc
   simp only [G4] at hp
   obtain ⟨v,h1,h2⟩:=Ab9 hI hA hc.1 hp.1
   obtain ⟨vs,h3,h4,h5⟩:=Tc hI hA rs ss hc.2 hp.2
   refine ⟨v :: vs,?_,by simp [h4],fun i hi=>?_⟩
   ·rw [List.mapM_cons,Sem.run_bind,h1]
    simp only [Result.andThen_ok]
    rw [Sem.run_bind,h3]
    rfl
   ·cases i with
    | zero=>simpa using h2
    | succ i=>simpa using h5 i (by simpa using hi)
 | [],_ :: _,hc,_=>by simp [JH] at hc
 | _ :: _,[],hc,_=>by simp [JH] at hc
theorem Ad7 {e:Env} {A:List V} {H:Hp}:∀ (ss:List RVr) (k:Nat) (xs:Array Value),HE A H ss→(∀ i (h:i < ss.length),∃ y,xs[k + i]?=some y∧RV e (E6 A H ss[i]) y)→RT e (GK A H ss k) xs
 | [],_,_,_,_=>trivial
 | s :: ss, k, xs, hp, h => by
   simp only [HE] at hp
   have A5:=Ad7 ss (k + 1) xs hp.2 (fun i hi=>by
    have:=h (i + 1) (by simpa using hi)
    have e1:k + (i + 1)=k + 1 + i:=Aa
    rw [e1] at this
    simpa using this)
   obtain ⟨y,h1,h2⟩:=h 0 B1
   simp only [List.getElem_cons_zero,Nat.add_zero] at h1 h2
   have h3:=hp.1
   unfold GK
   cases hv:E6 A H s with
   | junk=>exact A5
   | _ =>
     rw [hv] at h2 h3
     exact ⟨⟨h3,y,h1,(AR h3).1 h2⟩,A5⟩
theorem PT {c:Ctx} {e:Env} {H:Hp} {A:List V} {a:Act} (hI:Inv M c e H) (hA:FR e A a.tmps) {fn:Func} {ss:List RVr} (hc:JH M fn.results.toList ss=true) (hp:(En A H ss).1) :
 ∃ v,(results fn a.tmps).run M.P e.w = .ok v e.w∧RV e (En A H ss).2 v:=by
 have hps:G4 A H ss:=by
  unfold En at hp
  split at hp
  ·exact ⟨hp,trivial⟩
  ·exact hp.1
 obtain ⟨vs,h1,h2,h3⟩:=Tc hI hA _ _ hc hps
 have hres:results fn a.tmps=(do let vs ← fn.results.mapM (ZU a.tmps);pure (if h:vs.size=1 then vs[0] else .tuple vs)):=by
  unfold results
  congr 1
  try (congr 1;funext r;cases r <;> rfl)
 rw [hres,Array.mapM_eq_mapM_toList]
 simp only [map_eq_pure_bind,bind_assoc,pure_bind]
 rw [Sem.run_bind,h1]
 simp only [Result.andThen_ok,Sem.run_pure]
 refine ⟨_,rfl,?_⟩
 unfold En
 split
 ·rename_i s
  have hl:vs.length=1:=h2
  rw [dif_pos Qn]
  have:=h3 0 B1
  simp only [List.getElem_cons_zero] at this
  have e1:vs.getD 0 undef=vs[0]'(by omega):=by simp [List.getD,hl]
  rw [e1] at this
  simpa using this
 ·rename_i hne
  have hl:vs.length ≠ 1:=by
   rw [h2]
   intro hl
   match ss,hl,hne with
   | [s],_,hne=>exact hne s rfl
  rw [dif_neg Qn]
  refine ⟨_,rfl,Ad7 ss 0 _ ?_ (fun i hi=>?_)⟩
  ·unfold En at hp
   split at hp
   ·rename_i s;exact absurd rfl (hne s)
   ·exact hp.2
  ·have:=h3 i hi
   have hi':i < vs.length:=Aa
   refine ⟨vs[i],by simp [hi'],?_⟩
   simpa [List.getD,hi'] using this
theorem Vg {e:Env} {us:List V} {vs:Array Value} (h:Pp e us vs) (nt:Nat):FR e (GM us nt) (vs ++ Array.replicate (nt - vs.size) undef):=by
 obtain ⟨h1,h2⟩:=h
 refine ⟨by simp [GM,h1],fun t=>?_⟩
 unfold GM
 by_cases ht:t < us.length
 ·have e1:(us ++ List.replicate (nt - us.length) V.junk).getD t .junk=us.getD t .junk:=by
   simp only [List.getD,List.getElem?_append,ht,if_true]
  have e2:(vs ++ Array.replicate (nt - vs.size) undef).getD t undef=vs.getD t undef:=by
   have:t < vs.size:=Aa
   simp [Array.getElem?_append,this]
  rw [e1,e2];exact h2 t
 ·have e1:(us ++ List.replicate (nt - us.length) V.junk).getD t .junk = .junk:=by
   simp only [List.getD,List.getElem?_append,ht,if_false,List.getElem?_replicate]
   split <;> rfl
  rw [e1];trivial
def Ap (M:Seat) (x:Ctx) (rs:List RVr) (Q:V→Hp→Nat→Prop) (A:List V) (H:Hp) (N:Nat):Prop :=
 ∃ (m z:List Nat) (v:V) (H':Hp) (N':Nat),(decide m.Nodup && z.all (fun i=>!m.contains i) && decide (m.length≤N') && decide (x.k≤N') && (List.range x.k).all (fun j=>m[j]? == some j))=true ∧
  (En A H rs).1∧Bk H m z v (En A H rs).2∧Bq H m z H'∧Q v H' N'
theorem Ap.mk {x:Ctx} {rs:List RVr} {Q:V→Hp→Nat→Prop} {A:List V} {H:Hp} {N:Nat} {k:Nat} (hx:x.k=k) (m z:List Nat) (v:V) (H':Hp) (N':Nat)
 (hm:(decide m.Nodup && z.all (fun i=>!m.contains i) && decide (m.length≤N') && decide (k≤N') && (List.range k).all (fun j=>m[j]? == some j))=true) (h1:(En A H rs).1) (h2:Bk H m z v (En A H rs).2) (h3:Bq H m z H') (h4:Q v H' N'):Ap M x rs Q A H N :=
 ⟨m,z,v,H',N',by rw [hx];exact hm,h1,h2,h3,h4⟩
theorem Vr {f:Nat} {lf:LF} {us:List V} {H:Hp} {k:Nat} {Q:V→Hp→Nat→Prop} (hf:Av M f lf=true)
 (h:∀ x:Ctx,x.k=k→AK M x (fun A' H' N'=>Ap M x lf.rs Q A' H' N') [.code lf.c] k (GM us lf.nt) H):Af M f us H k Q:=by
 intro e vs hI hD hargs
 unfold Av at hf
 split at hf
 case h_2=>cases hf
 rename_i fn hfn
 simp only [Bool.and_eq_true,beq_iff_eq] at hf
 obtain ⟨⟨hb,hnt⟩,hrs⟩:=hf
 split at hb
 case h_2=>cases hb
 rename_i C hC
 refine calls_of_wp hfn hC ?_
 rw [hnt]
 have hsat:Ut M ⟨e,fun b=>∃ id,Ac H id=true∧e.ρ id=b,k⟩ (GM us lf.nt) H k { tmps:=vs ++ Array.replicate (lf.nt - vs.size) undef,defers:=[] } e.w :=
  ⟨e,rfl,hI,Vg hargs lf.nt,hD,Nat.le_refl k,rfl⟩
 have:=h ⟨e,fun b=>∃ id,Ac H id=true∧e.ρ id=b,k⟩ rfl _ _ [.code C] hsat ⟨hb,trivial⟩
 have h2:C.wp M.P (DH M ⟨e,fun b=>∃ id,Ac H id=true∧e.ρ id=b,k⟩ (fun A' H' N'=>Ap M ⟨e,fun b=>∃ id,Ac H id=true∧e.ρ id=b,k⟩ lf.rs Q A' H' N') []) { tmps:=vs ++ Array.replicate (lf.nt - vs.size) undef,defers:=[] } e.w:=this
 refine Code.wp_mono (fun ex a w hx=>?_) h2
 have key:(∃ A H' N,Ut M ⟨e,fun b=>∃ id,Ac H id=true∧e.ρ id=b,k⟩ A H' N a w∧Ap M ⟨e,fun b=>∃ id,Ac H id=true∧e.ρ id=b,k⟩ lf.rs Q A H' N) →
  a.defers=[]∧∃ v,(results fn a.tmps).run M.P w = .ok v w∧∃ x v' e' H' k',(Ending.returned v:Ending) = .returned x∧e'.w=w∧Inv M ⟨e,fun b=>∃ id,Ac H id=true∧e.ρ id=b,k⟩ e' H'∧RV e' v' x∧(∀ id,k'≤id→¬ e'.D id)∧k≤k'∧Q v' H' k':=by
  rintro ⟨A,H1,N,hs,m,z,v',H',N',hm,hpre,hv',hH',hq⟩
  simp only [Zl,decide_eq_true_eq,List.all_eq_true,List.mem_range,beq_iff_eq,List.contains_eq_mem,decide_eq_false_iff_not] at hm
  obtain ⟨⟨⟨⟨m1,m2⟩,m3⟩,m4⟩,m5⟩:=hm
  obtain ⟨e',rfl,hI',hF',hD',hk',hdef⟩:=hs
  obtain ⟨v,hv,hRV⟩:=PT hI' hF' hrs hpre
  refine ⟨hdef,v,hv,v,v',e'.sim H1 m z,H',N',rfl,rfl,hI'.sim m1 m2 hH' (.inl ⟨rfl,m5⟩),NO (Pull.of hI' m z) hv' hRV,?_,m4,hq⟩
  rintro id hid ⟨i,h1,_⟩
  have:=(List.getElem?_eq_some_iff.1 h1).1
  omega
 cases ex <;> try (exact hx.elim)
 ·exact key hx
 ·exact key hx
theorem FZ (k:IntKind) (n:Int):(V.int k n).solid=true:=rfl
theorem Kl (k:IntKind) (n:Int):(V.int k n).size=1:=rfl
theorem Nw (k:IntKind) (n:Int):(V.int k n).isAgg=false:=rfl
theorem Fr (b:Bool):(V.bool b).solid=true:=rfl
theorem Ic (b:Bool):(V.bool b).size=1:=rfl
theorem KM (b:Bool):(V.bool b).isAgg=false:=rfl
theorem Gk (s:ByteArray):(V.str s).solid=true:=rfl
theorem JD (s:ByteArray):(V.str s).size=1:=rfl
theorem MJ (s:ByteArray):(V.str s).isAgg=false:=rfl
theorem Fh:V.nilp.solid=true:=rfl
theorem HY:V.nilp.size=1:=rfl
theorem KW:V.nilp.isAgg=false:=rfl
theorem Gp (i:Nat) (p:List Stp):(V.ptr i p).solid=true:=rfl
theorem Kb (i:Nat) (p:List Stp):(V.ptr i p).size=1:=rfl
theorem NH (i:Nat) (p:List Stp):(V.ptr i p).isAgg=false:=rfl
theorem Gl (v:V):(V.imm v).solid=true:=rfl
theorem JV (v:V):(V.imm v).size=1:=rfl
theorem Nn (v:V):(V.imm v).isAgg=false:=rfl
theorem Fn:V.nils.solid=true:=rfl
theorem HZ:V.nils.size=1:=rfl
theorem JZ:V.nils.isAgg=false:=rfl
theorem Hx (i:Nat) (p:List Stp) (o n sz:Nat):(V.sl i p o n sz).solid=true:=rfl
theorem NV (i:Nat) (p:List Stp) (o n sz:Nat):(V.sl i p o n sz).size=1:=rfl
theorem Sv (i:Nat) (p:List Stp) (o n sz:Nat):(V.sl i p o n sz).isAgg=false:=rfl
theorem Gi (sz n:Nat) (f:Nat→V):(V.lst sz n f).solid=true:=rfl
theorem KL (sz n:Nat) (f:Nat→V):(V.lst sz n f).size=1:=rfl
theorem NL (sz n:Nat) (f:Nat→V):(V.lst sz n f).isAgg=false:=rfl
theorem Fl:V.nilm.solid=true:=rfl
theorem Ih:V.nilm.size=1:=rfl
theorem K6:V.nilm.isAgg=false:=rfl
theorem FY (i:Nat):(V.map i).solid=true:=rfl
theorem Kk (i:Nat):(V.map i).size=1:=rfl
theorem NM (i:Nat):(V.map i).isAgg=false:=rfl
theorem Fv:V.nilf.solid=true:=rfl
theorem Iu:V.nilf.size=1:=rfl
theorem JJ:V.nilf.isAgg=false:=rfl
theorem HH (f:Nat) (c:V):(V.fn f c).solid=true:=rfl
theorem Nu (f:Nat) (c:V):(V.fn f c).size=1:=rfl
theorem Q1 (f:Nat) (c:V):(V.fn f c).isAgg=false:=rfl
theorem EY:V.nili.solid=true:=rfl
theorem Ie:V.nili.size=1:=rfl
theorem KN:V.nili.isAgg=false:=rfl
theorem Gj (t:Nat) (v:V):(V.ifc t v).solid=true:=rfl
theorem K8 (t:Nat) (v:V):(V.ifc t v).size=1:=rfl
theorem MW (t:Nat) (v:V):(V.ifc t v).isAgg=false:=rfl
theorem Hv (n:Nat) (fs:V):(V.st n fs).solid=true:=rfl
theorem NJ (n:Nat) (fs:V):(V.st n fs).size=n:=rfl
theorem Sj (n:Nat) (fs:V):(V.st n fs).isAgg=true:=rfl
theorem HB (sz n:Nat) (f:Nat→V):(V.ar sz n f).solid=true:=rfl
theorem MU (sz n:Nat) (f:Nat→V):(V.ar sz n f).size=n * sz:=rfl
theorem Q6 (sz n:Nat) (f:Nat→V):(V.ar sz n f).isAgg=true:=rfl
theorem Eh (n:Int):IntKind.u64.wrap n=n % 18446744073709551616:=Aap
theorem JT (n:Int):IntKind.u8.wrap n=n % 256:=Aap
theorem FM {n:Int} (h:0≤n∧n < 18446744073709551616):IntKind.u64.wrap n=n:=by
 rw [Eh];omega
theorem WN (n:Int):IntKind.i64.wrap n=if n % 18446744073709551616 ≥ 9223372036854775808 then n % 18446744073709551616 - 18446744073709551616 else n % 18446744073709551616:=Aap
theorem B5 {n:Int} (h:-9223372036854775808≤n∧n < 9223372036854775808):IntKind.i64.wrap n=n:=by
 rw [WN];split <;> omega
theorem T5 {p:Prop} [Decidable p] (k:IntKind) (a b:Int):(if p then V.int k a else V.int k b)=V.int k (if p then a else b):=by split <;> rfl
theorem Qg {p:Prop} [Decidable p] (a b:Bool):(if p then V.bool a else V.bool b)=V.bool (if p then a else b):=by split <;> rfl
theorem Ak.at {M:Seat} {c:Ctx} {A:List V} {H:Hp} {N:Nat} (m z:List Nat) {k:Nat} (hck:c.k=k) {A':List V} {H':Hp} {N':Nat} (hm:(decide m.Nodup && z.all (fun i=>!m.contains i) && decide (m.length≤N') && decide (k≤N') && (List.range k).all (fun j=>m[j]? == some j))=true)
 (hA:Bh H m z A' A) (hH:Bq H m z H'):Ak M c A H N A' H' N':=by
 simp only [Zl,decide_eq_true_eq,List.all_eq_true,List.mem_range,beq_iff_eq,List.contains_eq_mem,decide_eq_false_iff_not] at hm
 obtain ⟨⟨⟨⟨h1,h2⟩,h3⟩,h4⟩,h5⟩:=hm
 exact Ak.sim m z h1 h2 h3 Aa (fun j hj=>h5 j Aa) hA hH
abbrev A0 (l:LO):LOp:=⟨none,.lo l,none⟩
abbrev A1 (d:Nat) (l:LO):LOp:=⟨some d,.lo l,none⟩
abbrev A2 (d t:Nat) (b:Bool) (l:LO):LOp:=⟨some d,.lo l,some (t,b)⟩
abbrev mt (d s:Nat):LOp:=⟨some d,.lo (.mv (.t s)),none⟩
abbrev mn (d:Nat):LOp:=⟨some d,.lo (.mv (.c .nili)),none⟩
abbrev cI (n:Int):X:=.c (.int .i64 n)
abbrev cU (n:Int):X:=.c (.int .u64 n)
abbrev kl (d f:Nat) (l:List X):LOp:=⟨some d,.call f l,none⟩
abbrev sr (l:List LOp) (c:LC):LC:=.seq (.reg l) c
abbrev la (d s m:Nat):LOp:=A1 d (.load true s (.t m))
abbrev lb (d s m:Nat):LOp:=A1 d (.load false s (.t m))
abbrev fa (d s m:Nat):LOp:=A1 d (.fadr s (.t m))
abbrev nc (d m:Nat):LOp:=A1 d (.nilc (.t m))
abbrev ak (d:Nat) (o:BinOp) (a b:Nat):LOp:=A1 d (.ari o (.t a) (.t b))
abbrev aI (d:Nat) (o:BinOp) (a:Nat) (n:Int):LOp:=A1 d (.ari o (.t a) (cI n))
abbrev ia (d s a b:Nat):LOp:=A1 d (.isl s (.t a) (.t b))
abbrev ib (d n s a b:Nat):LOp:=A1 d (.iarr n s (.t a) (.t b))
abbrev sb (s a b:Nat):LOp:=A0 (.store s (.t a) (.t b))
abbrev mg (d g:Nat) (b:Bool) (m:Nat):LOp:=A2 d g b (.mv (.t m))
abbrev ee (d m k:Nat):LOp:=A1 d (.ext (.t m) k)
abbrev aJ (d:Nat) (o:BinOp) (n:Int) (b:Nat):LOp:=A1 d (.ari o (cI n) (.t b))
abbrev Ep (d:Nat) (o:IntKind) (b:Nat):LOp:=A1 d (.conv o (.t b))
abbrev EQ (m e:Nat):LC:=.cond (.t m) (.skip) (.exit e)
abbrev mI (d:Nat) (n:Int):LOp:=A1 d (.mv (cI n))
abbrev mU (d:Nat) (n:Int):LOp:=A1 d (.mv (cU n))
abbrev aB (d n:Nat):LOp:=A1 d (.alloc (.ar n (.int .u8)))
abbrev bX (d m:Nat):LOp:=A1 d (.box (.t m))
abbrev DG (d m n:Nat):LOp:=A1 d (.pick (.t m) (.c (.bool true)) (.t n))
abbrev Ju (d m n:Nat):LOp:=A1 d (.pick (.t m) (.t n) (.c (.bool false)))
abbrev iI (d n s a:Nat) (i:Int):LOp:=A1 d (.iarr n s (.t a) (cI i))
abbrev iJ (d s a:Nat) (i:Int):LOp:=A1 d (.isl s (.t a) (cI i))
abbrev aU (d:Nat) (o:BinOp) (a:Nat) (n:Int):LOp:=A1 d (.ari o (.t a) (cU n))
abbrev aV (d:Nat) (o:BinOp) (n:Int) (b:Nat):LOp:=A1 d (.ari o (cU n) (.t b))
abbrev lN (d k m:Nat):LOp:=A1 d (.len k (.t m))
abbrev aP (d s y m n:Nat):LOp:=A1 d (.app s y (.t m) (.t n))
theorem Cv (n:Nat) (a:Nat):BitVec.ofInt n (a:Int)=BitVec.ofNat n a:=by
 apply BitVec.eq_of_toNat_eq
 simp
theorem Ww {a b:Nat} (ha:a < 18446744073709551616) (hb:b < 18446744073709551616):IntKind.u64.wrap (((BitVec.ofInt IntKind.u64.bits (a:Int) ||| BitVec.ofInt IntKind.u64.bits (b:Int)).toNat:Nat):Int)=((a ||| b:Nat):Int):=by
 have h:a ||| b < 2 ^ 64:=Nat.or_lt_two_pow Aa Aa
 rw [Cv,Cv,BitVec.toNat_or,BitVec.toNat_ofNat,BitVec.toNat_ofNat,Nat.mod_eq_of_lt (by simpa [IntKind.bits] using ha),Nat.mod_eq_of_lt (by simpa [IntKind.bits] using hb)]
 exact FM Aa
theorem Te {a b:Nat} (ha:a < 18446744073709551616) (hb:b < 18446744073709551616):IntKind.u64.wrap (((BitVec.ofInt IntKind.u64.bits (a:Int) &&& BitVec.ofInt IntKind.u64.bits (b:Int)).toNat:Nat):Int)=((a &&& b:Nat):Int):=by
 have h:a &&& b < 2 ^ 64:=Nat.lt_of_le_of_lt Nat.and_le_left Aa
 rw [Cv,Cv,BitVec.toNat_and,BitVec.toNat_ofNat,BitVec.toNat_ofNat,Nat.mod_eq_of_lt (by simpa [IntKind.bits] using ha),Nat.mod_eq_of_lt (by simpa [IntKind.bits] using hb)]
 exact FM Aa
theorem Ti {a b:Nat} (ha:a < 18446744073709551616) (hb:b < 18446744073709551616):IntKind.u64.wrap (((BitVec.ofInt IntKind.u64.bits (a:Int) ^^^ BitVec.ofInt IntKind.u64.bits (b:Int)).toNat:Nat):Int)=((a ^^^ b:Nat):Int):=by
 have h:a ^^^ b < 2 ^ 64:=Nat.xor_lt_two_pow Aa Aa
 rw [Cv,Cv,BitVec.toNat_xor,BitVec.toNat_ofNat,BitVec.toNat_ofNat,Nat.mod_eq_of_lt (by simpa [IntKind.bits] using ha),Nat.mod_eq_of_lt (by simpa [IntKind.bits] using hb)]
 exact FM Aa
theorem Acd {a:Nat} (ha:a < 18446744073709551616):IntKind.u64.wrap (((BitVec.ofInt IntKind.u64.bits (if IntKind.u64.signed=true then -1 else IntKind.u64.max) ^^^ BitVec.ofInt IntKind.u64.bits (a:Int)).toNat:Nat):Int)=((18446744073709551615 ^^^ a:Nat):Int):=by
 have e1:(if IntKind.u64.signed=true then (-1:Int) else IntKind.u64.max)=((18446744073709551615:Nat):Int):=BF
 rw [e1,Ti Aa ha]
theorem Ack {a k:Nat} (hk:k < 64):IntKind.u64.wrap ((a:Int) * 2 ^ min (k:Int).toNat IntKind.u64.bits)=((a <<< k % 18446744073709551616:Nat):Int):=by
 have e1:min (k:Int).toNat IntKind.u64.bits=k:=by simp only [IntKind.bits];omega
 rw [e1,Eh,Nat.shiftLeft_eq,Int.natCast_emod,Int.natCast_mul,Int.natCast_pow]
 rfl
theorem Aav {a k:Nat} (hk:k≤64):(a:Int).fdiv (2 ^ min (k:Int).toNat IntKind.u64.bits)=((a >>> k:Nat):Int):=by
 have e1:min (k:Int).toNat IntKind.u64.bits=k:=by simp only [IntKind.bits];omega
 rw [e1,Int.fdiv_eq_ediv_of_nonneg _ (Int.pow_nonneg Aa),Nat.shiftRight_eq_div_pow,Int.natCast_ediv,Int.natCast_pow]
 rfl
def U6 (x k:Nat):Nat:=(x <<< k % 18446744073709551616) ||| (x >>> (64 - k))
theorem Aan {x k:Nat} (hx:x < 18446744073709551616):U6 x k < 18446744073709551616:=by
 have h1:x <<< k % 18446744073709551616 < 2 ^ 64:=Nat.mod_lt _ Aa
 have h2:x >>> (64 - k) < 2 ^ 64:=by
  rw [Nat.shiftRight_eq_div_pow]
  exact Nat.lt_of_le_of_lt (Nat.div_le_self _ _) Aa
 exact Nat.or_lt_two_pow h1 h2
theorem Ki (A:List V) (v:V):put A none v=A:=rfl
theorem Rq (A:List V) (d:Option Nat) (v:V):(put A d v).length=A.length:=by cases d <;> simp [put]
theorem VZ {A:List V} {i:Nat} {v:V} (h:i < A.length):(put A (some i) v).getD i .junk=v:=by simp [put,List.getD,h]
theorem Ajm {A:List V} {i t:Nat} {v:V} (h:i ≠ t):(put A (some i) v).getD t .junk=A.getD t .junk:=by simp [put,List.getD,List.getElem?_set_ne h]
def fr (n:Nat):List (Nat × V)→List V
 | []=>List.replicate n .junk
 | (t,v) :: r=>put (fr n r) (some t) v
theorem Cq (n:Nat):∀ l,(fr n l).length=n
 | []=>by simp [fr]
 | (t,v) :: r=>by simp [fr,Rq,Cq n r]
theorem Ib (n t:Nat):(fr n []).getD t .junk = .junk:=by
 simp only [fr,List.getD,List.getElem?_replicate]
 split <;> rfl
theorem Fe {n t:Nat} {v:V} {r:List (Nat × V)} (h:t < n):(fr n ((t,v) :: r)).getD t .junk=v:=VZ (by rw [Cq];exact h)
theorem JC {n t i:Nat} {v:V} {r:List (Nat × V)} (h:i ≠ t):(fr n ((i,v) :: r)).getD t .junk=(fr n r).getD t .junk:=Ajm h
theorem QF (n t:Nat) (v:V) (r:List (Nat × V)):put (fr n r) (some t) v=fr n ((t,v) :: r):=rfl
def Ze:Nat→List V→List (Nat × V)→List (Nat × V)
 | _,[],acc=>acc
 | i,u :: r,acc=>Ze (i + 1) r ((i,u) :: acc)
def La0:=(aq9 (DD @BEq.rfl.{0} @Int.cast_ofNat_Int @LK.isA.eq_1 @LK.isA.eq_2 @LK.isA.eq_3 @LK.isA.eq_4 @LK.isA.eq_5 @LK.isA.eq_6 @LK.isA.eq_7 @LK.isP.eq_1 @LK.isP.eq_2 @LK.isP.eq_3 @LK.isP.eq_4 @LK.isP.eq_5 @LK.isP.eq_6) (EL @LK.isP.eq_7 @LK.isP.eq_8 @LK.isP.eq_9 @LK.isP.eq_10 @LK.isP.eq_11 @LK.isP.eq_12 @LK.isP.eq_13 @LK.isP.eq_14 @LK.isW.eq_1 @LK.isW.eq_2 @LK.isW.eq_3 @LK.isW.eq_4 @LK.isW.eq_5 @LK.isW.eq_6 @LK.isW.eq_7 @LK.isW.eq_8) (DD @List.cons_append.{0} @List.filter_cons.{0} @List.filter_nil.{0} @List.length_cons.{0} @List.length_nil.{0} (@List.map_cons.{0,0}) (@List.map_nil.{0,0}) @List.nil_append.{0} @hx.eq_1 @V.fget.eq_1 @V.fget.eq_2 @V.fhas.eq_1 @V.fhas.eq_2 @V.fset.eq_1 @V.fset.eq_2) (EL @V.get.eq_1 @V.get.eq_2 @V.get.eq_3 @V.get.eq_4 @V.get.eq_5 @V.ok.eq_1 @V.ok.eq_2 @V.ok.eq_3 @V.ok.eq_4 @V.ok.eq_5 @V.set.eq_1 @V.set.eq_2 @V.set.eq_3 @V.set.eq_4 @X.ev.eq_1 @X.ev.eq_2) (DD @X.ev.eq_3 @X.ev.eq_4 @Z.sz.eq_1 @Z.sz.eq_2 @Z.sz.eq_3 @Z.sz.eq_4 @Z.sz.eq_5 @Z.v.eq_1 @Z.v.eq_2 @Z.v.eq_3 @Z.v.eq_4 @Z.v.eq_5 @Z.v.eq_6 @Z.v.eq_7 @Z.v.eq_8) (EL @Z.v.eq_9 @Z.v.eq_10 @Z.v.eq_11 @Z.v.eq_12 @bs.eq_1 @cond_false.{1} @cond_true.{1} @Cw.eq_1 @Cw.eq_2 @Cw.eq_3 @Da.eq_1 @Da.eq_2 @Da.eq_3 @Da.eq_4 @BZ.eq_1 @BZ.eq_2) (DD @Vu.eq_1 @Vu.eq_2 @FL.eq_1 @FL.eq_2 @forall_const.{0} @forall_const.{1} @BJ.eq_1 @BJ.eq_2 @hget.eq_1 @hget.eq_2 @Ac.eq_1 @Ac.eq_2 @Co.eq_1 @Co.eq_2 @DQ.eq_1) (EL @DQ.eq_2 @if_false.{1} @if_true.{1} @Qj.eq_1 @Qj.eq_2 @ite_false.{1} @ite_true.{1} @ne_eq.{1} @Hu.eq_1 @Hu.eq_2 @Hu.eq_3 @Ze.eq_1 @Ze.eq_2 @BQ.eq_1 @BQ.eq_2 @Di.eq_1) (EL @Di.eq_2 @Di.eq_3 @Cy.eq_1 @Cy.eq_2 @BE.eq_1 @BE.eq_2 @Eb.eq_1 @Eb.eq_2 @CT.eq_1 @CT.eq_2 @AC.eq_1 @AC.eq_2 @FF.eq_1 @FF.eq_2 @G7.eq_1 @G7.eq_2))
theorem Wt (n:Nat):∀ (us:List V) (i:Nat) (acc:List (Nat × V)) (pre:List V),pre.length=i→fr n acc=pre ++ List.replicate (n - i) .junk→i + us.length≤n→fr n (Ze i us acc)=pre ++ us ++ List.replicate (n - i - us.length) .junk
 | [],i,acc,pre,_,h,_=>by simpa [Ze] using h
 | u :: r, i, acc, pre, hp, h, hl => by
   simp only [List.length_cons] at hl
   have h2:fr n ((i,u) :: acc)=(pre ++ [u]) ++ List.replicate (n - (i + 1)) .junk:=by
    simp only [fr,put,h]
    have e1:n - i=(n - (i + 1)) + 1:=Aa
    rw [e1,List.replicate_succ]
    apply List.ext_getElem?
    intro k
    by_cases hk:k=i
    ·subst hk
     rw [List.getElem?_set_self (by simp [hp])]
     rw [List.getElem?_append_left (by simp [hp])]
     rw [List.getElem?_append_right Aa]
     simp [hp]
    ·rw [List.getElem?_set_ne (Ne.symm hk)]
     by_cases hk2:k < i
     ·rw [List.getElem?_append_left Aa,List.getElem?_append_left EP,List.getElem?_append_left Aa]
     ·rw [List.getElem?_append_right Aa,List.getElem?_append_right EP]
      have e2:k - pre.length=(k - (pre ++ [u]).length) + 1:=EP
      rw [e2,List.getElem?_cons_succ]
   have:=Wt n r (i + 1) ((i,u) :: acc) (pre ++ [u]) (by simp [hp]) h2 Aa
   simp only [Ze]
   rw [this]
   have e3:n - (i + 1) - r.length=n - i - (u :: r).length:=EP
   rw [e3]
   simp
theorem Ui {us:List V} {n:Nat} (h:us.length≤n):GM us n=fr n (Ze 0 us []):=by
 rw [Wt n us 0 [] [] rfl (by simp [fr]) Aa]
 simp [GM]
theorem Ab {M:Seat} {f:Nat} {lf:LF} {us:List V} {H:Hp} {k:Nat} {Q:V→Hp→Nat→Prop} (hf:Av M f lf=true) (hn:decide (us.length≤lf.nt)=true)
 (h:∀ x:Ctx,x.k=k→AK M x (Ap M x lf.rs Q) [.code lf.c] k (fr lf.nt (Ze 0 us [])) H):Af M f us H k Q:=by
 refine Vr hf fun x hx=>?_
 rw [Ui (of_decide_eq_true hn)]
 exact h x hx
def L1 (H:Hp) (m z:List Nat) (A:List V):List (Nat × V)→Prop
 | []=>True
 | (t,v) :: r=>Bk H m z v (A.getD t .junk)∧L1 H m z A r
def La4:=(F5 (Lf @List.getElem?_cons_succ.{0} @List.getElem?_cons_zero.{0} @List.getElem?_nil.{0} @Option.some.injEq.{0} @Ar.eq_1 @Ar.eq_2 @Ar.eq_3 @Ar.eq_4 @Ar.eq_5 @Ar.eq_6 @Ar.eq_7 @Ar.eq_8 @Ar.eq_9) (Lf @Ar.eq_10 @Ar.eq_11 @Ar.eq_12 @Ar.eq_13 @Ar.eq_14 @Ar.eq_15 @Ar.eq_16 @Ar.eq_17 @Ar.eq_18 @Ar.eq_19 @Ar.eq_20 @Ar.eq_21 @Ar.eq_22) (Lf @Ar.eq_23 @Ar.eq_24 @Ar.eq_25 @Ar.eq_26 @Ar.eq_27 @Ar.eq_28 @Ar.eq_29 @Ar.eq_30 @Ar.eq_31 @Ar.eq_32 @Ar.eq_33 @Ar.eq_34 @Ar.eq_35) (Lf @Ar.eq_36 @Ar.eq_37 @Ar.eq_38 @Ar.eq_39 @Ar.eq_40 @Bh.eq_1 @Bh.eq_2 @Bh.eq_3 @Bq.eq_1 @Bq.eq_2 @L1.eq_1 @L1.eq_2 @MG.eq_1))
theorem MM {H:Hp} {m z:List Nat}:∀ {A B:List V},A.length=B.length→(∀ t,Bk H m z (A.getD t .junk) (B.getD t .junk))→Bh H m z A B
 | [],[],_,_=>trivial
 | _ :: _,_ :: _,hl,h=>⟨by simpa using h 0,MM Qn (fun t=>by simpa using h (t + 1))⟩
 | [],_ :: _,hl,_=>by simp at hl
 | _ :: _,[],hl,_=>by simp at hl
theorem Kz {H:Hp} {m z:List Nat} {A:List V} {n:Nat}:∀ {l:List (Nat × V)},L1 H m z A l→∀ t,t < n→Bk H m z ((fr n l).getD t .junk) (A.getD t .junk)
 | [],_,t,_=>by rw [Ib];trivial
 | (i, v) :: r, h, t, ht => by
   by_cases hit:i=t
   ·subst hit;rw [Fe ht];exact h.1
   ·rw [JC hit];exact Kz h.2 t ht
theorem Ak.fr {M:Seat} {c:Ctx} {A:List V} {H:Hp} {N n:Nat} (m z:List Nat) {k:Nat} (hck:c.k=k) {l:List (Nat × V)} {H':Hp} {N':Nat} (hlen:A.length=n)
 (hm:(decide m.Nodup && z.all (fun i=>!m.contains i) && decide (m.length≤N') && decide (k≤N') && (List.range k).all (fun j=>m[j]? == some j))=true)
 (hA:L1 H m z A l) (hH:Bq H m z H'):Ak M c A H N (Mv.fr n l) H' N':=by
 refine Ak.at m z hck hm (MM (by rw [Cq,hlen]) (fun t=>?_)) hH
 by_cases ht:t < n
 ·exact Kz hA t ht
 ·have:(Mv.fr n l).getD t .junk = .junk:=by rw [List.getD_eq_getElem?_getD,List.getElem?_eq_none (by rw [Cq];omega)];rfl
  rw [this];trivial
end Mv
