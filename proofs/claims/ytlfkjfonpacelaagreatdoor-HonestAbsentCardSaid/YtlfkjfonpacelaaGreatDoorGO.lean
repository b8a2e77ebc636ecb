/- A part. -/
import Derived.Test.YtlfkjfonpacelaaGreatDoorGN
import Derived.Laws.Sem
set_option linter.all false
namespace Mv
open Go
variable {M:Seat}
inductive RVr where
 | tmp (t:Nat)
 | cell (a:Nat) (agg:Bool) (sz:Nat)
structure LF where
 c:LC
 np:Nat
 nf:Nat
 nt:Nat
 rs:List RVr
def Ex (A:List V) (H:Hp):RVr→V
 | .tmp t=>A.getD t .junk
 | .cell a agg sz=>(Ac A H 0 (.load agg sz (.t a))).v
def HI (A:List V) (H:Hp):RVr→Prop
 | .tmp _=>True
 | .cell a agg sz=>(match A.getD a .junk with | .ptr _ _=>True | _=>False)∧(Ac A H 0 (.load agg sz (.t a))).pre
def Gm (A:List V) (H:Hp):List RVr→Prop
 | []=>True
 | r :: rs=>HI A H r∧Gm A H rs
def GN (A:List V) (H:Hp):List RVr→Nat→V
 | [],_=>.fnil
 | r :: rs, i => match Ex A H r with
   | .junk=>GN A H rs (i + 1)
   | v=>.fcons i v (GN A H rs (i + 1))
def HJ (A:List V) (H:Hp):List RVr→Prop
 | []=>True
 | r :: rs=>(match Ex A H r with | .junk=>True | v=>v.solid=true)∧HJ A H rs
def Eg (A:List V) (H:Hp) (rs:List RVr):Prop × V :=
 match rs with
 | [r]=>(HI A H r,Ex A H r)
 | rs=>(Gm A H rs∧HJ A H rs,.tup (GN A H rs 0))
def Sn:=(W7 @Eg.eq_1 @Eg.eq_2 @HI.eq_1 @HI.eq_2 @Gm.eq_1 @Gm.eq_2 @Ex.eq_1 @Ex.eq_2)
def Ae2 (M:Seat):ResultVar→RVr→Bool
 | .tmp t,.tmp t'=>t == t'
 | .cell a t,.cell a' agg sz=>a == a' && Fx M t == some sz && HF M t == some agg
 | _,_=>false
def J7 (M:Seat):List ResultVar→List RVr→Bool
 | [],[]=>true
 | r :: rs,s :: ss=>Ae2 M r s && J7 M rs ss
 | _,_=>false
def Ar (M:Seat) (f:Nat) (lf:LF):Bool :=
 match M.P.funcs[M.φ f]? with
 | some fn=>(match fn.body with | some c=>BT M c lf.c | none=>false) && fn.ntmps == lf.nt && J7 M fn.results.toList lf.rs
 | none=>false
def GJ (us:List V) (nt:Nat):List V:=us ++ List.replicate (nt - us.length) .junk
def Aml (M:Seat) (x:Ctx) (rs:List RVr) (Q:V→Hp→Nat→Prop) (A:List V) (H:Hp) (N:Nat):Prop :=
 ∃ A' H' N',Ao M x A H N A' H' N'∧(Eg A' H' rs).1∧Q (Eg A' H' rs).2 H' N'
theorem Aml.now {x:Ctx} {rs:List RVr} {Q:V→Hp→Nat→Prop} {A:List V} {H:Hp} {N:Nat} (h:(Eg A H rs).1∧Q (Eg A H rs).2 H N):Aml M x rs Q A H N :=
 ⟨A,H,N,Ao.refl,h⟩
def Zw (tmps:Array Value):ResultVar→Sem Value
 | .tmp t=>pure (tmps.getD t undef)
 | .cell a' t=>do loadVar t (← asAddr (tmps.getD a' undef))
theorem Zf {c:Ctx} {e:Env} {H:Hp} {A:List V} {a:Act} (hI:Inv M c e H) (hA:FR e A a.tmps) {r:ResultVar} {s:RVr} (hc:Ae2 M r s=true) (hp:HI A H s) :
 ∃ v,Sem.run M.P (Zw a.tmps r) e.w = .ok v e.w∧RV e (Ex A H s) v:=by
 cases r <;> cases s <;> simp only [Ae2,Bool.false_eq_true] at hc
 case tmp.tmp t t' =>
  simp only [beq_iff_eq] at hc
  subst hc
  exact ⟨_,rfl,hA.val t⟩
 case cell.cell a' t a'' agg sz =>
  simp only [Bool.and_eq_true,beq_iff_eq] at hc
  obtain ⟨⟨rfl,hs⟩,ha⟩:=hc
  obtain ⟨hptr,hp⟩:=hp
  have hv:=hA.val a'
  simp only [Ex]
  simp only [Ac,X.ev] at hp ⊢
  split at hptr
  case h_2=>exact hptr.elim
  rename_i id p hy
  rw [hy] at hv
  simp only [hy] at hp ⊢
  obtain ⟨⟨h1,h2,h3⟩,h4,h5,h6⟩:=hp
  obtain ⟨cells,el,hcc,hsz,hR⟩:=hI.cells h1 h2
  have hlen:(cells.toList.take (hget H id).size).length=(hget H id).size:=Fu
  obtain ⟨g1,g2⟩:=DT hR hlen h3
  rw [hlen] at g1
  have g3:R e ((hget H id).get p) ((cells.toList.drop (As p)).take sz):=by
   rw [List.drop_take,List.take_take,Nat.min_eq_left Aa,h5] at g2
   exact g2
  have hle:As p + sz≤cells.size:=Aa
  obtain ⟨k1,k2⟩:=DP (o:=As p) h4 h5 h6 hle g3
  simp only [RV,RS,V.isAgg,R,Fw] at hv
  refine ⟨_,?_,k2⟩
  have:=FB hs ha hcc hle k1
  simp only [Zw]
  rw [hv.2]
  simpa [Instr.loadAt,Instr.sureAddr,asAddr] using this
theorem Sd {c:Ctx} {e:Env} {H:Hp} {A:List V} {a:Act} (hI:Inv M c e H) (hA:FR e A a.tmps):∀ (rs:List ResultVar) (ss:List RVr),J7 M rs ss=true→Gm A H ss →
 ∃ vs:List Value,Sem.run M.P (rs.mapM (Zw a.tmps)) e.w = .ok vs e.w∧vs.length=ss.length∧∀ i (h:i < ss.length),RV e (Ex A H ss[i]) (vs.getD i undef)
 | [],[],_,_=>⟨[],by simp,rfl,fun i h=>by simp at h⟩
 | r :: rs, s :: ss, hc, hp => by
   simp only [J7,Bool.and_eq_true] at hc
   simp only [Gm] at hp
   obtain ⟨v,h1,h2⟩:=Zf hI hA hc.1 hp.1
   obtain ⟨vs,h3,h4,h5⟩:=Sd hI hA rs ss hc.2 hp.2
   refine ⟨v :: vs,?_,by simp [h4],fun i hi=>?_⟩
   ·rw [List.mapM_cons,Sem.run_bind,h1]
    simp only [Result.andThen_ok]
    rw [Sem.run_bind,h3]
    rfl
   ·cases i with
    | zero=>simpa using h2
    | succ i=>simpa using h5 i (by simpa using hi)
 | [],_ :: _,hc,_=>by simp [J7] at hc
 | _ :: _,[],hc,_=>by simp [J7] at hc
theorem Ac6 {e:Env} {A:List V} {H:Hp}:∀ (ss:List RVr) (k:Nat) (xs:Array Value),HJ A H ss→(∀ i (h:i < ss.length),∃ y,xs[k + i]?=some y∧RV e (Ex A H ss[i]) y)→RT e (GN A H ss k) xs
 | [],_,_,_,_=>trivial
 | s :: ss, k, xs, hp, h => by
   simp only [HJ] at hp
   have A4:=Ac6 ss (k + 1) xs hp.2 (fun i hi=>by
    have:=h (i + 1) (by simpa using hi)
    have e1:k + (i + 1)=k + 1 + i:=Aa
    rw [e1] at this
    simpa using this)
   obtain ⟨y,h1,h2⟩:=h 0 BD
   simp only [List.getElem_cons_zero,Nat.add_zero] at h1 h2
   have h3:=hp.1
   unfold GN
   cases hv:Ex A H s with
   | junk=>exact A4
   | _ =>
     rw [hv] at h2 h3
     exact ⟨⟨h3,y,h1,(AR h3).1 h2⟩,A4⟩
theorem OR {c:Ctx} {e:Env} {H:Hp} {A:List V} {a:Act} (hI:Inv M c e H) (hA:FR e A a.tmps) {fn:Func} {ss:List RVr} (hc:J7 M fn.results.toList ss=true) (hp:(Eg A H ss).1) :
 ∃ v,(results fn a.tmps).run M.P e.w = .ok v e.w∧RV e (Eg A H ss).2 v:=by
 have hps:Gm A H ss:=by
  unfold Eg at hp
  split at hp
  ·exact ⟨hp,trivial⟩
  ·exact hp.1
 obtain ⟨vs,h1,h2,h3⟩:=Sd hI hA _ _ hc hps
 have hres:results fn a.tmps=(do let vs ← fn.results.mapM (Zw a.tmps);pure (if h:vs.size=1 then vs[0] else .tuple vs)):=by
  unfold results
  congr 1
  try (congr 1;funext r;cases r <;> rfl)
 rw [hres,Array.mapM_eq_mapM_toList]
 simp only [map_eq_pure_bind,bind_assoc,pure_bind]
 rw [Sem.run_bind,h1]
 simp only [Result.andThen_ok,Sem.run_pure]
 refine ⟨_,rfl,?_⟩
 unfold Eg
 split
 ·rename_i s
  have hl:vs.length=1:=h2
  rw [dif_pos OC]
  have:=h3 0 BD
  simp only [List.getElem_cons_zero] at this
  have e1:vs.getD 0 undef=vs[0]'(by omega):=by simp [List.getD,hl]
  rw [e1] at this
  simpa using this
 ·rename_i hne
  have hl:vs.length ≠ 1:=by
   rw [h2]
   intro hl
   match ss,hl,hne with
   | [s],_,hne=>exact hne s rfl
  rw [dif_neg OC]
  refine ⟨_,rfl,Ac6 ss 0 _ ?_ (fun i hi=>?_)⟩
  ·unfold Eg at hp
   split at hp
   ·rename_i s;exact absurd rfl (hne s)
   ·exact hp.2
  ·have:=h3 i hi
   have hi':i < vs.length:=Aa
   refine ⟨vs[i],by simp [hi'],?_⟩
   simpa [List.getD,hi'] using this
theorem U3 {e:Env} {us:List V} {vs:Array Value} (h:OQ e us vs) (nt:Nat):FR e (GJ us nt) (vs ++ Array.replicate (nt - vs.size) undef):=by
 obtain ⟨h1,h2⟩:=h
 refine ⟨by simp [GJ,h1],fun t=>?_⟩
 unfold GJ
 by_cases ht:t < us.length
 ·have e1:(us ++ List.replicate (nt - us.length) V.junk).getD t .junk=us.getD t .junk:=by
   simp only [List.getD,List.getElem?_append,ht,if_true]
  have e2:(vs ++ Array.replicate (nt - vs.size) undef).getD t undef=vs.getD t undef:=by
   have:t < vs.size:=Aa
   simp [Array.getElem?_append,this]
  rw [e1,e2];exact h2 t
 ·have e1:(us ++ List.replicate (nt - us.length) V.junk).getD t .junk = .junk:=by
   simp only [List.getD,List.getElem?_append,ht,if_false,List.getElem?_replicate]
   split <;> rfl
  rw [e1];trivial
def Aq (M:Seat) (x:Ctx) (rs:List RVr) (Q:V→Hp→Nat→Prop) (A:List V) (H:Hp) (N:Nat):Prop :=
 ∃ (m z:List Nat) (v:V) (H':Hp) (N':Nat),(decide m.Nodup && z.all (fun i=>!m.contains i) && decide (m.length≤N') && decide (x.k≤N') && (List.range x.k).all (fun j=>m[j]? == some j))=true ∧
  (Eg A H rs).1∧Bl H m z v (Eg A H rs).2∧B8 H m z H'∧Q v H' N'
theorem Aq.mk {x:Ctx} {rs:List RVr} {Q:V→Hp→Nat→Prop} {A:List V} {H:Hp} {N:Nat} {k:Nat} (hx:x.k=k) (m z:List Nat) (v:V) (H':Hp) (N':Nat)
 (hm:(decide m.Nodup && z.all (fun i=>!m.contains i) && decide (m.length≤N') && decide (k≤N') && (List.range k).all (fun j=>m[j]? == some j))=true) (h1:(Eg A H rs).1) (h2:Bl H m z v (Eg A H rs).2) (h3:B8 H m z H') (h4:Q v H' N'):Aq M x rs Q A H N :=
 ⟨m,z,v,H',N',by rw [hx];exact hm,h1,h2,h3,h4⟩
theorem U2 {f:Nat} {lf:LF} {us:List V} {H:Hp} {k:Nat} {Q:V→Hp→Nat→Prop} (hf:Ar M f lf=true)
 (h:∀ x:Ctx,x.k=k→Bt M x (fun A' H' N'=>Aq M x lf.rs Q A' H' N') [.code lf.c] k (GJ us lf.nt) H):Ae M f us H k Q:=by
 intro e vs hI hD hargs
 unfold Ar at hf
 split at hf
 case h_2=>cases hf
 rename_i fn hfn
 simp only [Bool.and_eq_true,beq_iff_eq] at hf
 obtain ⟨⟨hb,hnt⟩,hrs⟩:=hf
 split at hb
 case h_2=>cases hb
 rename_i C hC
 refine calls_of_wp hfn hC ?_
 rw [hnt]
 have hsat:Ul M ⟨e,fun b=>∃ id,Af H id=true∧e.ρ id=b,k⟩ (GJ us lf.nt) H k { tmps:=vs ++ Array.replicate (lf.nt - vs.size) undef,defers:=[] } e.w :=
  ⟨e,rfl,hI,U3 hargs lf.nt,hD,Nat.le_refl k,rfl⟩
 have:=h ⟨e,fun b=>∃ id,Af H id=true∧e.ρ id=b,k⟩ rfl _ _ [.code C] hsat ⟨hb,trivial⟩
 have h2:C.wp M.P (D1 M ⟨e,fun b=>∃ id,Af H id=true∧e.ρ id=b,k⟩ (fun A' H' N'=>Aq M ⟨e,fun b=>∃ id,Af H id=true∧e.ρ id=b,k⟩ lf.rs Q A' H' N') []) { tmps:=vs ++ Array.replicate (lf.nt - vs.size) undef,defers:=[] } e.w:=this
 refine Code.wp_mono (fun ex a w hx=>?_) h2
 have key:(∃ A H' N,Ul M ⟨e,fun b=>∃ id,Af H id=true∧e.ρ id=b,k⟩ A H' N a w∧Aq M ⟨e,fun b=>∃ id,Af H id=true∧e.ρ id=b,k⟩ lf.rs Q A H' N) →
  a.defers=[]∧∃ v,(results fn a.tmps).run M.P w = .ok v w∧∃ x v' e' H' k',(Ending.returned v:Ending) = .returned x∧e'.w=w∧Inv M ⟨e,fun b=>∃ id,Af H id=true∧e.ρ id=b,k⟩ e' H'∧RV e' v' x∧(∀ id,k'≤id→¬ e'.D id)∧k≤k'∧Q v' H' k':=by
  rintro ⟨A,H1,N,hs,m,z,v',H',N',hm,hpre,hv',hH',hq⟩
  simp only [YH,decide_eq_true_eq,List.all_eq_true,List.mem_range,beq_iff_eq,List.contains_eq_mem,decide_eq_false_iff_not] at hm
  obtain ⟨⟨⟨⟨m1,m2⟩,m3⟩,m4⟩,m5⟩:=hm
  obtain ⟨e',rfl,hI',hF',hD',hk',hdef⟩:=hs
  obtain ⟨v,hv,hRV⟩:=OR hI' hF' hrs hpre
  refine ⟨hdef,v,hv,v,v',e'.sim H1 m z,H',N',rfl,rfl,hI'.sim m1 m2 hH' (.inl ⟨rfl,m5⟩),MD (Pull.of hI' m z) hv' hRV,?_,m4,hq⟩
  rintro id hid ⟨i,h1,_⟩
  have:=(List.getElem?_eq_some_iff.1 h1).1
  omega
 cases ex <;> try (exact hx.elim)
 ·exact key hx
 ·exact key hx
theorem FP (k:IntKind) (n:Int):(V.int k n).solid=true:=rfl
theorem K2 (k:IntKind) (n:Int):(V.int k n).size=1:=rfl
theorem N2 (k:IntKind) (n:Int):(V.int k n).isAgg=false:=rfl
theorem EZ (b:Bool):(V.bool b).solid=true:=rfl
theorem HW (b:Bool):(V.bool b).size=1:=rfl
theorem K8 (b:Bool):(V.bool b).isAgg=false:=rfl
theorem FO (s:ByteArray):(V.str s).solid=true:=rfl
theorem Jr (s:ByteArray):(V.str s).size=1:=rfl
theorem N6 (s:ByteArray):(V.str s).isAgg=false:=rfl
theorem Fg:V.nilp.solid=true:=rfl
theorem HO:V.nilp.size=1:=rfl
theorem Kr:V.nilp.isAgg=false:=rfl
theorem FL (i:Nat) (p:List Stp):(V.ptr i p).solid=true:=rfl
theorem Kf (i:Nat) (p:List Stp):(V.ptr i p).size=1:=rfl
theorem NA (i:Nat) (p:List Stp):(V.ptr i p).isAgg=false:=rfl
theorem FW (v:V):(V.imm v).solid=true:=rfl
theorem JS (v:V):(V.imm v).size=1:=rfl
theorem ND (v:V):(V.imm v).isAgg=false:=rfl
theorem Ff:V.nils.solid=true:=rfl
theorem Iq:V.nils.size=1:=rfl
theorem JN:V.nils.isAgg=false:=rfl
theorem HA (i:Nat) (p:List Stp) (o n sz:Nat):(V.sl i p o n sz).solid=true:=rfl
theorem Mz (i:Nat) (p:List Stp) (o n sz:Nat):(V.sl i p o n sz).size=1:=rfl
theorem Q5 (i:Nat) (p:List Stp) (o n sz:Nat):(V.sl i p o n sz).isAgg=false:=rfl
theorem FV (sz n:Nat) (f:Nat→V):(V.lst sz n f).solid=true:=rfl
theorem JC (sz n:Nat) (f:Nat→V):(V.lst sz n f).size=1:=rfl
theorem MP (sz n:Nat) (f:Nat→V):(V.lst sz n f).isAgg=false:=rfl
theorem Fa:V.nilm.solid=true:=rfl
theorem HR:V.nilm.size=1:=rfl
theorem J3:V.nilm.isAgg=false:=rfl
theorem FY (i:Nat):(V.map i).solid=true:=rfl
theorem JD (i:Nat):(V.map i).size=1:=rfl
theorem My (i:Nat):(V.map i).isAgg=false:=rfl
theorem EK:V.nilf.solid=true:=rfl
theorem HV:V.nilf.size=1:=rfl
theorem Kt:V.nilf.isAgg=false:=rfl
theorem GY (f:Nat) (c:V):(V.fn f c).solid=true:=rfl
theorem MJ (f:Nat) (c:V):(V.fn f c).size=1:=rfl
theorem Qo (f:Nat) (c:V):(V.fn f c).isAgg=false:=rfl
theorem EL:V.nili.solid=true:=rfl
theorem Ic:V.nili.size=1:=rfl
theorem KB:V.nili.isAgg=false:=rfl
theorem FM (t:Nat) (v:V):(V.ifc t v).solid=true:=rfl
theorem KC (t:Nat) (v:V):(V.ifc t v).size=1:=rfl
theorem M8 (t:Nat) (v:V):(V.ifc t v).isAgg=false:=rfl
theorem Ho (n:Nat) (fs:V):(V.st n fs).solid=true:=rfl
theorem MB (n:Nat) (fs:V):(V.st n fs).size=n:=rfl
theorem Qa (n:Nat) (fs:V):(V.st n fs).isAgg=true:=rfl
theorem H4 (sz n:Nat) (f:Nat→V):(V.ar sz n f).solid=true:=rfl
theorem Nn (sz n:Nat) (f:Nat→V):(V.ar sz n f).size=n * sz:=rfl
theorem Qt (sz n:Nat) (f:Nat→V):(V.ar sz n f).isAgg=true:=rfl
theorem Ec (n:Int):IntKind.u64.wrap n=n % 18446744073709551616:=ZI
theorem JL (n:Int):IntKind.u8.wrap n=n % 256:=ZI
theorem FI {n:Int} (h:0≤n∧n < 18446744073709551616):IntKind.u64.wrap n=n:=by
 rw [Ec];omega
theorem X4 (n:Int):IntKind.i64.wrap n=if n % 18446744073709551616 ≥ 9223372036854775808 then n % 18446744073709551616 - 18446744073709551616 else n % 18446744073709551616:=ZI
theorem B3 {n:Int} (h:-9223372036854775808≤n∧n < 9223372036854775808):IntKind.i64.wrap n=n:=by
 rw [X4];split <;> omega
theorem Ss {p:Prop} [Decidable p] (k:IntKind) (a b:Int):(if p then V.int k a else V.int k b)=V.int k (if p then a else b):=by split <;> rfl
theorem Om {p:Prop} [Decidable p] (a b:Bool):(if p then V.bool a else V.bool b)=V.bool (if p then a else b):=by split <;> rfl
theorem Ao.at {M:Seat} {c:Ctx} {A:List V} {H:Hp} {N:Nat} (m z:List Nat) {k:Nat} (hck:c.k=k) {A':List V} {H':Hp} {N':Nat} (hm:(decide m.Nodup && z.all (fun i=>!m.contains i) && decide (m.length≤N') && decide (k≤N') && (List.range k).all (fun j=>m[j]? == some j))=true)
 (hA:AY H m z A' A) (hH:B8 H m z H'):Ao M c A H N A' H' N':=by
 simp only [YH,decide_eq_true_eq,List.all_eq_true,List.mem_range,beq_iff_eq,List.contains_eq_mem,decide_eq_false_iff_not] at hm
 obtain ⟨⟨⟨⟨h1,h2⟩,h3⟩,h4⟩,h5⟩:=hm
 exact Ao.sim m z h1 h2 h3 Aa (fun j hj=>h5 j Aa) hA hH
abbrev A0 (l:LO):LOp:=⟨none,.lo l,none⟩
abbrev A1 (d:Nat) (l:LO):LOp:=⟨some d,.lo l,none⟩
abbrev A2 (d t:Nat) (b:Bool) (l:LO):LOp:=⟨some d,.lo l,some (t,b)⟩
abbrev mt (d s:Nat):LOp:=⟨some d,.lo (.mv (.t s)),none⟩
abbrev mn (d:Nat):LOp:=⟨some d,.lo (.mv (.c .nili)),none⟩
abbrev cI (n:Int):X:=.c (.int .i64 n)
abbrev cU (n:Int):X:=.c (.int .u64 n)
abbrev kl (d f:Nat) (l:List X):LOp:=⟨some d,.call f l,none⟩
abbrev sr (l:List LOp) (c:LC):LC:=.seq (.reg l) c
abbrev la (d s m:Nat):LOp:=A1 d (.load true s (.t m))
abbrev lb (d s m:Nat):LOp:=A1 d (.load false s (.t m))
abbrev fa (d s m:Nat):LOp:=A1 d (.fadr s (.t m))
abbrev nc (d m:Nat):LOp:=A1 d (.nilc (.t m))
abbrev ak (d:Nat) (o:BinOp) (a b:Nat):LOp:=A1 d (.ari o (.t a) (.t b))
abbrev aI (d:Nat) (o:BinOp) (a:Nat) (n:Int):LOp:=A1 d (.ari o (.t a) (cI n))
abbrev ia (d s a b:Nat):LOp:=A1 d (.isl s (.t a) (.t b))
abbrev ib (d n s a b:Nat):LOp:=A1 d (.iarr n s (.t a) (.t b))
abbrev sb (s a b:Nat):LOp:=A0 (.store s (.t a) (.t b))
abbrev mg (d g:Nat) (b:Bool) (m:Nat):LOp:=A2 d g b (.mv (.t m))
abbrev ee (d m k:Nat):LOp:=A1 d (.ext (.t m) k)
abbrev aJ (d:Nat) (o:BinOp) (n:Int) (b:Nat):LOp:=A1 d (.ari o (cI n) (.t b))
abbrev Eh (d:Nat) (o:IntKind) (b:Nat):LOp:=A1 d (.conv o (.t b))
abbrev Ew (m e:Nat):LC:=.cond (.t m) (.skip) (.exit e)
abbrev mI (d:Nat) (n:Int):LOp:=A1 d (.mv (cI n))
abbrev mU (d:Nat) (n:Int):LOp:=A1 d (.mv (cU n))
abbrev aB (d n:Nat):LOp:=A1 d (.alloc (.ar n (.int .u8)))
abbrev bX (d m:Nat):LOp:=A1 d (.box (.t m))
abbrev Di (d m n:Nat):LOp:=A1 d (.pick (.t m) (.c (.bool true)) (.t n))
abbrev HX (d m n:Nat):LOp:=A1 d (.pick (.t m) (.t n) (.c (.bool false)))
abbrev iI (d n s a:Nat) (i:Int):LOp:=A1 d (.iarr n s (.t a) (cI i))
abbrev iJ (d s a:Nat) (i:Int):LOp:=A1 d (.isl s (.t a) (cI i))
abbrev aU (d:Nat) (o:BinOp) (a:Nat) (n:Int):LOp:=A1 d (.ari o (.t a) (cU n))
abbrev aV (d:Nat) (o:BinOp) (n:Int) (b:Nat):LOp:=A1 d (.ari o (cU n) (.t b))
abbrev lN (d k m:Nat):LOp:=A1 d (.len k (.t m))
abbrev aP (d s y m n:Nat):LOp:=A1 d (.app s y (.t m) (.t n))
theorem Ct (n:Nat) (a:Nat):BitVec.ofInt n (a:Int)=BitVec.ofNat n a:=by
 apply BitVec.eq_of_toNat_eq
 simp
theorem VL {a b:Nat} (ha:a < 18446744073709551616) (hb:b < 18446744073709551616):IntKind.u64.wrap (((BitVec.ofInt IntKind.u64.bits (a:Int) ||| BitVec.ofInt IntKind.u64.bits (b:Int)).toNat:Nat):Int)=((a ||| b:Nat):Int):=by
 have h:a ||| b < 2 ^ 64:=Nat.or_lt_two_pow Aa Aa
 rw [Ct,Ct,BitVec.toNat_or,BitVec.toNat_ofNat,BitVec.toNat_ofNat,Nat.mod_eq_of_lt (by simpa [IntKind.bits] using ha),Nat.mod_eq_of_lt (by simpa [IntKind.bits] using hb)]
 exact FI Aa
theorem S9 {a b:Nat} (ha:a < 18446744073709551616) (hb:b < 18446744073709551616):IntKind.u64.wrap (((BitVec.ofInt IntKind.u64.bits (a:Int) &&& BitVec.ofInt IntKind.u64.bits (b:Int)).toNat:Nat):Int)=((a &&& b:Nat):Int):=by
 have h:a &&& b < 2 ^ 64:=Nat.lt_of_le_of_lt Nat.and_le_left Aa
 rw [Ct,Ct,BitVec.toNat_and,BitVec.toNat_ofNat,BitVec.toNat_ofNat,Nat.mod_eq_of_lt (by simpa [IntKind.bits] using ha),Nat.mod_eq_of_lt (by simpa [IntKind.bits] using hb)]
 exact FI Aa
theorem Sf {a b:Nat} (ha:a < 18446744073709551616) (hb:b < 18446744073709551616):IntKind.u64.wrap (((BitVec.ofInt IntKind.u64.bits (a:Int) ^^^ BitVec.ofInt IntKind.u64.bits (b:Int)).toNat:Nat):Int)=((a ^^^ b:Nat):Int):=by
 have h:a ^^^ b < 2 ^ 64:=Nat.xor_lt_two_pow Aa Aa
 rw [Ct,Ct,BitVec.toNat_xor,BitVec.toNat_ofNat,BitVec.toNat_ofNat,Nat.mod_eq_of_lt (by simpa [IntKind.bits] using ha),Nat.mod_eq_of_lt (by simpa [IntKind.bits] using hb)]
 exact FI Aa
theorem YO {a:Nat} (ha:a < 18446744073709551616):IntKind.u64.wrap (((BitVec.ofInt IntKind.u64.bits (if IntKind.u64.signed=true then -1 else IntKind.u64.max) ^^^ BitVec.ofInt IntKind.u64.bits (a:Int)).toNat:Nat):Int)=((18446744073709551615 ^^^ a:Nat):Int):=by
 have e1:(if IntKind.u64.signed=true then (-1:Int) else IntKind.u64.max)=((18446744073709551615:Nat):Int):=BS
 rw [e1,Sf Aa ha]
theorem Aah {a k:Nat} (hk:k < 64):IntKind.u64.wrap ((a:Int) * 2 ^ min (k:Int).toNat IntKind.u64.bits)=((a <<< k % 18446744073709551616:Nat):Int):=by
 have e1:min (k:Int).toNat IntKind.u64.bits=k:=by simp only [IntKind.bits];omega
 rw [e1,Ec,Nat.shiftLeft_eq,Int.natCast_emod,Int.natCast_mul,Int.natCast_pow]
 rfl
theorem Aa0 {a k:Nat} (hk:k≤64):(a:Int).fdiv (2 ^ min (k:Int).toNat IntKind.u64.bits)=((a >>> k:Nat):Int):=by
 have e1:min (k:Int).toNat IntKind.u64.bits=k:=by simp only [IntKind.bits];omega
 rw [e1,Int.fdiv_eq_ediv_of_nonneg _ (Int.pow_nonneg Aa),Nat.shiftRight_eq_div_pow,Int.natCast_ediv,Int.natCast_pow]
 rfl
def Tq (x k:Nat):Nat:=(x <<< k % 18446744073709551616) ||| (x >>> (64 - k))
theorem ZF {x k:Nat} (hx:x < 18446744073709551616):Tq x k < 18446744073709551616:=by
 have h1:x <<< k % 18446744073709551616 < 2 ^ 64:=Nat.mod_lt _ Aa
 have h2:x >>> (64 - k) < 2 ^ 64:=by
  rw [Nat.shiftRight_eq_div_pow]
  exact Nat.lt_of_le_of_lt (Nat.div_le_self _ _) Aa
 exact Nat.or_lt_two_pow h1 h2
theorem JE (A:List V) (v:V):put A none v=A:=rfl
theorem Rv (A:List V) (d:Option Nat) (v:V):(put A d v).length=A.length:=by cases d <;> simp [put]
theorem WE {A:List V} {i:Nat} {v:V} (h:i < A.length):(put A (some i) v).getD i .junk=v:=by simp [put,List.getD,h]
theorem Afs {A:List V} {i t:Nat} {v:V} (h:i ≠ t):(put A (some i) v).getD t .junk=A.getD t .junk:=by simp [put,List.getD,List.getElem?_set_ne h]
def fr (n:Nat):List (Nat × V)→List V
 | []=>List.replicate n .junk
 | (t,v) :: r=>put (fr n r) (some t) v
theorem Cv (n:Nat):∀ l,(fr n l).length=n
 | []=>by simp [fr]
 | (t,v) :: r=>by simp [fr,Rv,Cv n r]
theorem Ib (n t:Nat):(fr n []).getD t .junk = .junk:=by
 simp only [fr,List.getD,List.getElem?_replicate]
 split <;> rfl
theorem EU {n t:Nat} {v:V} {r:List (Nat × V)} (h:t < n):(fr n ((t,v) :: r)).getD t .junk=v:=WE (by rw [Cv];exact h)
theorem K5 {n t i:Nat} {v:V} {r:List (Nat × V)} (h:i ≠ t):(fr n ((i,v) :: r)).getD t .junk=(fr n r).getD t .junk:=Afs h
theorem Qs (n t:Nat) (v:V) (r:List (Nat × V)):put (fr n r) (some t) v=fr n ((t,v) :: r):=rfl
def YG:Nat→List V→List (Nat × V)→List (Nat × V)
 | _,[],acc=>acc
 | i,u :: r,acc=>YG (i + 1) r ((i,u) :: acc)
def La0:=(aq9 (D8 @BEq.rfl.{0} @Int.cast_ofNat_Int @LK.isA.eq_1 @LK.isA.eq_2 @LK.isA.eq_3 @LK.isA.eq_4 @LK.isA.eq_5 @LK.isA.eq_6 @LK.isA.eq_7 @LK.isP.eq_1 @LK.isP.eq_2 @LK.isP.eq_3 @LK.isP.eq_4 @LK.isP.eq_5 @LK.isP.eq_6) (E6 @LK.isP.eq_7 @LK.isP.eq_8 @LK.isP.eq_9 @LK.isP.eq_10 @LK.isP.eq_11 @LK.isP.eq_12 @LK.isP.eq_13 @LK.isP.eq_14 @LK.isW.eq_1 @LK.isW.eq_2 @LK.isW.eq_3 @LK.isW.eq_4 @LK.isW.eq_5 @LK.isW.eq_6 @LK.isW.eq_7 @LK.isW.eq_8) (D8 @List.cons_append.{0} @List.filter_cons.{0} @List.filter_nil.{0} @List.length_cons.{0} @List.length_nil.{0} (@List.map_cons.{0,0}) (@List.map_nil.{0,0}) @List.nil_append.{0} @hx.eq_1 @V.fget.eq_1 @V.fget.eq_2 @V.fhas.eq_1 @V.fhas.eq_2 @V.fset.eq_1 @V.fset.eq_2) (E6 @V.get.eq_1 @V.get.eq_2 @V.get.eq_3 @V.get.eq_4 @V.get.eq_5 @V.ok.eq_1 @V.ok.eq_2 @V.ok.eq_3 @V.ok.eq_4 @V.ok.eq_5 @V.set.eq_1 @V.set.eq_2 @V.set.eq_3 @V.set.eq_4 @X.ev.eq_1 @X.ev.eq_2) (D8 @X.ev.eq_3 @X.ev.eq_4 @Z.sz.eq_1 @Z.sz.eq_2 @Z.sz.eq_3 @Z.sz.eq_4 @Z.sz.eq_5 @Z.v.eq_1 @Z.v.eq_2 @Z.v.eq_3 @Z.v.eq_4 @Z.v.eq_5 @Z.v.eq_6 @Z.v.eq_7 @Z.v.eq_8) (E6 @Z.v.eq_9 @Z.v.eq_10 @Z.v.eq_11 @Z.v.eq_12 @bs.eq_1 @cond_false.{1} @cond_true.{1} @C4.eq_1 @C4.eq_2 @C4.eq_3 @CZ.eq_1 @CZ.eq_2 @CZ.eq_3 @CZ.eq_4 @Ca.eq_1 @Ca.eq_2) (D8 @UZ.eq_1 @UZ.eq_2 @F8.eq_1 @F8.eq_2 @forall_const.{0} @forall_const.{1} @BL.eq_1 @BL.eq_2 @hget.eq_1 @hget.eq_2 @Af.eq_1 @Af.eq_2 @Cs.eq_1 @Cs.eq_2 @DE.eq_1) (E6 @DE.eq_2 @if_false.{1} @if_true.{1} @On.eq_1 @On.eq_2 @ite_false.{1} @ite_true.{1} @ne_eq.{1} @GZ.eq_1 @GZ.eq_2 @GZ.eq_3 @YG.eq_1 @YG.eq_2 @BM.eq_1 @BM.eq_2 @Dd.eq_1) (E6 @Dd.eq_2 @Dd.eq_3 @Cy.eq_1 @Cy.eq_2 @BB.eq_1 @BB.eq_2 @DY.eq_1 @DY.eq_2 @CS.eq_1 @CS.eq_2 @AG.eq_1 @AG.eq_2 @F4.eq_1 @F4.eq_2 @Gz.eq_1 @Gz.eq_2))
theorem Wj (n:Nat):∀ (us:List V) (i:Nat) (acc:List (Nat × V)) (pre:List V),pre.length=i→fr n acc=pre ++ List.replicate (n - i) .junk→i + us.length≤n→fr n (YG i us acc)=pre ++ us ++ List.replicate (n - i - us.length) .junk
 | [],i,acc,pre,_,h,_=>by simpa [YG] using h
 | u :: r, i, acc, pre, hp, h, hl => by
   simp only [List.length_cons] at hl
   have h2:fr n ((i,u) :: acc)=(pre ++ [u]) ++ List.replicate (n - (i + 1)) .junk:=by
    simp only [fr,put,h]
    have e1:n - i=(n - (i + 1)) + 1:=Aa
    rw [e1,List.replicate_succ]
    apply List.ext_getElem?
    intro k
    by_cases hk:k=i
    ·subst hk
     rw [List.getElem?_set_self (by simp [hp])]
     rw [List.getElem?_append_left (by simp [hp])]
     rw [List.getElem?_append_right Aa]
     simp [hp]
    ·rw [List.getElem?_set_ne (Ne.symm hk)]
     by_cases hk2:k < i
     ·rw [List.getElem?_append_left Aa,List.getElem?_append_left Fu,List.getElem?_append_left Aa]
     ·rw [List.getElem?_append_right Aa,List.getElem?_append_right Fu]
      have e2:k - pre.length=(k - (pre ++ [u]).length) + 1:=Fu
      rw [e2,List.getElem?_cons_succ]
   have:=Wj n r (i + 1) ((i,u) :: acc) (pre ++ [u]) (by simp [hp]) h2 Aa
   simp only [YG]
   rw [this]
   have e3:n - (i + 1) - r.length=n - i - (u :: r).length:=Fu
   rw [e3]
   simp
theorem Ue {us:List V} {n:Nat} (h:us.length≤n):GJ us n=fr n (YG 0 us []):=by
 rw [Wj n us 0 [] [] rfl (by simp [fr]) Aa]
 simp [GJ]
theorem Ab {M:Seat} {f:Nat} {lf:LF} {us:List V} {H:Hp} {k:Nat} {Q:V→Hp→Nat→Prop} (hf:Ar M f lf=true) (hn:decide (us.length≤lf.nt)=true)
 (h:∀ x:Ctx,x.k=k→Bt M x (Aq M x lf.rs Q) [.code lf.c] k (fr lf.nt (YG 0 us [])) H):Ae M f us H k Q:=by
 refine U2 hf fun x hx=>?_
 rw [Ue (of_decide_eq_true hn)]
 exact h x hx
def Lc (H:Hp) (m z:List Nat) (A:List V):List (Nat × V)→Prop
 | []=>True
 | (t,v) :: r=>Bl H m z v (A.getD t .junk)∧Lc H m z A r
def La4:=(EH (Ia @List.getElem?_cons_succ.{0} @List.getElem?_cons_zero.{0} @List.getElem?_nil.{0} @Option.some.injEq.{0} @At.eq_1 @At.eq_2 @At.eq_3 @At.eq_4 @At.eq_5 @At.eq_6 @At.eq_7 @At.eq_8 @At.eq_9) (Ia @At.eq_10 @At.eq_11 @At.eq_12 @At.eq_13 @At.eq_14 @At.eq_15 @At.eq_16 @At.eq_17 @At.eq_18 @At.eq_19 @At.eq_20 @At.eq_21 @At.eq_22) (Ia @At.eq_23 @At.eq_24 @At.eq_25 @At.eq_26 @At.eq_27 @At.eq_28 @At.eq_29 @At.eq_30 @At.eq_31 @At.eq_32 @At.eq_33 @At.eq_34 @At.eq_35) (Ia @At.eq_36 @At.eq_37 @At.eq_38 @At.eq_39 @At.eq_40 @AY.eq_1 @AY.eq_2 @AY.eq_3 @B8.eq_1 @B8.eq_2 @Lc.eq_1 @Lc.eq_2 @Lw.eq_1))
theorem No {H:Hp} {m z:List Nat}:∀ {A B:List V},A.length=B.length→(∀ t,Bl H m z (A.getD t .junk) (B.getD t .junk))→AY H m z A B
 | [],[],_,_=>trivial
 | _ :: _,_ :: _,hl,h=>⟨by simpa using h 0,No OC (fun t=>by simpa using h (t + 1))⟩
 | [],_ :: _,hl,_=>by simp at hl
 | _ :: _,[],hl,_=>by simp at hl
theorem Ju {H:Hp} {m z:List Nat} {A:List V} {n:Nat}:∀ {l:List (Nat × V)},Lc H m z A l→∀ t,t < n→Bl H m z ((fr n l).getD t .junk) (A.getD t .junk)
 | [],_,t,_=>by rw [Ib];trivial
 | (i, v) :: r, h, t, ht => by
   by_cases hit:i=t
   ·subst hit;rw [EU ht];exact h.1
   ·rw [K5 hit];exact Ju h.2 t ht
theorem Ao.fr {M:Seat} {c:Ctx} {A:List V} {H:Hp} {N n:Nat} (m z:List Nat) {k:Nat} (hck:c.k=k) {l:List (Nat × V)} {H':Hp} {N':Nat} (hlen:A.length=n)
 (hm:(decide m.Nodup && z.all (fun i=>!m.contains i) && decide (m.length≤N') && decide (k≤N') && (List.range k).all (fun j=>m[j]? == some j))=true)
 (hA:Lc H m z A l) (hH:B8 H m z H'):Ao M c A H N (Mv.fr n l) H' N':=by
 refine Ao.at m z hck hm (No (by rw [Cv,hlen]) (fun t=>?_)) hH
 by_cases ht:t < n
 ·exact Ju hA t ht
 ·have:(Mv.fr n l).getD t .junk = .junk:=by rw [List.getD_eq_getElem?_getD,List.getElem?_eq_none (by rw [Cv];omega)];rfl
  rw [this];trivial
end Mv
