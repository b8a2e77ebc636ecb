/- A part. -/
import Derived.Test.YtlfkjfonpacelaaGreatDoorEO
import Derived.Laws.Sem
set_option linter.all false
namespace Mv
open Go
variable {M:Seat}
inductive RVr where
 | tmp (t:Nat)
 | cell (a:Nat) (agg:Bool) (sz:Nat)
structure LF where
 c:LC
 np:Nat
 nf:Nat
 nt:Nat
 rs:List RVr
def DC (A:List V) (H:Hp):RVr→V
 | .tmp t=>A.getD t .junk
 | .cell a agg sz=>(Ae A H 0 (.load agg sz (.t a))).v
def Atl (A:List V) (H:Hp):RVr→Prop
 | .tmp _=>True
 | .cell a agg sz=>(match A.getD a .junk with | .ptr _ _=>True | _=>False)∧(Ae A H 0 (.load agg sz (.t a))).pre
def F3 (A:List V) (H:Hp):List RVr→Prop
 | []=>True
 | r :: rs=>Atl A H r∧F3 A H rs
def FY (A:List V) (H:Hp):List RVr→Nat→V
 | [],_=>.fnil
 | r :: rs, i => match DC A H r with
   | .junk=>FY A H rs (i + 1)
   | v=>.fcons i v (FY A H rs (i + 1))
def G5 (A:List V) (H:Hp):List RVr→Prop
 | []=>True
 | r :: rs=>(match DC A H r with | .junk=>True | v=>v.solid=true)∧G5 A H rs
def Dz (A:List V) (H:Hp) (rs:List RVr):Prop × V :=
 match rs with
 | [r]=>(Atl A H r,DC A H r)
 | rs=>(F3 A H rs∧G5 A H rs,.tup (FY A H rs 0))
def Laj:=(XK @Dz.eq_1 @Dz.eq_2 @Atl.eq_1 @Atl.eq_2 @F3.eq_1 @F3.eq_2 @DC.eq_1 @DC.eq_2)
def Abl (M:Seat):ResultVar→RVr→Bool
 | .tmp t,.tmp t'=>t == t'
 | .cell a t,.cell a' agg sz=>a == a' && EG M t == some sz && Gu M t == some agg
 | _,_=>false
def Jr (M:Seat):List ResultVar→List RVr→Bool
 | [],[]=>true
 | r :: rs,s :: ss=>Abl M r s && Jr M rs ss
 | _,_=>false
def Au (M:Seat) (f:Nat) (lf:LF):Bool :=
 match M.P.funcs[M.φ f]? with
 | some fn=>(match fn.body with | some c=>B6 M c lf.c | none=>false) && fn.ntmps == lf.nt && Jr M fn.results.toList lf.rs
 | none=>false
def FG (us:List V) (nt:Nat):List V:=us ++ List.replicate (nt - us.length) .junk
def Af4 (M:Seat) (x:Ctx) (rs:List RVr) (Q:V→Hp→Nat→Prop) (A:List V) (H:Hp) (N:Nat):Prop :=
 ∃ A' H' N',Ao M x A H N A' H' N'∧(Dz A' H' rs).1∧Q (Dz A' H' rs).2 H' N'
theorem Af4.now {x:Ctx} {rs:List RVr} {Q:V→Hp→Nat→Prop} {A:List V} {H:Hp} {N:Nat} (h:(Dz A H rs).1∧Q (Dz A H rs).2 H N):Af4 M x rs Q A H N :=
 ⟨A,H,N,Ao.refl,h⟩
def W8 (tmps:Array Value):ResultVar→Sem Value
 | .tmp t=>pure (tmps.getD t undef)
 | .cell a' t=>do loadVar t (← asAddr (tmps.getD a' undef))
theorem Xp {c:Ctx} {e:Env} {H:Hp} {A:List V} {a:Act} (hI:Inv M c e H) (hA:FR e A a.tmps) {r:ResultVar} {s:RVr} (hc:Abl M r s=true) (hp:Atl A H s) :
 ∃ v,Sem.run M.P (W8 a.tmps r) e.w = .ok v e.w∧RV e (DC A H s) v:=by
 cases r <;> cases s <;> simp only [Abl,Bool.false_eq_true] at hc
 case tmp.tmp t t' =>
  simp only [beq_iff_eq] at hc
  subst hc
  exact ⟨_,rfl,hA.val t⟩
 case cell.cell a' t a'' agg sz =>
  simp only [Bool.and_eq_true,beq_iff_eq] at hc
  obtain ⟨⟨rfl,hs⟩,ha⟩:=hc
  obtain ⟨hptr,hp⟩:=hp
  have hv:=hA.val a'
  simp only [DC]
  simp only [Ae,X.ev] at hp ⊢
  split at hptr
  case h_2=>exact hptr.elim
  rename_i id p hy
  rw [hy] at hv
  simp only [hy] at hp ⊢
  obtain ⟨⟨h1,h2,h3⟩,h4,h5,h6⟩:=hp
  obtain ⟨cells,el,hcc,hsz,hR⟩:=hI.cells h1 h2
  have hlen:(cells.toList.take (hget H id).size).length=(hget H id).size:=DI
  obtain ⟨g1,g2⟩:=Ds hR hlen h3
  rw [hlen] at g1
  have g3:R e ((hget H id).get p) ((cells.toList.drop (As p)).take sz):=by
   rw [List.drop_take,List.take_take,Nat.min_eq_left Aa,h5] at g2
   exact g2
  have hle:As p + sz≤cells.size:=Aa
  obtain ⟨k1,k2⟩:=Di (o:=As p) h4 h5 h6 hle g3
  simp only [RV,RS,V.isAgg,R,EF] at hv
  refine ⟨_,?_,k2⟩
  have:=EP hs ha hcc hle k1
  simp only [W8]
  rw [hv.2]
  simpa [Instr.loadAt,Instr.sureAddr,asAddr] using this
theorem Q9 {c:Ctx} {e:Env} {H:Hp} {A:List V} {a:Act} (hI:Inv M c e H) (hA:FR e A a.tmps):∀ (rs:List ResultVar) (ss:List RVr),Jr M rs ss=true→F3 A H ss →
 ∃ vs:List Value,Sem.run M.P (rs.mapM (W8 a.tmps)) e.w = .ok vs e.w∧vs.length=ss.length∧∀ i (h:i < ss.length),RV e (DC A H ss[i]) (vs.getD i undef)
 | [],[],_,_=>⟨[],by simp,rfl,fun i h=>by simp at h⟩
 | r :: rs, s :: ss, hc, hp => by
   simp only [Jr,Bool.and_eq_true] at hc
   simp only [F3] at hp
   obtain ⟨v,h1,h2⟩:=Xp hI hA hc.1 hp.1
   obtain ⟨vs,h3,h4,h5⟩:=Q9 hI hA rs ss hc.2 hp.2
   refine ⟨v :: vs,?_,by simp [h4],fun i hi=>?_⟩
   ·rw [List.mapM_cons,Sem.run_bind,h1]
    simp only [Result.andThen_ok]
    rw [Sem.run_bind,h3]
    rfl
   ·cases i with
    | zero=>simpa using h2
    | succ i=>simpa using h5 i (by simpa using hi)
 | [],_ :: _,hc,_=>by simp [Jr] at hc
 | _ :: _,[],hc,_=>by simp [Jr] at hc
theorem Zi {e:Env} {A:List V} {H:Hp}:∀ (ss:List RVr) (k:Nat) (xs:Array Value),G5 A H ss→(∀ i (h:i < ss.length),∃ y,xs[k + i]?=some y∧RV e (DC A H ss[i]) y)→RT e (FY A H ss k) xs
 | [],_,_,_,_=>trivial
 | s :: ss, k, xs, hp, h => by
   simp only [G5] at hp
   have A6:=Zi ss (k + 1) xs hp.2 (fun i hi=>by
    have:=h (i + 1) (by simpa using hi)
    have e1:k + (i + 1)=k + 1 + i:=Aa
    rw [e1] at this
    simpa using this)
   obtain ⟨y,h1,h2⟩:=h 0 B5
   simp only [List.getElem_cons_zero,Nat.add_zero] at h1 h2
   have h3:=hp.1
   unfold FY
   cases hv:DC A H s with
   | junk=>exact A6
   | _ =>
     rw [hv] at h2 h3
     exact ⟨⟨h3,y,h1,(AI h3).1 h2⟩,A6⟩
theorem N4 {c:Ctx} {e:Env} {H:Hp} {A:List V} {a:Act} (hI:Inv M c e H) (hA:FR e A a.tmps) {fn:Func} {ss:List RVr} (hc:Jr M fn.results.toList ss=true) (hp:(Dz A H ss).1) :
 ∃ v,(results fn a.tmps).run M.P e.w = .ok v e.w∧RV e (Dz A H ss).2 v:=by
 have hps:F3 A H ss:=by
  unfold Dz at hp
  split at hp
  ·exact ⟨hp,trivial⟩
  ·exact hp.1
 obtain ⟨vs,h1,h2,h3⟩:=Q9 hI hA _ _ hc hps
 have hres:results fn a.tmps=(do let vs ← fn.results.mapM (W8 a.tmps);pure (if h:vs.size=1 then vs[0] else .tuple vs)):=by
  unfold results
  congr 1
  try (congr 1;funext r;cases r <;> rfl)
 rw [hres,Array.mapM_eq_mapM_toList]
 simp only [map_eq_pure_bind,bind_assoc,pure_bind]
 rw [Sem.run_bind,h1]
 simp only [Result.andThen_ok,Sem.run_pure]
 refine ⟨_,rfl,?_⟩
 unfold Dz
 split
 ·rename_i s
  have hl:vs.length=1:=h2
  rw [dif_pos N8]
  have:=h3 0 B5
  simp only [List.getElem_cons_zero] at this
  have e1:vs.getD 0 undef=vs[0]'(by omega):=by simp [List.getD,hl]
  rw [e1] at this
  simpa using this
 ·rename_i hne
  have hl:vs.length ≠ 1:=by
   rw [h2]
   intro hl
   match ss,hl,hne with
   | [s],_,hne=>exact hne s rfl
  rw [dif_neg N8]
  refine ⟨_,rfl,Zi ss 0 _ ?_ (fun i hi=>?_)⟩
  ·unfold Dz at hp
   split at hp
   ·rename_i s;exact absurd rfl (hne s)
   ·exact hp.2
  ·have:=h3 i hi
   have hi':i < vs.length:=Aa
   refine ⟨vs[i],by simp [hi'],?_⟩
   simpa [List.getD,hi'] using this
theorem SL {e:Env} {us:List V} {vs:Array Value} (h:HN e us vs) (nt:Nat):FR e (FG us nt) (vs ++ Array.replicate (nt - vs.size) undef):=by
 obtain ⟨h1,h2⟩:=h
 refine ⟨by simp [FG,h1],fun t=>?_⟩
 unfold FG
 by_cases ht:t < us.length
 ·have e1:(us ++ List.replicate (nt - us.length) V.junk).getD t .junk=us.getD t .junk:=by
   simp only [List.getD,List.getElem?_append,ht,if_true]
  have e2:(vs ++ Array.replicate (nt - vs.size) undef).getD t undef=vs.getD t undef:=by
   have:t < vs.size:=Aa
   simp [Array.getElem?_append,this]
  rw [e1,e2];exact h2 t
 ·have e1:(us ++ List.replicate (nt - us.length) V.junk).getD t .junk = .junk:=by
   simp only [List.getD,List.getElem?_append,ht,if_false,List.getElem?_replicate]
   split <;> rfl
  rw [e1];trivial
def Ar (M:Seat) (x:Ctx) (rs:List RVr) (Q:V→Hp→Nat→Prop) (A:List V) (H:Hp) (N:Nat):Prop :=
 ∃ (m z:List Nat) (v:V) (H':Hp) (N':Nat),(decide m.Nodup && z.all (fun i=>!m.contains i) && decide (m.length≤N') && decide (x.k≤N') && (List.range x.k).all (fun j=>m[j]? == some j))=true ∧
  (Dz A H rs).1∧Bi H m z v (Dz A H rs).2∧Br H m z H'∧Q v H' N'
theorem Ar.mk {x:Ctx} {rs:List RVr} {Q:V→Hp→Nat→Prop} {A:List V} {H:Hp} {N:Nat} {k:Nat} (hx:x.k=k) (m z:List Nat) (v:V) (H':Hp) (N':Nat)
 (hm:(decide m.Nodup && z.all (fun i=>!m.contains i) && decide (m.length≤N') && decide (k≤N') && (List.range k).all (fun j=>m[j]? == some j))=true) (h1:(Dz A H rs).1) (h2:Bi H m z v (Dz A H rs).2) (h3:Br H m z H') (h4:Q v H' N'):Ar M x rs Q A H N :=
 ⟨m,z,v,H',N',by rw [hx];exact hm,h1,h2,h3,h4⟩
theorem R2 {f:Nat} {lf:LF} {us:List V} {H:Hp} {k:Nat} {Q:V→Hp→Nat→Prop} (hf:Au M f lf=true)
 (h:∀ x:Ctx,x.k=k→Bm M x (fun A' H' N'=>Ar M x lf.rs Q A' H' N') [.code lf.c] k (FG us lf.nt) H):Ag M f us H k Q:=by
 intro e vs hI hD hargs
 unfold Au at hf
 split at hf
 case h_2=>cases hf
 rename_i fn hfn
 simp only [Bool.and_eq_true,beq_iff_eq] at hf
 obtain ⟨⟨hb,hnt⟩,hrs⟩:=hf
 split at hb
 case h_2=>cases hb
 rename_i C hC
 refine calls_of_wp hfn hC ?_
 rw [hnt]
 have hsat:RX M ⟨e,fun b=>∃ id,Af H id=true∧e.ρ id=b,k⟩ (FG us lf.nt) H k { tmps:=vs ++ Array.replicate (lf.nt - vs.size) undef,defers:=[] } e.w :=
  ⟨e,rfl,hI,SL hargs lf.nt,hD,Nat.le_refl k,rfl⟩
 have:=h ⟨e,fun b=>∃ id,Af H id=true∧e.ρ id=b,k⟩ rfl _ _ [.code C] hsat ⟨hb,trivial⟩
 have h2:C.wp M.P (CK M ⟨e,fun b=>∃ id,Af H id=true∧e.ρ id=b,k⟩ (fun A' H' N'=>Ar M ⟨e,fun b=>∃ id,Af H id=true∧e.ρ id=b,k⟩ lf.rs Q A' H' N') []) { tmps:=vs ++ Array.replicate (lf.nt - vs.size) undef,defers:=[] } e.w:=this
 refine Code.wp_mono (fun ex a w hx=>?_) h2
 have key:(∃ A H' N,RX M ⟨e,fun b=>∃ id,Af H id=true∧e.ρ id=b,k⟩ A H' N a w∧Ar M ⟨e,fun b=>∃ id,Af H id=true∧e.ρ id=b,k⟩ lf.rs Q A H' N) →
  a.defers=[]∧∃ v,(results fn a.tmps).run M.P w = .ok v w∧∃ x v' e' H' k',(Ending.returned v:Ending) = .returned x∧e'.w=w∧Inv M ⟨e,fun b=>∃ id,Af H id=true∧e.ρ id=b,k⟩ e' H'∧RV e' v' x∧(∀ id,k'≤id→¬ e'.D id)∧k≤k'∧Q v' H' k':=by
  rintro ⟨A,H1,N,hs,m,z,v',H',N',hm,hpre,hv',hH',hq⟩
  simp only [Ww,decide_eq_true_eq,List.all_eq_true,List.mem_range,beq_iff_eq,List.contains_eq_mem,decide_eq_false_iff_not] at hm
  obtain ⟨⟨⟨⟨m1,m2⟩,m3⟩,m4⟩,m5⟩:=hm
  obtain ⟨e',rfl,hI',hF',hD',hk',hdef⟩:=hs
  obtain ⟨v,hv,hRV⟩:=N4 hI' hF' hrs hpre
  refine ⟨hdef,v,hv,v,v',e'.sim H1 m z,H',N',rfl,rfl,hI'.sim m1 m2 hH' (.inl ⟨rfl,m5⟩),Lh (Pull.of hI' m z) hv' hRV,?_,m4,hq⟩
  rintro id hid ⟨i,h1,_⟩
  have:=(List.getElem?_eq_some_iff.1 h1).1
  omega
 cases ex <;> try (exact hx.elim)
 ·exact key hx
 ·exact key hx
theorem Fw (k:IntKind) (n:Int):(V.int k n).solid=true:=rfl
theorem JZ (k:IntKind) (n:Int):(V.int k n).size=1:=rfl
theorem Lt (k:IntKind) (n:Int):(V.int k n).isAgg=false:=rfl
theorem DZ (b:Bool):(V.bool b).solid=true:=rfl
theorem GV (b:Bool):(V.bool b).size=1:=rfl
theorem JD (b:Bool):(V.bool b).isAgg=false:=rfl
theorem Fv (s:ByteArray):(V.str s).solid=true:=rfl
theorem IY (s:ByteArray):(V.str s).size=1:=rfl
theorem L6 (s:ByteArray):(V.str s).isAgg=false:=rfl
theorem E4:V.nilp.solid=true:=rfl
theorem Hh:V.nilp.size=1:=rfl
theorem Je:V.nilp.isAgg=false:=rfl
theorem Fl (i:Nat) (p:List Stp):(V.ptr i p).solid=true:=rfl
theorem JR (i:Nat) (p:List Stp):(V.ptr i p).size=1:=rfl
theorem Mi (i:Nat) (p:List Stp):(V.ptr i p).isAgg=false:=rfl
theorem Ff (v:V):(V.imm v).solid=true:=rfl
theorem IJ (v:V):(V.imm v).size=1:=rfl
theorem Md (v:V):(V.imm v).isAgg=false:=rfl
theorem Em:V.nils.solid=true:=rfl
theorem GW:V.nils.size=1:=rfl
theorem IA:V.nils.isAgg=false:=rfl
theorem G8 (i:Nat) (p:List Stp) (o n sz:Nat):(V.sl i p o n sz).solid=true:=rfl
theorem Lk (i:Nat) (p:List Stp) (o n sz:Nat):(V.sl i p o n sz).size=1:=rfl
theorem O7 (i:Nat) (p:List Stp) (o n sz:Nat):(V.sl i p o n sz).isAgg=false:=rfl
theorem Fr (sz n:Nat) (f:Nat→V):(V.lst sz n f).solid=true:=rfl
theorem Iz (sz n:Nat) (f:Nat→V):(V.lst sz n f).size=1:=rfl
theorem Ly (sz n:Nat) (f:Nat→V):(V.lst sz n f).isAgg=false:=rfl
theorem Ea:V.nilm.solid=true:=rfl
theorem GT:V.nilm.size=1:=rfl
theorem I6:V.nilm.isAgg=false:=rfl
theorem Fy (i:Nat):(V.map i).solid=true:=rfl
theorem IZ (i:Nat):(V.map i).size=1:=rfl
theorem L7 (i:Nat):(V.map i).isAgg=false:=rfl
theorem E2:V.nilf.solid=true:=rfl
theorem Hf:V.nilf.size=1:=rfl
theorem Iv:V.nilf.isAgg=false:=rfl
theorem GB (f:Nat) (c:V):(V.fn f c).solid=true:=rfl
theorem Ma (f:Nat) (c:V):(V.fn f c).size=1:=rfl
theorem OT (f:Nat) (c:V):(V.fn f c).isAgg=false:=rfl
theorem Eg:V.nili.solid=true:=rfl
theorem Hi:V.nili.size=1:=rfl
theorem Jp:V.nili.isAgg=false:=rfl
theorem Fx (t:Nat) (v:V):(V.ifc t v).solid=true:=rfl
theorem J1 (t:Nat) (v:V):(V.ifc t v).size=1:=rfl
theorem LL (t:Nat) (v:V):(V.ifc t v).isAgg=false:=rfl
theorem Gt (n:Nat) (fs:V):(V.st n fs).solid=true:=rfl
theorem M0 (n:Nat) (fs:V):(V.st n fs).size=n:=rfl
theorem O6 (n:Nat) (fs:V):(V.st n fs).isAgg=true:=rfl
theorem Gg (sz n:Nat) (f:Nat→V):(V.ar sz n f).solid=true:=rfl
theorem Lo (sz n:Nat) (f:Nat→V):(V.ar sz n f).size=n * sz:=rfl
theorem P3 (sz n:Nat) (f:Nat→V):(V.ar sz n f).isAgg=true:=rfl
theorem Dx (n:Int):IntKind.u64.wrap n=n % 18446744073709551616:=Tk
theorem JX (n:Int):IntKind.u8.wrap n=n % 256:=Tk
theorem EX {n:Int} (h:0≤n∧n < 18446744073709551616):IntKind.u64.wrap n=n:=by
 rw [Dx];omega
theorem Ub (n:Int):IntKind.i64.wrap n=if n % 18446744073709551616 ≥ 9223372036854775808 then n % 18446744073709551616 - 18446744073709551616 else n % 18446744073709551616:=Tk
theorem AY {n:Int} (h:-9223372036854775808≤n∧n < 9223372036854775808):IntKind.i64.wrap n=n:=by
 rw [Ub];split <;> omega
theorem Q6 {p:Prop} [Decidable p] (k:IntKind) (a b:Int):(if p then V.int k a else V.int k b)=V.int k (if p then a else b):=by split <;> rfl
theorem NL {p:Prop} [Decidable p] (a b:Bool):(if p then V.bool a else V.bool b)=V.bool (if p then a else b):=by split <;> rfl
theorem Ao.at {M:Seat} {c:Ctx} {A:List V} {H:Hp} {N:Nat} (m z:List Nat) {k:Nat} (hck:c.k=k) {A':List V} {H':Hp} {N':Nat} (hm:(decide m.Nodup && z.all (fun i=>!m.contains i) && decide (m.length≤N') && decide (k≤N') && (List.range k).all (fun j=>m[j]? == some j))=true)
 (hA:Bd H m z A' A) (hH:Br H m z H'):Ao M c A H N A' H' N':=by
 simp only [Ww,decide_eq_true_eq,List.all_eq_true,List.mem_range,beq_iff_eq,List.contains_eq_mem,decide_eq_false_iff_not] at hm
 obtain ⟨⟨⟨⟨h1,h2⟩,h3⟩,h4⟩,h5⟩:=hm
 exact Ao.sim m z h1 h2 h3 Aa (fun j hj=>h5 j Aa) hA hH
abbrev A0 (l:LO):LOp:=⟨none,.lo l,none⟩
abbrev A1 (d:Nat) (l:LO):LOp:=⟨some d,.lo l,none⟩
abbrev A2 (d t:Nat) (b:Bool) (l:LO):LOp:=⟨some d,.lo l,some (t,b)⟩
abbrev mt (d s:Nat):LOp:=⟨some d,.lo (.mv (.t s)),none⟩
abbrev mn (d:Nat):LOp:=⟨some d,.lo (.mv (.c .nili)),none⟩
abbrev cI (n:Int):X:=.c (.int .i64 n)
abbrev cU (n:Int):X:=.c (.int .u64 n)
abbrev kl (d f:Nat) (l:List X):LOp:=⟨some d,.call f l,none⟩
abbrev sr (l:List LOp) (c:LC):LC:=.seq (.reg l) c
abbrev la (d s m:Nat):LOp:=A1 d (.load true s (.t m))
abbrev lb (d s m:Nat):LOp:=A1 d (.load false s (.t m))
abbrev fa (d s m:Nat):LOp:=A1 d (.fadr s (.t m))
abbrev nc (d m:Nat):LOp:=A1 d (.nilc (.t m))
abbrev ak (d:Nat) (o:BinOp) (a b:Nat):LOp:=A1 d (.ari o (.t a) (.t b))
abbrev aI (d:Nat) (o:BinOp) (a:Nat) (n:Int):LOp:=A1 d (.ari o (.t a) (cI n))
abbrev ia (d s a b:Nat):LOp:=A1 d (.isl s (.t a) (.t b))
abbrev ib (d n s a b:Nat):LOp:=A1 d (.iarr n s (.t a) (.t b))
abbrev sb (s a b:Nat):LOp:=A0 (.store s (.t a) (.t b))
abbrev mg (d g:Nat) (b:Bool) (m:Nat):LOp:=A2 d g b (.mv (.t m))
abbrev ee (d m k:Nat):LOp:=A1 d (.ext (.t m) k)
abbrev aJ (d:Nat) (o:BinOp) (n:Int) (b:Nat):LOp:=A1 d (.ari o (cI n) (.t b))
abbrev D0 (d:Nat) (o:IntKind) (b:Nat):LOp:=A1 d (.conv o (.t b))
abbrev Dd (m e:Nat):LC:=.cond (.t m) (.skip) (.exit e)
abbrev mI (d:Nat) (n:Int):LOp:=A1 d (.mv (cI n))
abbrev mU (d:Nat) (n:Int):LOp:=A1 d (.mv (cU n))
abbrev aB (d n:Nat):LOp:=A1 d (.alloc (.ar n (.int .u8)))
abbrev bX (d m:Nat):LOp:=A1 d (.box (.t m))
abbrev BV (d m n:Nat):LOp:=A1 d (.pick (.t m) (.c (.bool true)) (.t n))
abbrev Fq (d m n:Nat):LOp:=A1 d (.pick (.t m) (.t n) (.c (.bool false)))
abbrev iI (d n s a:Nat) (i:Int):LOp:=A1 d (.iarr n s (.t a) (cI i))
abbrev iJ (d s a:Nat) (i:Int):LOp:=A1 d (.isl s (.t a) (cI i))
abbrev aU (d:Nat) (o:BinOp) (a:Nat) (n:Int):LOp:=A1 d (.ari o (.t a) (cU n))
abbrev aV (d:Nat) (o:BinOp) (n:Int) (b:Nat):LOp:=A1 d (.ari o (cU n) (.t b))
abbrev lN (d k m:Nat):LOp:=A1 d (.len k (.t m))
abbrev aP (d s y m n:Nat):LOp:=A1 d (.app s y (.t m) (.t n))
theorem BN (n:Nat) (a:Nat):BitVec.ofInt n (a:Int)=BitVec.ofNat n a:=by
 apply BitVec.eq_of_toNat_eq
 simp
theorem U2 {a b:Nat} (ha:a < 18446744073709551616) (hb:b < 18446744073709551616):IntKind.u64.wrap (((BitVec.ofInt IntKind.u64.bits (a:Int) ||| BitVec.ofInt IntKind.u64.bits (b:Int)).toNat:Nat):Int)=((a ||| b:Nat):Int):=by
 have h:a ||| b < 2 ^ 64:=Nat.or_lt_two_pow Aa Aa
 rw [BN,BN,BitVec.toNat_or,BitVec.toNat_ofNat,BitVec.toNat_ofNat,Nat.mod_eq_of_lt (by simpa [IntKind.bits] using ha),Nat.mod_eq_of_lt (by simpa [IntKind.bits] using hb)]
 exact EX Aa
theorem QV {a b:Nat} (ha:a < 18446744073709551616) (hb:b < 18446744073709551616):IntKind.u64.wrap (((BitVec.ofInt IntKind.u64.bits (a:Int) &&& BitVec.ofInt IntKind.u64.bits (b:Int)).toNat:Nat):Int)=((a &&& b:Nat):Int):=by
 have h:a &&& b < 2 ^ 64:=Nat.lt_of_le_of_lt Nat.and_le_left Aa
 rw [BN,BN,BitVec.toNat_and,BitVec.toNat_ofNat,BitVec.toNat_ofNat,Nat.mod_eq_of_lt (by simpa [IntKind.bits] using ha),Nat.mod_eq_of_lt (by simpa [IntKind.bits] using hb)]
 exact EX Aa
theorem QO {a b:Nat} (ha:a < 18446744073709551616) (hb:b < 18446744073709551616):IntKind.u64.wrap (((BitVec.ofInt IntKind.u64.bits (a:Int) ^^^ BitVec.ofInt IntKind.u64.bits (b:Int)).toNat:Nat):Int)=((a ^^^ b:Nat):Int):=by
 have h:a ^^^ b < 2 ^ 64:=Nat.xor_lt_two_pow Aa Aa
 rw [BN,BN,BitVec.toNat_xor,BitVec.toNat_ofNat,BitVec.toNat_ofNat,Nat.mod_eq_of_lt (by simpa [IntKind.bits] using ha),Nat.mod_eq_of_lt (by simpa [IntKind.bits] using hb)]
 exact EX Aa
theorem Yo {a:Nat} (ha:a < 18446744073709551616):IntKind.u64.wrap (((BitVec.ofInt IntKind.u64.bits (if IntKind.u64.signed=true then -1 else IntKind.u64.max) ^^^ BitVec.ofInt IntKind.u64.bits (a:Int)).toNat:Nat):Int)=((18446744073709551615 ^^^ a:Nat):Int):=by
 have e1:(if IntKind.u64.signed=true then (-1:Int) else IntKind.u64.max)=((18446744073709551615:Nat):Int):=B4
 rw [e1,QO Aa ha]
theorem WL {a k:Nat} (hk:k < 64):IntKind.u64.wrap ((a:Int) * 2 ^ min (k:Int).toNat IntKind.u64.bits)=((a <<< k % 18446744073709551616:Nat):Int):=by
 have e1:min (k:Int).toNat IntKind.u64.bits=k:=by simp only [IntKind.bits];omega
 rw [e1,Dx,Nat.shiftLeft_eq,Int.natCast_emod,Int.natCast_mul,Int.natCast_pow]
 rfl
theorem Y9 {a k:Nat} (hk:k≤64):(a:Int).fdiv (2 ^ min (k:Int).toNat IntKind.u64.bits)=((a >>> k:Nat):Int):=by
 have e1:min (k:Int).toNat IntKind.u64.bits=k:=by simp only [IntKind.bits];omega
 rw [e1,Int.fdiv_eq_ediv_of_nonneg _ (Int.pow_nonneg Aa),Nat.shiftRight_eq_div_pow,Int.natCast_ediv,Int.natCast_pow]
 rfl
def Rz (x k:Nat):Nat:=(x <<< k % 18446744073709551616) ||| (x >>> (64 - k))
theorem Xt {x k:Nat} (hx:x < 18446744073709551616):Rz x k < 18446744073709551616:=by
 have h1:x <<< k % 18446744073709551616 < 2 ^ 64:=Nat.mod_lt _ Aa
 have h2:x >>> (64 - k) < 2 ^ 64:=by
  rw [Nat.shiftRight_eq_div_pow]
  exact Nat.lt_of_le_of_lt (Nat.div_le_self _ _) Aa
 exact Nat.or_lt_two_pow h1 h2
theorem JA (A:List V) (v:V):put A none v=A:=rfl
theorem PN (A:List V) (d:Option Nat) (v:V):(put A d v).length=A.length:=by cases d <;> simp [put]
theorem U6 {A:List V} {i:Nat} {v:V} (h:i < A.length):(put A (some i) v).getD i .junk=v:=by simp [put,List.getD,h]
theorem Aa0 {A:List V} {i t:Nat} {v:V} (h:i ≠ t):(put A (some i) v).getD t .junk=A.getD t .junk:=by simp [put,List.getD,List.getElem?_set_ne h]
def fr (n:Nat):List (Nat × V)→List V
 | []=>List.replicate n .junk
 | (t,v) :: r=>put (fr n r) (some t) v
theorem BL (n:Nat):∀ l,(fr n l).length=n
 | []=>by simp [fr]
 | (t,v) :: r=>by simp [fr,PN,BL n r]
theorem Hr (n t:Nat):(fr n []).getD t .junk = .junk:=by
 simp only [fr,List.getD,List.getElem?_replicate]
 split <;> rfl
theorem Ed {n t:Nat} {v:V} {r:List (Nat × V)} (h:t < n):(fr n ((t,v) :: r)).getD t .junk=v:=U6 (by rw [BL];exact h)
theorem JE {n t i:Nat} {v:V} {r:List (Nat × V)} (h:i ≠ t):(fr n ((i,v) :: r)).getD t .junk=(fr n r).getD t .junk:=Aa0 h
theorem PT (n t:Nat) (v:V) (r:List (Nat × V)):put (fr n r) (some t) v=fr n ((t,v) :: r):=rfl
def Wu:Nat→List V→List (Nat × V)→List (Nat × V)
 | _,[],acc=>acc
 | i,u :: r,acc=>Wu (i + 1) r ((i,u) :: acc)
def La0:=(SN (CA @BEq.rfl.{0} @Int.cast_ofNat_Int @LK.isA.eq_1 @LK.isA.eq_2 @LK.isA.eq_3 @LK.isA.eq_4 @LK.isA.eq_5 @LK.isA.eq_6 @LK.isA.eq_7 @LK.isP.eq_1 @LK.isP.eq_2 @LK.isP.eq_3 @LK.isP.eq_4 @LK.isP.eq_5 @LK.isP.eq_6) (CA @LK.isP.eq_7 @LK.isP.eq_8 @LK.isP.eq_9 @LK.isP.eq_10 @LK.isP.eq_11 @LK.isW.eq_1 @LK.isW.eq_2 @LK.isW.eq_3 @LK.isW.eq_4 @LK.isW.eq_5 @LK.isW.eq_6 @LK.isW.eq_7 @List.cons_append.{0} @List.filter_cons.{0} @List.filter_nil.{0}) (CA @List.length_cons.{0} @List.length_nil.{0} (@List.map_cons.{0,0}) (@List.map_nil.{0,0}) @List.nil_append.{0} @hx.eq_1 @V.fget.eq_1 @V.fget.eq_2 @V.fhas.eq_1 @V.fhas.eq_2 @V.fset.eq_1 @V.fset.eq_2 @V.get.eq_1 @V.get.eq_2 @V.get.eq_3) (CA @V.get.eq_4 @V.get.eq_5 @V.ok.eq_1 @V.ok.eq_2 @V.ok.eq_3 @V.ok.eq_4 @V.ok.eq_5 @V.set.eq_1 @V.set.eq_2 @V.set.eq_3 @V.set.eq_4 @X.ev.eq_1 @X.ev.eq_2 @X.ev.eq_3 @X.ev.eq_4) (CA @Z.sz.eq_1 @Z.sz.eq_2 @Z.sz.eq_3 @Z.sz.eq_4 @Z.sz.eq_5 @Z.v.eq_1 @Z.v.eq_2 @Z.v.eq_3 @Z.v.eq_4 @Z.v.eq_5 @Z.v.eq_6 @Z.v.eq_7 @Z.v.eq_8 @Z.v.eq_9 @Z.v.eq_10) (CA @Z.v.eq_11 @Z.v.eq_12 @bs.eq_1 @cond_false.{1} @cond_true.{1} @BQ.eq_1 @BQ.eq_2 @BQ.eq_3 @Cv.eq_1 @Cv.eq_2 @Cv.eq_3 @Cv.eq_4 @B8.eq_1 @B8.eq_2 @SV.eq_1) (CA @SV.eq_2 @ET.eq_1 @ET.eq_2 @forall_const.{0} @forall_const.{1} @BS.eq_1 @BS.eq_2 @hget.eq_1 @hget.eq_2 @Af.eq_1 @Af.eq_2 @BU.eq_1 @BU.eq_2 @CX.eq_1 @CX.eq_2) (CA @if_false.{1} @if_true.{1} @Nj.eq_1 @Nj.eq_2 @ite_false.{1} @ite_true.{1} @ne_eq.{1} @Gx.eq_1 @Gx.eq_2 @Gx.eq_3 @Wu.eq_1 @Wu.eq_2 @B1.eq_1 @B1.eq_2 @LQ.eq_1) (Hq @LQ.eq_2 @LQ.eq_3 @BP.eq_1 @BP.eq_2 @Bv.eq_1 @Bv.eq_2 @Dl.eq_1 @Dl.eq_2 @Cp.eq_1 @Cp.eq_2 @A8.eq_1 @A8.eq_2 @EV.eq_1 @EV.eq_2 @F5.eq_1 @F5.eq_2))
theorem Tj (n:Nat):∀ (us:List V) (i:Nat) (acc:List (Nat × V)) (pre:List V),pre.length=i→fr n acc=pre ++ List.replicate (n - i) .junk→i + us.length≤n→fr n (Wu i us acc)=pre ++ us ++ List.replicate (n - i - us.length) .junk
 | [],i,acc,pre,_,h,_=>by simpa [Wu] using h
 | u :: r, i, acc, pre, hp, h, hl => by
   simp only [List.length_cons] at hl
   have h2:fr n ((i,u) :: acc)=(pre ++ [u]) ++ List.replicate (n - (i + 1)) .junk:=by
    simp only [fr,put,h]
    have e1:n - i=(n - (i + 1)) + 1:=Aa
    rw [e1,List.replicate_succ]
    apply List.ext_getElem?
    intro k
    by_cases hk:k=i
    ·subst hk
     rw [List.getElem?_set_self (by simp [hp])]
     rw [List.getElem?_append_left (by simp [hp])]
     rw [List.getElem?_append_right Aa]
     simp [hp]
    ·rw [List.getElem?_set_ne (Ne.symm hk)]
     by_cases hk2:k < i
     ·rw [List.getElem?_append_left Aa,List.getElem?_append_left DI,List.getElem?_append_left Aa]
     ·rw [List.getElem?_append_right Aa,List.getElem?_append_right DI]
      have e2:k - pre.length=(k - (pre ++ [u]).length) + 1:=DI
      rw [e2,List.getElem?_cons_succ]
   have:=Tj n r (i + 1) ((i,u) :: acc) (pre ++ [u]) (by simp [hp]) h2 Aa
   simp only [Wu]
   rw [this]
   have e3:n - (i + 1) - r.length=n - i - (u :: r).length:=DI
   rw [e3]
   simp
theorem Sy {us:List V} {n:Nat} (h:us.length≤n):FG us n=fr n (Wu 0 us []):=by
 rw [Tj n us 0 [] [] rfl (by simp [fr]) Aa]
 simp [FG]
theorem Ab {M:Seat} {f:Nat} {lf:LF} {us:List V} {H:Hp} {k:Nat} {Q:V→Hp→Nat→Prop} (hf:Au M f lf=true) (hn:decide (us.length≤lf.nt)=true)
 (h:∀ x:Ctx,x.k=k→Bm M x (Ar M x lf.rs Q) [.code lf.c] k (fr lf.nt (Wu 0 us [])) H):Ag M f us H k Q:=by
 refine R2 hf fun x hx=>?_
 rw [Sy (of_decide_eq_true hn)]
 exact h x hx
def Kj (H:Hp) (m z:List Nat) (A:List V):List (Nat × V)→Prop
 | []=>True
 | (t,v) :: r=>Bi H m z v (A.getD t .junk)∧Kj H m z A r
def La4:=(Ka (FU @List.getElem?_cons_succ.{0} @List.getElem?_cons_zero.{0} @List.getElem?_nil.{0} @Option.some.injEq.{0} @Az.eq_1 @Az.eq_2 @Az.eq_3 @Az.eq_4 @Az.eq_5 @Az.eq_6 @Az.eq_7 @Az.eq_8) (FU @Az.eq_9 @Az.eq_10 @Az.eq_11 @Az.eq_12 @Az.eq_13 @Az.eq_14 @Az.eq_15 @Az.eq_16 @Az.eq_17 @Az.eq_18 @Az.eq_19 @Az.eq_20) (FU @Az.eq_21 @Az.eq_22 @Az.eq_23 @Az.eq_24 @Az.eq_25 @Az.eq_26 @Az.eq_27 @Az.eq_28 @Az.eq_29 @Az.eq_30 @Az.eq_31 @Az.eq_32) (Am2 @Az.eq_33 @Az.eq_34 @Az.eq_35 @Az.eq_36 @Az.eq_37 @Bd.eq_1 @Bd.eq_2 @Bd.eq_3 @Br.eq_1 @Br.eq_2 @Kj.eq_1 @Kj.eq_2 @Sj.eq_1))
theorem Mg {H:Hp} {m z:List Nat}:∀ {A B:List V},A.length=B.length→(∀ t,Bi H m z (A.getD t .junk) (B.getD t .junk))→Bd H m z A B
 | [],[],_,_=>trivial
 | _ :: _,_ :: _,hl,h=>⟨by simpa using h 0,Mg N8 (fun t=>by simpa using h (t + 1))⟩
 | [],_ :: _,hl,_=>by simp at hl
 | _ :: _,[],hl,_=>by simp at hl
theorem Js {H:Hp} {m z:List Nat} {A:List V} {n:Nat}:∀ {l:List (Nat × V)},Kj H m z A l→∀ t,t < n→Bi H m z ((fr n l).getD t .junk) (A.getD t .junk)
 | [],_,t,_=>by rw [Hr];trivial
 | (i, v) :: r, h, t, ht => by
   by_cases hit:i=t
   ·subst hit;rw [Ed ht];exact h.1
   ·rw [JE hit];exact Js h.2 t ht
theorem Ao.fr {M:Seat} {c:Ctx} {A:List V} {H:Hp} {N n:Nat} (m z:List Nat) {k:Nat} (hck:c.k=k) {l:List (Nat × V)} {H':Hp} {N':Nat} (hlen:A.length=n)
 (hm:(decide m.Nodup && z.all (fun i=>!m.contains i) && decide (m.length≤N') && decide (k≤N') && (List.range k).all (fun j=>m[j]? == some j))=true)
 (hA:Kj H m z A l) (hH:Br H m z H'):Ao M c A H N (Mv.fr n l) H' N':=by
 refine Ao.at m z hck hm (Mg (by rw [BL,hlen]) (fun t=>?_)) hH
 by_cases ht:t < n
 ·exact Js hA t ht
 ·have:(Mv.fr n l).getD t .junk = .junk:=by rw [List.getD_eq_getElem?_getD,List.getElem?_eq_none (by rw [BL];omega)];rfl
  rw [this];trivial
end Mv
