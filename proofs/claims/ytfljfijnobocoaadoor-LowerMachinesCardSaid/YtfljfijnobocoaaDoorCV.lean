/- A part. -/
import Derived.Test.YtfljfijnobocoaaDoorCU
import Derived.Laws.Sem
set_option linter.all false
namespace Mv
open Go
variable {M:Seat}
inductive RVr where
 | tmp (t:Nat)
 | cell (a:Nat) (agg:Bool) (sz:Nat)
structure LF where
 c:LC
 np:Nat
 nf:Nat
 nt:Nat
 rs:List RVr
def DC (A:List V) (H:Hp):RVr→V
 | .tmp t=>A.getD t .junk
 | .cell a agg sz=>(Ae A H 0 (.load agg sz (.t a))).v
def G1 (A:List V) (H:Hp):RVr→Prop
 | .tmp _=>True
 | .cell a agg sz=>(match A.getD a .junk with | .ptr _ _=>True | _=>False)∧(Ae A H 0 (.load agg sz (.t a))).pre
def F3 (A:List V) (H:Hp):List RVr→Prop
 | []=>True
 | r :: rs=>G1 A H r∧F3 A H rs
def FY (A:List V) (H:Hp):List RVr→Nat→V
 | [],_=>.fnil
 | r :: rs, i => match DC A H r with
   | .junk=>FY A H rs (i + 1)
   | v=>.fcons i v (FY A H rs (i + 1))
def G5 (A:List V) (H:Hp):List RVr→Prop
 | []=>True
 | r :: rs=>(match DC A H r with | .junk=>True | v=>v.solid=true)∧G5 A H rs
def Dz (A:List V) (H:Hp) (rs:List RVr):Prop × V :=
 match rs with
 | [r]=>(G1 A H r,DC A H r)
 | rs=>(F3 A H rs∧G5 A H rs,.tup (FY A H rs 0))
def Laj:=(XK @Dz.eq_1 @Dz.eq_2 @G1.eq_1 @G1.eq_2 @F3.eq_1 @F3.eq_2 @DC.eq_1 @DC.eq_2)
def Abl (M:Seat):ResultVar→RVr→Bool
 | .tmp t,.tmp t'=>t == t'
 | .cell a t,.cell a' agg sz=>a == a' && EG M t == some sz && Gu M t == some agg
 | _,_=>false
def Jr (M:Seat):List ResultVar→List RVr→Bool
 | [],[]=>true
 | r :: rs,s :: ss=>Abl M r s && Jr M rs ss
 | _,_=>false
def Au (M:Seat) (f:Nat) (lf:LF):Bool :=
 match M.P.funcs[M.φ f]? with
 | some fn=>(match fn.body with | some c=>B6 M c lf.c | none=>false) && fn.ntmps == lf.nt && Jr M fn.results.toList lf.rs
 | none=>false
def FG (us:List V) (nt:Nat):List V:=us ++ List.replicate (nt - us.length) .junk
def Af4 (M:Seat) (x:Ctx) (rs:List RVr) (Q:V→Hp→Nat→Prop) (A:List V) (H:Hp) (N:Nat):Prop :=
 ∃ A' H' N',Ao M x A H N A' H' N'∧(Dz A' H' rs).1∧Q (Dz A' H' rs).2 H' N'
theorem Af4.now {x:Ctx} {rs:List RVr} {Q:V→Hp→Nat→Prop} {A:List V} {H:Hp} {N:Nat} (h:(Dz A H rs).1∧Q (Dz A H rs).2 H N):Af4 M x rs Q A H N :=
 ⟨A,H,N,Ao.refl,h⟩
def W8 (tmps:Array Value):ResultVar→Sem Value
 | .tmp t=>pure (tmps.getD t undef)
 | .cell a' t=>do loadVar t (← asAddr (tmps.getD a' undef))
theorem Xp {c:Ctx} {e:Env} {H:Hp} {A:List V} {a:Act} (hI:Inv M c e H) (hA:FR e A a.tmps) {r:ResultVar} {s:RVr} (hc:Abl M r s=true) (hp:G1 A H s) :
 ∃ v,Sem.run M.P (W8 a.tmps r) e.w = .ok v e.w∧RV e (DC A H s) v:=by
 cases r <;> cases s <;> simp only [Abl,Bool.false_eq_true] at hc
 case tmp.tmp t t' =>
  simp only [beq_iff_eq] at hc
  subst hc
  exact ⟨_,rfl,hA.val t⟩
 case cell.cell a' t a'' agg sz =>
  simp only [Bool.and_eq_true,beq_iff_eq] at hc
  obtain ⟨⟨rfl,hs⟩,ha⟩:=hc
  obtain ⟨hptr,hp⟩:=hp
  have hv:=hA.val a'
  simp only [DC]
  simp only [Ae,X.ev] at hp ⊢
  split at hptr
  case h_2=>exact hptr.elim
  rename_i id p hy
  rw [hy] at hv
  simp only [hy] at hp ⊢
  obtain ⟨⟨h1,h2,h3⟩,h4,h5,h6⟩:=hp
  obtain ⟨cells,el,hcc,hsz,hR⟩:=hI.cells h1 h2
  have hlen:(cells.toList.take (hget H id).size).length=(hget H id).size:=DI
  obtain ⟨g1,g2⟩:=Ds hR hlen h3
  rw [hlen] at g1
  have g3:R e ((hget H id).get p) ((cells.toList.drop (As p)).take sz):=by
   rw [List.drop_take,List.take_take,Nat.min_eq_left Aa,h5] at g2
   exact g2
  have hle:As p + sz≤cells.size:=Aa
  obtain ⟨k1,k2⟩:=Di (o:=As p) h4 h5 h6 hle g3
  simp only [RV,RS,V.isAgg,R,EF] at hv
  refine ⟨_,?_,k2⟩
  have:=EP hs ha hcc hle k1
  simp only [W8]
  rw [hv.2]
  simpa [Instr.loadAt,Instr.sureAddr,asAddr] using this
theorem Q9 {c:Ctx} {e:Env} {H:Hp} {A:List V} {a:Act} (hI:Inv M c e H) (hA:FR e A a.tmps):∀ (rs:List ResultVar) (ss:List RVr),Jr M rs ss=true→F3 A H ss →
 ∃ vs:List Value,Sem.run M.P (rs.mapM (W8 a.tmps)) e.w = .ok vs e.w∧vs.length=ss.length∧∀ i (h:i < ss.length),RV e (DC A H ss[i]) (vs.getD i undef)
 | [],[],_,_=>⟨[],by simp,rfl,fun i h=>by simp at h⟩
 | r :: rs, s :: ss, hc, hp => by
   simp only [Jr,Bool.and_eq_true] at hc
   simp only [F3] at hp
   obtain ⟨v,h1,h2⟩:=Xp hI hA hc.1 hp.1
   obtain ⟨vs,h3,h4,h5⟩:=Q9 hI hA rs ss hc.2 hp.2
   refine ⟨v :: vs,?_,by simp [h4],fun i hi=>?_⟩
   ·rw [List.mapM_cons,Sem.run_bind,h1]
    simp only [Result.andThen_ok]
    rw [Sem.run_bind,h3]
    rfl
   ·cases i with
    | zero=>simpa using h2
    | succ i=>simpa using h5 i (by simpa using hi)
 | [],_ :: _,hc,_=>by simp [Jr] at hc
 | _ :: _,[],hc,_=>by simp [Jr] at hc
theorem Zi {e:Env} {A:List V} {H:Hp}:∀ (ss:List RVr) (k:Nat) (xs:Array Value),G5 A H ss→(∀ i (h:i < ss.length),∃ y,xs[k + i]?=some y∧RV e (DC A H ss[i]) y)→RT e (FY A H ss k) xs
 | [],_,_,_,_=>trivial
 | s :: ss, k, xs, hp, h => by
   simp only [G5] at hp
   have A6:=Zi ss (k + 1) xs hp.2 (fun i hi=>by
    have:=h (i + 1) (by simpa using hi)
    have e1:k + (i + 1)=k + 1 + i:=Aa
    rw [e1] at this
    simpa using this)
   obtain ⟨y,h1,h2⟩:=h 0 B5
   simp only [List.getElem_cons_zero,Nat.add_zero] at h1 h2
   have h3:=hp.1
   unfold FY
   cases hv:DC A H s with
   | junk=>exact A6
   | _ =>
     rw [hv] at h2 h3
     exact ⟨⟨h3,y,h1,(AI h3).1 h2⟩,A6⟩
theorem N4 {c:Ctx} {e:Env} {H:Hp} {A:List V} {a:Act} (hI:Inv M c e H) (hA:FR e A a.tmps) {fn:Func} {ss:List RVr} (hc:Jr M fn.results.toList ss=true) (hp:(Dz A H ss).1) :
 ∃ v,(results fn a.tmps).run M.P e.w = .ok v e.w∧RV e (Dz A H ss).2 v:=by
 have hps:F3 A H ss:=by
  unfold Dz at hp
  split at hp
  ·exact ⟨hp,trivial⟩
  ·exact hp.1
 obtain ⟨vs,h1,h2,h3⟩:=Q9 hI hA _ _ hc hps
 have hres:results fn a.tmps=(do let vs ← fn.results.mapM (W8 a.tmps);pure (if h:vs.size=1 then vs[0] else .tuple vs)):=by
  unfold results
  congr 1
  try (congr 1;funext r;cases r <;> rfl)
 rw [hres,Array.mapM_eq_mapM_toList]
 simp only [map_eq_pure_bind,bind_assoc,pure_bind]
 rw [Sem.run_bind,h1]
 simp only [Result.andThen_ok,Sem.run_pure]
 refine ⟨_,rfl,?_⟩
 unfold Dz
 split
 ·rename_i s
  have hl:vs.length=1:=h2
  rw [dif_pos N8]
  have:=h3 0 B5
  simp only [List.getElem_cons_zero] at this
  have e1:vs.getD 0 undef=vs[0]'(by omega):=by simp [List.getD,hl]
  rw [e1] at this
  simpa using this
 ·rename_i hne
  have hl:vs.length ≠ 1:=by
   rw [h2]
   intro hl
   match ss,hl,hne with
   | [s],_,hne=>exact hne s rfl
  rw [dif_neg N8]
  refine ⟨_,rfl,Zi ss 0 _ ?_ (fun i hi=>?_)⟩
  ·unfold Dz at hp
   split at hp
   ·rename_i s;exact absurd rfl (hne s)
   ·exact hp.2
  ·have:=h3 i hi
   have hi':i < vs.length:=Aa
   refine ⟨vs[i],by simp [hi'],?_⟩
   simpa [List.getD,hi'] using this
theorem SL {e:Env} {us:List V} {vs:Array Value} (h:HN e us vs) (nt:Nat):FR e (FG us nt) (vs ++ Array.replicate (nt - vs.size) undef):=by
 obtain ⟨h1,h2⟩:=h
 refine ⟨by simp [FG,h1],fun t=>?_⟩
 unfold FG
 by_cases ht:t < us.length
 ·have e1:(us ++ List.replicate (nt - us.length) V.junk).getD t .junk=us.getD t .junk:=by
   simp only [List.getD,List.getElem?_append,ht,if_true]
  have e2:(vs ++ Array.replicate (nt - vs.size) undef).getD t undef=vs.getD t undef:=by
   have:t < vs.size:=Aa
   simp [Array.getElem?_append,this]
  rw [e1,e2];exact h2 t
 ·have e1:(us ++ List.replicate (nt - us.length) V.junk).getD t .junk = .junk:=by
   simp only [List.getD,List.getElem?_append,ht,if_false,List.getElem?_replicate]
   split <;> rfl
  rw [e1];trivial
def Ar (M:Seat) (x:Ctx) (rs:List RVr) (Q:V→Hp→Nat→Prop) (A:List V) (H:Hp) (N:Nat):Prop :=
 ∃ (m z:List Nat) (v:V) (H':Hp) (N':Nat),(decide m.Nodup && z.all (fun i=>!m.contains i) && decide (m.length≤N') && decide (x.k≤N') && (List.range x.k).all (fun j=>m[j]? == some j))=true ∧
  (Dz A H rs).1∧Bi H m z v (Dz A H rs).2∧Br H m z H'∧Q v H' N'
theorem Ar.mk {x:Ctx} {rs:List RVr} {Q:V→Hp→Nat→Prop} {A:List V} {H:Hp} {N:Nat} {k:Nat} (hx:x.k=k) (m z:List Nat) (v:V) (H':Hp) (N':Nat)
 (hm:(decide m.Nodup && z.all (fun i=>!m.contains i) && decide (m.length≤N') && decide (k≤N') && (List.range k).all (fun j=>m[j]? == some j))=true) (h1:(Dz A H rs).1) (h2:Bi H m z v (Dz A H rs).2) (h3:Br H m z H') (h4:Q v H' N'):Ar M x rs Q A H N :=
 ⟨m,z,v,H',N',by rw [hx];exact hm,h1,h2,h3,h4⟩
theorem R2 {f:Nat} {lf:LF} {us:List V} {H:Hp} {k:Nat} {Q:V→Hp→Nat→Prop} (hf:Au M f lf=true)
 (h:∀ x:Ctx,x.k=k→Bm M x (fun A' H' N'=>Ar M x lf.rs Q A' H' N') [.code lf.c] k (FG us lf.nt) H):Ag M f us H k Q:=by
 intro e vs hI hD hargs
 unfold Au at hf
 split at hf
 case h_2=>cases hf
 rename_i fn hfn
 simp only [Bool.and_eq_true,beq_iff_eq] at hf
 obtain ⟨⟨hb,hnt⟩,hrs⟩:=hf
 split at hb
 case h_2=>cases hb
 rename_i C hC
 refine calls_of_wp hfn hC ?_
 rw [hnt]
 have hsat:RX M ⟨e,fun b=>∃ id,Af H id=true∧e.ρ id=b,k⟩ (FG us lf.nt) H k { tmps:=vs ++ Array.replicate (lf.nt - vs.size) undef,defers:=[] } e.w :=
  ⟨e,rfl,hI,SL hargs lf.nt,hD,Nat.le_refl k,rfl⟩
 have:=h ⟨e,fun b=>∃ id,Af H id=true∧e.ρ id=b,k⟩ rfl _ _ [.code C] hsat ⟨hb,trivial⟩
 have h2:C.wp M.P (CK M ⟨e,fun b=>∃ id,Af H id=true∧e.ρ id=b,k⟩ (fun A' H' N'=>Ar M ⟨e,fun b=>∃ id,Af H id=true∧e.ρ id=b,k⟩ lf.rs Q A' H' N') []) { tmps:=vs ++ Array.replicate (lf.nt - vs.size) undef,defers:=[] } e.w:=this
 refine Code.wp_mono (fun ex a w hx=>?_) h2
 have key:(∃ A H' N,RX M ⟨e,fun b=>∃ id,Af H id=true∧e.ρ id=b,k⟩ A H' N a w∧Ar M ⟨e,fun b=>∃ id,Af H id=true∧e.ρ id=b,k⟩ lf.rs Q A H' N) →
  a.defers=[]∧∃ v,(results fn a.tmps).run M.P w = .ok v w∧∃ x v' e' H' k',(Ending.returned v:Ending) = .returned x∧e'.w=w∧Inv M ⟨e,fun b=>∃ id,Af H id=true∧e.ρ id=b,k⟩ e' H'∧RV e' v' x∧(∀ id,k'≤id→¬ e'.D id)∧k≤k'∧Q v' H' k':=by
  rintro ⟨A,H1,N,hs,m,z,v',H',N',hm,hpre,hv',hH',hq⟩
  simp only [Ww,decide_eq_true_eq,List.all_eq_true,List.mem_range,beq_iff_eq,List.contains_eq_mem,decide_eq_false_iff_not] at hm
  obtain ⟨⟨⟨⟨m1,m2⟩,m3⟩,m4⟩,m5⟩:=hm
  obtain ⟨e',rfl,hI',hF',hD',hk',hdef⟩:=hs
  obtain ⟨v,hv,hRV⟩:=N4 hI' hF' hrs hpre
  refine ⟨hdef,v,hv,v,v',e'.sim H1 m z,H',N',rfl,rfl,hI'.sim m1 m2 hH' (.inl ⟨rfl,m5⟩),Lh (Pull.of hI' m z) hv' hRV,?_,m4,hq⟩
  rintro id hid ⟨i,h1,_⟩
  have:=(List.getElem?_eq_some_iff.1 h1).1
  omega
 cases ex <;> try (exact hx.elim)
 ·exact key hx
 ·exact key hx
theorem Fw (k:IntKind) (n:Int):(V.int k n).solid=true:=rfl
theorem JZ (k:IntKind) (n:Int):(V.int k n).size=1:=rfl
theorem Lt (k:IntKind) (n:Int):(V.int k n).isAgg=false:=rfl
theorem DZ (b:Bool):(V.bool b).solid=true:=rfl
theorem GV (b:Bool):(V.bool b).size=1:=rfl
theorem JD (b:Bool):(V.bool b).isAgg=false:=rfl
theorem Fv (s:ByteArray):(V.str s).solid=true:=rfl
theorem IY (s:ByteArray):(V.str s).size=1:=rfl
theorem L6 (s:ByteArray):(V.str s).isAgg=false:=rfl
theorem E4:V.nilp.solid=true:=rfl
theorem Hh:V.nilp.size=1:=rfl
theorem Je:V.nilp.isAgg=false:=rfl
theorem Fl (i:Nat) (p:List Stp):(V.ptr i p).solid=true:=rfl
theorem JR (i:Nat) (p:List Stp):(V.ptr i p).size=1:=rfl
theorem Mi (i:Nat) (p:List Stp):(V.ptr i p).isAgg=false:=rfl
theorem Ff (v:V):(V.imm v).solid=true:=rfl
theorem IJ (v:V):(V.imm v).size=1:=rfl
theorem Md (v:V):(V.imm v).isAgg=false:=rfl
theorem Em:V.nils.solid=true:=rfl
theorem GW:V.nils.size=1:=rfl
theorem IA:V.nils.isAgg=false:=rfl
theorem G8 (i:Nat) (p:List Stp) (o n sz:Nat):(V.sl i p o n sz).solid=true:=rfl
theorem Lk (i:Nat) (p:List Stp) (o n sz:Nat):(V.sl i p o n sz).size=1:=rfl
theorem O7 (i:Nat) (p:List Stp) (o n sz:Nat):(V.sl i p o n sz).isAgg=false:=rfl
theorem Fr (sz n:Nat) (f:Nat→V):(V.lst sz n f).solid=true:=rfl
theorem Iz (sz n:Nat) (f:Nat→V):(V.lst sz n f).size=1:=rfl
theorem Ly (sz n:Nat) (f:Nat→V):(V.lst sz n f).isAgg=false:=rfl
theorem Ea:V.nilm.solid=true:=rfl
theorem GT:V.nilm.size=1:=rfl
theorem I6:V.nilm.isAgg=false:=rfl
theorem Fy (i:Nat):(V.map i).solid=true:=rfl
theorem IZ (i:Nat):(V.map i).size=1:=rfl
theorem L7 (i:Nat):(V.map i).isAgg=false:=rfl
theorem E2:V.nilf.solid=true:=rfl
theorem Hf:V.nilf.size=1:=rfl
theorem Iv:V.nilf.isAgg=false:=rfl
theorem GB (f:Nat) (c:V):(V.fn f c).solid=true:=rfl
theorem Ma (f:Nat) (c:V):(V.fn f c).size=1:=rfl
theorem OT (f:Nat) (c:V):(V.fn f c).isAgg=false:=rfl
theorem Eg:V.nili.solid=true:=rfl
theorem Hi:V.nili.size=1:=rfl
theorem Jp:V.nili.isAgg=false:=rfl
theorem Fx (t:Nat) (v:V):(V.ifc t v).solid=true:=rfl
theorem J1 (t:Nat) (v:V):(V.ifc t v).size=1:=rfl
theorem LL (t:Nat) (v:V):(V.ifc t v).isAgg=false:=rfl
theorem Gt (n:Nat) (fs:V):(V.st n fs).solid=true:=rfl
theorem M0 (n:Nat) (fs:V):(V.st n fs).size=n:=rfl
theorem O6 (n:Nat) (fs:V):(V.st n fs).isAgg=true:=rfl
theorem Gg (sz n:Nat) (f:Nat→V):(V.ar sz n f).solid=true:=rfl
theorem Lo (sz n:Nat) (f:Nat→V):(V.ar sz n f).size=n * sz:=rfl
theorem P3 (sz n:Nat) (f:Nat→V):(V.ar sz n f).isAgg=true:=rfl
theorem Dx (n:Int):IntKind.u64.wrap n=n % 18446744073709551616:=Amt
theorem JX (n:Int):IntKind.u8.wrap n=n % 256:=Amt
theorem EX {n:Int} (h:0≤n∧n < 18446744073709551616):IntKind.u64.wrap n=n:=by
 rw [Dx];omega
theorem Ub (n:Int):IntKind.i64.wrap n=if n % 18446744073709551616 ≥ 9223372036854775808 then n % 18446744073709551616 - 18446744073709551616 else n % 18446744073709551616:=Amt
theorem AY {n:Int} (h:-9223372036854775808≤n∧n < 9223372036854775808):IntKind.i64.wrap n=n:=by
 rw [Ub];split <;> omega
theorem Q6 {p:Prop} [Decidable p] (k:IntKind) (a b:Int):(if p then V.int k a else V.int k b)=V.int k (if p then a else b):=by split <;> rfl
theorem NL {p:Prop} [Decidable p] (a b:Bool):(if p then V.bool a else V.bool b)=V.bool (if p then a else b):=by split <;> rfl
theorem Ao.at {M:Seat} {c:Ctx} {A:List V} {H:Hp} {N:Nat} (m z:List Nat) {k:Nat} (hck:c.k=k) {A':List V} {H':Hp} {N':Nat} (hm:(decide m.Nodup && z.all (fun i=>!m.contains i) && decide (m.length≤N') && decide (k≤N') && (List.range k).all (fun j=>m[j]? == some j))=true)
 (hA:Bd H m z A' A) (hH:Br H m z H'):Ao M c A H N A' H' N':=by
 simp only [Ww,decide_eq_true_eq,List.all_eq_true,List.mem_range,beq_iff_eq,List.contains_eq_mem,decide_eq_false_iff_not] at hm
 obtain ⟨⟨⟨⟨h1,h2⟩,h3⟩,h4⟩,h5⟩:=hm
 exact Ao.sim m z h1 h2 h3 Aa (fun j hj=>h5 j Aa) hA hH
abbrev A0 (l:LO):LOp:=⟨none,.lo l,none⟩
abbrev A1 (d:Nat) (l:LO):LOp:=⟨some d,.lo l,none⟩
abbrev A2 (d t:Nat) (b:Bool) (l:LO):LOp:=⟨some d,.lo l,some (t,b)⟩
abbrev mt (d s:Nat):LOp:=⟨some d,.lo (.mv (.t s)),none⟩
abbrev mn (d:Nat):LOp:=⟨some d,.lo (.mv (.c .nili)),none⟩
abbrev cI (n:Int):X:=.c (.int .i64 n)
abbrev cU (n:Int):X:=.c (.int .u64 n)
abbrev kl (d f:Nat) (l:List X):LOp:=⟨some d,.call f l,none⟩
abbrev sr (l:List LOp) (c:LC):LC:=.seq (.reg l) c
abbrev la (d s m:Nat):LOp:=A1 d (.load true s (.t m))
abbrev lb (d s m:Nat):LOp:=A1 d (.load false s (.t m))
abbrev fa (d s m:Nat):LOp:=A1 d (.fadr s (.t m))
abbrev nc (d m:Nat):LOp:=A1 d (.nilc (.t m))
abbrev ak (d:Nat) (o:BinOp) (a b:Nat):LOp:=A1 d (.ari o (.t a) (.t b))
abbrev aI (d:Nat) (o:BinOp) (a:Nat) (n:Int):LOp:=A1 d (.ari o (.t a) (cI n))
abbrev ia (d s a b:Nat):LOp:=A1 d (.isl s (.t a) (.t b))
abbrev ib (d n s a b:Nat):LOp:=A1 d (.iarr n s (.t a) (.t b))
abbrev sb (s a b:Nat):LOp:=A0 (.store s (.t a) (.t b))
abbrev mg (d g:Nat) (b:Bool) (m:Nat):LOp:=A2 d g b (.mv (.t m))
abbrev ee (d m k:Nat):LOp:=A1 d (.ext (.t m) k)
abbrev aJ (d:Nat) (o:BinOp) (n:Int) (b:Nat):LOp:=A1 d (.ari o (cI n) (.t b))
abbrev cVv (d:Nat) (o:IntKind) (b:Nat):LOp:=A1 d (.conv o (.t b))
abbrev Dd (m e:Nat):LC:=.cond (.t m) (.skip) (.exit e)
abbrev mI (d:Nat) (n:Int):LOp:=A1 d (.mv (cI n))
abbrev mU (d:Nat) (n:Int):LOp:=A1 d (.mv (cU n))
abbrev aB (d n:Nat):LOp:=A1 d (.alloc (.ar n (.int .u8)))
abbrev bX (d m:Nat):LOp:=A1 d (.box (.t m))
abbrev BV (d m n:Nat):LOp:=A1 d (.pick (.t m) (.c (.bool true)) (.t n))
abbrev Fq (d m n:Nat):LOp:=A1 d (.pick (.t m) (.t n) (.c (.bool false)))
abbrev iI (d n s a:Nat) (i:Int):LOp:=A1 d (.iarr n s (.t a) (cI i))
abbrev iJ (d s a:Nat) (i:Int):LOp:=A1 d (.isl s (.t a) (cI i))
abbrev aU (d:Nat) (o:BinOp) (a:Nat) (n:Int):LOp:=A1 d (.ari o (.t a) (cU n))
abbrev aV (d:Nat) (o:BinOp) (n:Int) (b:Nat):LOp:=A1 d (.ari o (cU n) (.t b))
abbrev lN (d k m:Nat):LOp:=A1 d (.len k (.t m))
abbrev aP (d s y m n:Nat):LOp:=A1 d (.app s y (.t m) (.t n))
end Mv
