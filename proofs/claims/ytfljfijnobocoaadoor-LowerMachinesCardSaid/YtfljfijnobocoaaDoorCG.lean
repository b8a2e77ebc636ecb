/- A part. -/
import Derived.Test.YtfljfijnobocoaaDoorCF
set_option linter.all false
namespace Mv
open Go
variable {M:Seat}
theorem I0 {P:Program} (w:World) (isSl:Bool) (len cap:Nat) (lo hi:Option Value) (l h:Int)
 (hlo:match lo with | none=>l=0 | some v=>∃ k,v = .int k l) (hhi:match hi with | none=>h=len | some v=>∃ k,v = .int k h)
 (h0:0≤l) (h1:l≤h) (h2:h≤cap):(Instr.sliceBounds isSl len cap lo hi none).run P w = .ok (l.toNat,h.toNat,cap) w:=by
 have hb:∀ (k:IntKind) (i:Int) (y:Nat) (code:BoundsCode),0≤i→i≤y→(Instr.sliceBound (.int k i) y code).run P w = .ok i.toNat w:=by
  intro k i y code a b
  simp [Instr.sliceBound,asIntOf,a,b]
 have hle:l≤(h.toNat:Int):=Aa
 unfold Instr.sliceBounds
 cases lo with
 | none =>
   simp only at hlo
   subst hlo
   cases hi with
   | none=>simp only at hhi;subst hhi;simp
   | some v=>obtain ⟨k,rfl⟩:=hhi;simp [hb k h cap _ Aa h2]
 | some v0 =>
   obtain ⟨k0,rfl⟩:=hlo
   cases hi with
   | none =>
     simp only at hhi
     subst hhi
     have hb':=hb k0 l len .sliceB h0 h1
     simp [hb']
   | some v =>
     obtain ⟨k,rfl⟩:=hhi
     have hb1:=hb k h cap (if isSl then .sliceAcap else .sliceAlen) Aa h2
     have hb2:=hb k0 l h.toNat .sliceB h0 hle
     simp [hb1,hb2]
def Ku (M:Seat) (x:Option Operand) (y:Option X):Bool :=
 match x,y with
 | none,none=>true
 | some x,some y=>Ay M x y
 | _,_=>false
def R9 (M:Seat) (e:Env):Option X→Prop
 | none=>True
 | some x=>C5 M e x
theorem Ih {e:Env} (hφ:e.φ=M.φ) {A:List V} {a:Act} (hA:FR e A a.tmps) {x:Option Operand} {y:Option X} (h:Ku M x y=true) (hg:R9 M e y) (ho:B1 A y) (d:Int) :
 match x.map a.eval with | none=>A8 A d y=d | some v=>∃ k,v = .int k (A8 A d y):=by
 cases x with
 | none => cases y with
   | none=>rfl
   | some y=>cases h
 | some x => cases y with
   | none=>cases h
   | some y =>
     have hv:=Ax hφ hA h hg
     simp only [B1] at ho
     simp only [Option.map_some,A8]
     generalize y.ev A=v at *
     cases v <;> simp only [Nj] at ho
     exact ⟨_,B2 hv⟩
theorem OQ {c:Ctx} {e:Env} {H:Hp} {A:List V} {a:Act} (hI:Inv M c e H) (hA:FR e A a.tmps) {n:Nat} {t el:TypeId} {m sz:Nat} {x:Operand} {y:X} {lo hi:Option Operand} {lo' hi':Option X}
 (ht:M.P.underlying t=some (.array m el)) (hz:EG M el=some sz) (hx:Ay M x y=true) (hg:C5 M e y) (hlo:Ku M lo lo'=true) (hglo:R9 M e lo') (hhi:Ku M hi hi'=true) (hghi:R9 M e hi')
 (hp:(Ae A H n (.slarr m sz y lo' hi')).pre) :
 By M c e n (Ae A H n (.slarr m sz y lo' hi')) (Sem.run M.P (do pure (Next.value (← Instr.sliceAt t (a.eval x) (lo.map a.eval) (hi.map a.eval) none))) e.w):=by
 have hv:=Ax hI.φ hA hx hg
 have hrun:∀ (b o:Nat),(B1 A lo'∧B1 A hi'∧0≤A8 A 0 lo'∧A8 A 0 lo'≤A8 A m hi'∧A8 A m hi'≤m) →
  ∃ ad:Option Addr,((m - (A8 A 0 lo').toNat=0) ∨ ad=some ⟨b,o + (A8 A 0 lo').toNat * sz,none⟩) ∧
  (Instr.sliceAt t (.pointer (some ⟨b,o,none⟩)) (lo.map a.eval) (hi.map a.eval) none).run M.P e.w = .ok (.slice ad ((A8 A m hi').toNat - (A8 A 0 lo').toNat) (m - (A8 A 0 lo').toNat)) e.w:=by
  rintro b o ⟨i1,i2,i3,i4,i5⟩
  have hb:=I0 (P:=M.P) e.w false m m (lo.map a.eval) (hi.map a.eval) (A8 A 0 lo') (A8 A m hi') (Ih hI.φ hA hlo hglo i1 0) (Ih hI.φ hA hhi hghi i2 m) i3 i4 i5
  refine ⟨some (if m=(A8 A 0 lo').toNat then ⟨b,o,none⟩ else ⟨b,o + (A8 A 0 lo').toNat * sz,none⟩),?_,?_⟩
  ·split
   ·left;omega
   ·right;rfl
  ·simp only [Instr.sliceAt,ED,run_underlying ht,Instr.sureAddr,hb,Bz hz,CM]
 simp only [Ae] at hp ⊢
 split at hp
 ·rename_i id p hy
  rw [hy] at hv
  obtain ⟨hb,h1,h2,h3,h4⟩:=hp
  obtain ⟨hD,hx'⟩:=Mk hv
  rw [hx']
  obtain ⟨ad,hcap,hr⟩:=hrun (e.ρ id) (As p) hb
  refine Aj hI (AA hr) rfl (Ew hD hcap Aa ?_)
  obtain ⟨cells,el',hc,hsz,hR⟩:=hI.cells h1 h2
  have hlen:(cells.toList.take (hget H id).size).length=(hget H id).size:=DI
  obtain ⟨g1,g2⟩:=Ds hR hlen h3
  rw [hlen] at g1
  have hbs:Cf e.w (e.ρ id)=cells.size:=by unfold Cf;rw [hc]
  rw [hbs]
  generalize (hget H id).get p=v at *
  cases v <;> simp only at h4
  obtain ⟨rfl,rfl⟩:=h4
  rename_i sz' m' f
  have g1':As p + m' * sz'≤(hget H id).size:=g1
  have:((A8 A 0 lo').toNat + (m' - (A8 A 0 lo').toNat))=m':=Aa
  rw [this]
  exact Nat.le_trans g1' hsz
 ·rename_i v hy
  rw [hy] at hv
  cases v <;> simp only [BG] at hp
  rename_i sz' m' f
  obtain ⟨hb,rfl,rfl⟩:=hp
  obtain ⟨b,o,cc,el',fz,hx',hi,hbb,hl,hR⟩:=Ml hv
  rw [hx']
  obtain ⟨ad,hcap,hr⟩:=hrun b o hb
  refine Aj hI (AA hr) rfl (ML Aa (fun hpos=>?_))
  have had:=hcap.resolve_left Aa
  simp only [V.size] at hl hR
  have hpt:=M1 hR (o:=(A8 A 0 lo').toNat) (m:=(A8 A m' hi').toNat - (A8 A 0 lo').toNat) Aa
  have hmm:(A8 A 0 lo').toNat * sz' + ((A8 A m' hi').toNat - (A8 A 0 lo').toNat) * sz'≤m' * sz':=by
   rw [← Nat.add_mul];exact Nat.mul_le_mul_right _ Aa
  rw [AL _ _ _ _ _ hmm] at hpt
  simp only [R] at hpt
  refine ⟨b,o + (A8 A 0 lo').toNat * sz',cc,el',fz,by rw [had],hi,hbb,by omega,fun i hil=>?_⟩
  obtain ⟨q1,q2⟩:=hpt.2 i hil
  refine ⟨q1,?_⟩
  have hi2:i * sz' + sz'≤((A8 A m' hi').toNat - (A8 A 0 lo').toNat) * sz':=by
   have:(i + 1) * sz'≤((A8 A m' hi').toNat - (A8 A 0 lo').toNat) * sz':=Nat.mul_le_mul_right _ hil
   rw [Nat.add_mul] at this;omega
  rw [AL _ _ _ _ _ hi2] at q2
  exact q2
 ·exact hp.elim
theorem R7 {c:Ctx} {e:Env} {H:Hp} {A:List V} {a:Act} (hI:Inv M c e H) (hA:FR e A a.tmps) {n:Nat} {t el:TypeId} {sz:Nat} {x:Operand} {y:X} {lo hi:Option Operand} {lo' hi':Option X}
 (ht:M.P.underlying t=some (.slice el)) (hz:EG M el=some sz) (hx:Ay M x y=true) (hg:C5 M e y) (hlo:Ku M lo lo'=true) (hglo:R9 M e lo') (hhi:Ku M hi hi'=true) (hghi:R9 M e hi')
 (hp:(Ae A H n (.slsl sz y lo' hi')).pre) :
 By M c e n (Ae A H n (.slsl sz y lo' hi')) (Sem.run M.P (do pure (Next.value (← Instr.sliceAt t (a.eval x) (lo.map a.eval) (hi.map a.eval) none))) e.w):=by
 have hv:=Ax hI.φ hA hx hg
 have hrun:∀ (b:Option Addr) (len cap:Nat),len≤cap→(B1 A lo'∧B1 A hi'∧0≤A8 A 0 lo'∧A8 A 0 lo'≤A8 A len hi'∧A8 A len hi'≤len) →
  (Instr.sliceAt t (.slice b len cap) (lo.map a.eval) (hi.map a.eval) none).run M.P e.w = .ok (.slice (if cap=(A8 A 0 lo').toNat then b else b.map (·.add ((A8 A 0 lo').toNat * sz))) ((A8 A len hi').toNat - (A8 A 0 lo').toNat) (cap - (A8 A 0 lo').toNat)) e.w:=by
  rintro b len cap hlc ⟨i1,i2,i3,i4,i5⟩
  have hb:=I0 (P:=M.P) e.w true len cap (lo.map a.eval) (hi.map a.eval) (A8 A 0 lo') (A8 A len hi') (Ih hI.φ hA hlo hglo i1 0) (Ih hI.φ hA hhi hghi i2 len) i3 i4 Aa
  simp only [Instr.sliceAt,ED,run_underlying ht,Instr.slice,hb,Bz hz]
 simp only [Ae] at hp ⊢
 split at hp
 ·rename_i id p o m sz' hy
  rw [hy] at hv
  obtain ⟨hb,rfl⟩:=hp
  obtain ⟨hD,b,cap,hx',hbb,hl,hbs⟩:=Gm hv
  rw [hx']
  have hr:=hrun b m cap hl hb
  refine Aj hI (AA hr) rfl (Ew hD ?_ Aa ?_)
  ·by_cases hc0:cap - (A8 A 0 lo').toNat=0
   ·exact .inl hc0
   ·right
    rw [if_neg Aa]
    have:=hbb.resolve_left Aa
    rw [this]
    simp only [Option.map_some,CM,Nat.add_mul,Nat.add_assoc]
  ·have:o + (A8 A 0 lo').toNat + (cap - (A8 A 0 lo').toNat)=o + cap:=Aa
   rw [this];exact hbs
 ·rename_i sz' m f hy
  rw [hy] at hv
  obtain ⟨hb,rfl⟩:=hp
  obtain ⟨b,cap,hx',hl,hh⟩:=Hl hv
  rw [hx']
  have hres:RV e (.lst sz' ((A8 A m hi').toNat - (A8 A 0 lo').toNat) (fun i=>f ((A8 A 0 lo').toNat + i))) (.slice (if cap=(A8 A 0 lo').toNat then b else b.map (·.add ((A8 A 0 lo').toNat * sz'))) ((A8 A m hi').toNat - (A8 A 0 lo').toNat) (cap - (A8 A 0 lo').toNat)):=by
   refine ML Aa (fun hpos=>?_)
   have hm0:0 < m:=by clear hh;omega
   obtain ⟨bb,o,cc,el',fz,rfl,hi,hb',hsz,hR⟩:=hh hm0
   clear hh
   have hmm:(A8 A 0 lo').toNat * sz' + ((A8 A m hi').toNat - (A8 A 0 lo').toNat) * sz'≤m * sz':=by
    rw [← Nat.add_mul];exact Nat.mul_le_mul_right _ Aa
   refine ⟨bb,o + (A8 A 0 lo').toNat * sz',cc,el',fz,?_,hi,hb',by omega,fun i hil=>?_⟩
   ·rw [if_neg Aa]
    simp [CM]
   ·have:=hR ((A8 A 0 lo').toNat + i) Aa
    rw [Nat.add_mul,← Nat.add_assoc] at this
    exact this
  exact Aj hI (AA (hrun b m cap hl hb)) rfl hres
 ·rename_i hy
  rw [hy] at hv
  obtain ⟨i1,i2,i3,i4⟩:=hp
  have hx':a.eval x = .slice none 0 0:=by simpa [RV,RS,V.isAgg,R] using hv
  rw [hx']
  have hr:=hrun none 0 0 (Nat.le_refl _) ⟨i1,i2,by omega,by have:((0:Nat):Int)=0:=rfl;rw [this];omega,by have:((0:Nat):Int)=0:=rfl;rw [this];omega⟩
  refine Aj hI (AA hr) rfl ?_
  have e0:((0:Nat):Int)=0:=rfl
  rw [e0,i3,i4]
  simp [RV,RS,V.isAgg,R]
 ·exact hp.elim
theorem Uw {c:Ctx} {e:Env} {H:Hp} {A:List V} {a:Act} (hI:Inv M c e H) (hA:FR e A a.tmps) {n:Nat} {t el:TypeId} {m sz:Nat} {x:Operand} {y:X}
 (ht:M.P.underlying t=some (.array m el)) (hx:Ay M x y=true) (hg:C5 M e y) (hp:(Ae A H n (.s2a m sz y)).pre) :
 By M c e n (Ae A H n (.s2a m sz y)) (Sem.run M.P (do pure (Next.value (← Instr.arrayAt t (a.eval x)))) e.w):=by
 have hv:=Ax hI.φ hA hx hg
 have hrun:∀ (b:Option Addr) (len cap:Nat),m≤len→(Instr.arrayAt t (.slice b len cap)).run M.P e.w = .ok (.pointer b) e.w:=by
  intro b len cap hl
  have:¬ len < m:=Aa
  simp [Instr.arrayAt,run_underlying ht,this]
 simp only [Ae] at hp ⊢
 split at hp
 ·rename_i id p o l sz' hy
  rw [hy] at hv
  obtain ⟨rfl,h1,h2⟩:=hp
  obtain ⟨hD,b,cap,hx',hbb,hl,hbs⟩:=Gm hv
  rw [hx']
  have hb:=hbb.resolve_left Aa
  subst hb
  exact Aj hI (AA (hrun _ _ _ h1)) rfl (G6 hD rfl (by rw [Cs];rfl))
 ·rename_i sz' l f hy
  rw [hy] at hv
  obtain ⟨rfl,h1,h2⟩:=hp
  obtain ⟨b,cap,hx',hl,hh⟩:=Hl hv
  obtain ⟨bb,o,cc,el',fz,rfl,hi,hb',hsz,hR⟩:=hh Aa
  rw [hx']
  have hml:m * sz'≤l * sz':=Nat.mul_le_mul_right _ h1
  refine Aj hI (AA (hrun _ _ _ h1)) rfl (GA hi hb' (by simp only [V.size];omega) ?_)
  simp only [V.size,R]
  refine ⟨by simp;omega,fun i hi'=>?_⟩
  obtain ⟨q1,q2⟩:=hR i Aa
  refine ⟨q1,?_⟩
  have hi2:i * sz' + sz'≤m * sz':=by
   have:(i + 1) * sz'≤m * sz':=Nat.mul_le_mul_right _ hi'
   rw [Nat.add_mul] at this;omega
  rw [AL _ _ _ _ _ hi2]
  exact q2
 ·exact hp.elim
theorem Sn {c:Ctx} {e:Env} {H:Hp} {A:List V} {a:Act} (hI:Inv M c e H) (hA:FR e A a.tmps) {n:Nat} {t:Nat} {d:TypeDesc} {x:Operand} {y:X}
 (ht:M.P.underlying (M.τ t)=some d) (hd:(match d with | .interface _=>false | _=>true)=true) (hx:Ay M x y=true) (hg:C5 M e y) (hp:(Ae A H n (.mkif t y)).pre) :
 By M c e n (Ae A H n (.mkif t y)) (Sem.run M.P (do pure (Next.value (← Instr.makeInterface (M.τ t) (a.eval x)))) e.w):=by
 have hv:=Ax hI.φ hA hx hg
 simp only [Ae] at hp ⊢
 rw [AI hp] at hv
 refine Aj hI (x:=.iface (M.τ t) (a.eval x)) (AA ?_) rfl ?_
 ·simp only [Instr.makeInterface,QW,run_underlying ht]
  cases d <;> first | rfl | cases hd
 ·simp only [RV,RS,V.isAgg,R]
  exact ⟨_,by rw [hI.τ],hp,by unfold RS at hv;exact hv⟩
theorem Vt {e:Env} {i:Nat}:∀ {fs:V} {xs:Array Value},RT e fs xs→fs.fhas i=true→∃ y,xs[i]?=some y∧RV e (fs.fget i) y
 | .fcons j v r, xs, h, hk => by
   simp only [RT] at h
   simp only [V.fget]
   split
   ·rename_i hj
    subst hj
    obtain ⟨⟨h0,y,h1,h2⟩,_⟩:=h
    exact ⟨y,h1,(AI h0).2 h2⟩
   ·rename_i hj
    simp only [V.fhas,Bool.or_eq_true,beq_iff_eq,hj,false_or] at hk
    exact Vt h.2 hk
 | .junk,_,_,hk | .int ..,_,_,hk | .bool _,_,_,hk | .str _,_,_,hk | .nilp,_,_,hk | .ptr ..,_,_,hk | .imm _,_,_,hk | .nils,_,_,hk
 | .sl ..,_,_,hk | .lst ..,_,_,hk | .nilm,_,_,hk | .map _,_,_,hk | .nilf,_,_,hk | .fn ..,_,_,hk | .nili,_,_,hk | .ifc ..,_,_,hk
 | .st ..,_,_,hk | .ar ..,_,_,hk | .fnil,_,_,hk | .tup _,_,_,hk | .mp ..,_,_,hk | .fm ..,_,_,hk=>by simp [V.fhas] at hk
theorem TW {c:Ctx} {e:Env} {H:Hp} {A:List V} {a:Act} (hI:Inv M c e H) (hA:FR e A a.tmps) {n:Nat} {i:Nat} {x:Operand} {y:X}
 (hx:Ay M x y=true) (hg:C5 M e y) (hp:(Ae A H n (.ext y i)).pre) :
 By M c e n (Ae A H n (.ext y i)) (Sem.run M.P (do pure (Next.value (← Instr.extract (a.eval x) i))) e.w):=by
 have hv:=Ax hI.φ hA hx hg
 simp only [Ae] at hp ⊢
 split at hp
 ·rename_i fs hy
  rw [hy] at hv
  simp only [RV] at hv
  obtain ⟨xs,hx',hT⟩:=hv
  obtain ⟨z,h1,h2⟩:=Vt hT hp
  rw [hx']
  refine Aj hI (x:=z) (AA ?_) rfl h2
  simp [Instr.extract,h1]
 ·exact hp.elim
theorem Qf {e:Env} {x:Value} (h:RV e .nils x):x = .slice none 0 0:=OH
theorem To {e:Env} {s:ByteArray} {x:Value} (h:RV e (.str s) x):x = .string s:=OH
theorem Yn {e:Env} {x:Value} (h:RV e .nilm x):x = .map none:=OH
theorem Ou {e:Env} {id:Nat} {x:Value} (h:RV e (.map id) x):e.D id∧x = .map (some (e.ρ id)):=OH
def Qe:Nat→TypeDesc→Bool
 | 0,.slice _=>true
 | 1,.string=>true
 | 2,.map _ _=>true
 | _,_=>false
theorem Ua {c:Ctx} {e:Env} {H:Hp} {A:List V} {a:Act} (hI:Inv M c e H) (hA:FR e A a.tmps) {n:Nat} {t ty:TypeId} {d:TypeDesc} {ts:Array TypeId} {k:Nat} {x:Operand} {y:X}
 (ht:M.P.underlying t=some d) (hts:ts[0]?=some t) (hd:Qe k d=true)
 (hx:Ay M x y=true) (hg:C5 M e y) (hp:(Ae A H n (.len k y)).pre) :
 By M c e n (Ae A H n (.len k y)) (Sem.run M.P (do pure (Next.value (← Builtin.len_ ts ty #[a.eval x]))) e.w):=by
 have hv:=Ax hI.φ hA hx hg
 simp only [Ae] at hp ⊢
 split at hp
 ·rename_i id p o m sz hy
  rw [hy] at hv
  obtain ⟨hD,b,cap,hx',_⟩:=Gm hv
  rw [hx']
  cases d <;> try (cases hd;done)
  refine Aj hI (x:=.int .i64 m) (AA ?_) rfl (Bp _ _)
  simp [Builtin.len_,hts,run_underlying ht,goInt]
 ·rename_i sz m f hy
  rw [hy] at hv
  obtain ⟨b,cap,hx',_⟩:=Hl hv
  rw [hx']
  cases d <;> try (cases hd;done)
  refine Aj hI (x:=.int .i64 m) (AA ?_) rfl (Bp _ _)
  simp [Builtin.len_,hts,run_underlying ht,goInt]
 ·rename_i hy
  rw [hy] at hv
  rw [Qf hv]
  cases d <;> try (cases hd;done)
  refine Aj hI (x:=.int .i64 0) (AA ?_) rfl (Bp _ _)
  simp [Builtin.len_,hts,run_underlying ht,goInt]
 ·rename_i s hy
  rw [hy] at hv
  rw [To hv]
  cases d <;> try (cases hd;done)
  refine Aj hI (x:=.int .i64 s.size) (AA ?_) rfl (Bp _ _)
  simp [Builtin.len_,hts,run_underlying ht,goInt]
 ·rename_i hy
  rw [hy] at hv
  rw [Yn hv]
  cases d <;> try (cases hd;done)
  refine Aj hI (x:=.int .i64 0) (AA ?_) rfl (Bp _ _)
  simp [Builtin.len_,hts,run_underlying ht,goInt]
 ·rename_i id hy
  rw [hy] at hv
  obtain ⟨hD,hx'⟩:=Ou hv
  rw [hx']
  cases d <;> try (cases hd;done)
  split at hp
  ·rename_i m ks vs hm
   obtain ⟨_,hb,_,_⟩:=hI.blk id hp
   rw [hm] at hb
   obtain ⟨es,clock,h1,h2,_⟩:=hb
   refine Aj hI (x:=.int .i64 m) (AA ?_) rfl (Bp _ _)
   simp [Builtin.len_,hts,run_underlying ht,goInt,getObj,Sem.run,h1,h2]
  ·exact hp.elim
 ·exact hp.elim
end Mv
