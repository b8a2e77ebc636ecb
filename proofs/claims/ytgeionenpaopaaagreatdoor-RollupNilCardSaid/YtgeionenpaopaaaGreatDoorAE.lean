/- A part. -/
import Derived.Test.YtgeionenpaopaaaGreatDoorAD
set_option linter.all false
namespace Mv
open Go
variable {M:Seat}
theorem JK {P:Program} (w:World) (isSl:Bool) (len cap:Nat) (lo hi:Option Value) (l h:Int)
 (hlo:match lo with | none=>l=0 | some v=>∃ k,v = .int k l) (hhi:match hi with | none=>h=len | some v=>∃ k,v = .int k h)
 (h0:0≤l) (h1:l≤h) (h2:h≤cap):(Instr.sliceBounds isSl len cap lo hi none).run P w = .ok (l.toNat,h.toNat,cap) w:=by
 have hb:∀ (k:IntKind) (i:Int) (y:Nat) (code:BoundsCode),0≤i→i≤y→(Instr.sliceBound (.int k i) y code).run P w = .ok i.toNat w:=by
  intro k i y code a b;simp [Instr.sliceBound,asIntOf,a,b]
 have hle:l≤(h.toNat:Int):=Aa;unfold Instr.sliceBounds;cases lo with
 | none =>
   simp only at hlo;subst hlo;cases hi with
   | none=>simp only at hhi;subst hhi;simp
   | some v=>obtain ⟨k,rfl⟩:=hhi;simp [hb k h cap _ Aa h2]
 | some v0 =>
   obtain ⟨k0,rfl⟩:=hlo;cases hi with
   | none =>
     simp only at hhi;subst hhi;have hb':=hb k0 l len .sliceB h0 h1;simp [hb']
   | some v =>
     obtain ⟨k,rfl⟩:=hhi;have hb1:=hb k h cap (if isSl then .sliceAcap else .sliceAlen) Aa h2;have hb2:=hb k0 l h.toNat .sliceB h0 hle;simp [hb1,hb2]
def Lh (M:Seat) (x:Option Operand) (y:Option X):Bool :=
 match x,y with
 | none,none=>true
 | some x,some y=>A3 M x y
 | _,_=>false
def T8 (M:Seat) (e:Env):Option X→Prop
 | none=>True
 | some x=>CJ M e x
theorem Jc {e:Env} (hφ:e.φ=M.φ) {A:List V} {a:Act} (hA:FR e A a.tmps) {x:Option Operand} {y:Option X} (h:Lh M x y=true) (hg:T8 M e y) (ho:B1 A y) (d:Int) :
 match x.map a.eval with | none=>AC A d y=d | some v=>∃ k,v = .int k (AC A d y):=by
 cases x with
 | none => cases y with
   | none=>rfl
   | some y=>cases h
 | some x => cases y with
   | none=>cases h
   | some y =>
     have hv:=Az hφ hA h hg;simp only [B1] at ho;simp only [Option.map_some,AC];generalize y.ev A=v at *
     cases v <;> simp only [NW] at ho;exact ⟨_,B2 hv⟩
theorem Rj {c:Ctx} {e:Env} {H:Hp} {A:List V} {a:Act} (hI:Inv M c e H) (hA:FR e A a.tmps) {n:Nat} {t el:TypeId} {m sz:Nat} {x:Operand} {y:X} {lo hi:Option Operand} {lo' hi':Option X}
 (ht:M.P.underlying t=some (.array m el)) (hz:FD M el=some sz) (hx:A3 M x y=true) (hg:CJ M e y) (hlo:Lh M lo lo'=true) (hglo:T8 M e lo') (hhi:Lh M hi hi'=true) (hghi:T8 M e hi')
 (hp:(Ag A H n (.slarr m sz y lo' hi')).pre) :
 Bm M c e n (Ag A H n (.slarr m sz y lo' hi')) (Sem.run M.P (do pure (Next.value (← Instr.sliceAt t (a.eval x) (lo.map a.eval) (hi.map a.eval) none))) e.w):=by
 have hv:=Az hI.φ hA hx hg;have hrun:∀ (b o:Nat),(B1 A lo'∧B1 A hi'∧0≤AC A 0 lo'∧AC A 0 lo'≤AC A m hi'∧AC A m hi'≤m) →
  ∃ ad:Option Addr,((m - (AC A 0 lo').toNat=0) ∨ ad=some ⟨b,o + (AC A 0 lo').toNat * sz,none⟩) ∧
  (Instr.sliceAt t (.pointer (some ⟨b,o,none⟩)) (lo.map a.eval) (hi.map a.eval) none).run M.P e.w = .ok (.slice ad ((AC A m hi').toNat - (AC A 0 lo').toNat) (m - (AC A 0 lo').toNat)) e.w:=by
  rintro b o ⟨i1,i2,i3,i4,i5⟩;have hb:=JK (P:=M.P) e.w false m m (lo.map a.eval) (hi.map a.eval) (AC A 0 lo') (AC A m hi') (Jc hI.φ hA hlo hglo i1 0) (Jc hI.φ hA hhi hghi i2 m) i3 i4 i5;refine ⟨some (if m=(AC A 0 lo').toNat then ⟨b,o,none⟩ else ⟨b,o + (AC A 0 lo').toNat * sz,none⟩),?_,?_⟩
  ·split
   ·left;omega
   ·right;rfl
  ·simp only [Instr.sliceAt,EP,run_underlying ht,Instr.sureAddr,hb,Bv hz,Ds]
 simp only [Ag] at hp ⊢;split at hp
 ·rename_i id p hy;rw [hy] at hv;obtain ⟨hb,h1,h2,h3,h4⟩:=hp;obtain ⟨hD,hx'⟩:=MP hv;rw [hx'];obtain ⟨ad,hcap,hr⟩:=hrun (e.ρ id) (At p) hb;refine Ao hI (AB hr) rfl (Ff hD hcap Aa ?_);obtain ⟨cells,el',hc,hsz,hR⟩:=hI.cells h1 h2;have hlen:(cells.toList.take (hget H id).size).length=(hget H id).size:=F6;obtain ⟨g1,g2⟩:=DP hR hlen h3;rw [hlen] at g1;have hbs:BM e.w (e.ρ id)=cells.size:=by unfold BM;rw [hc]
  rw [hbs];generalize (hget H id).get p=v at *
  cases v <;> simp only at h4;obtain ⟨rfl,rfl⟩:=h4;rename_i sz' m' f;have g1':At p + m' * sz'≤(hget H id).size:=g1;have:((AC A 0 lo').toNat + (m' - (AC A 0 lo').toNat))=m':=Aa;rw [this];exact Nat.le_trans g1' hsz
 ·rename_i v hy;rw [hy] at hv;cases v <;> simp only [bad] at hp;rename_i sz' m' f;obtain ⟨hb,rfl,rfl⟩:=hp;obtain ⟨b,o,cc,el',fz,hx',hi,hbb,hl,hR⟩:=MV hv;rw [hx'];obtain ⟨ad,hcap,hr⟩:=hrun b o hb;refine Ao hI (AB hr) rfl (Oo Aa (fun hpos=>?_));have had:=hcap.resolve_left Aa;simp only [V.size] at hl hR;have hpt:=Nh hR (o:=(AC A 0 lo').toNat) (m:=(AC A m' hi').toNat - (AC A 0 lo').toNat) Aa;have hmm:(AC A 0 lo').toNat * sz' + ((AC A m' hi').toNat - (AC A 0 lo').toNat) * sz'≤m' * sz':=by
   rw [← Nat.add_mul];exact Nat.mul_le_mul_right _ Aa
  rw [AS _ _ _ _ _ hmm] at hpt;simp only [R] at hpt;refine ⟨b,o + (AC A 0 lo').toNat * sz',cc,el',fz,by rw [had],hi,hbb,by omega,fun i hil=>?_⟩;obtain ⟨q1,q2⟩:=hpt.2 i hil;refine ⟨q1,?_⟩;have hi2:i * sz' + sz'≤((AC A m' hi').toNat - (AC A 0 lo').toNat) * sz':=by
   have:(i + 1) * sz'≤((AC A m' hi').toNat - (AC A 0 lo').toNat) * sz':=Nat.mul_le_mul_right _ hil;rw [Nat.add_mul] at this;omega
  rw [AS _ _ _ _ _ hi2] at q2;exact q2
 ·exact hp.elim
theorem Tt {c:Ctx} {e:Env} {H:Hp} {A:List V} {a:Act} (hI:Inv M c e H) (hA:FR e A a.tmps) {n:Nat} {t el:TypeId} {sz:Nat} {x:Operand} {y:X} {lo hi:Option Operand} {lo' hi':Option X}
 (ht:M.P.underlying t=some (.slice el)) (hz:FD M el=some sz) (hx:A3 M x y=true) (hg:CJ M e y) (hlo:Lh M lo lo'=true) (hglo:T8 M e lo') (hhi:Lh M hi hi'=true) (hghi:T8 M e hi')
 (hp:(Ag A H n (.slsl sz y lo' hi')).pre) :
 Bm M c e n (Ag A H n (.slsl sz y lo' hi')) (Sem.run M.P (do pure (Next.value (← Instr.sliceAt t (a.eval x) (lo.map a.eval) (hi.map a.eval) none))) e.w):=by
 have hv:=Az hI.φ hA hx hg;have hrun:∀ (b:Option Addr) (len cap:Nat),len≤cap→(B1 A lo'∧B1 A hi'∧0≤AC A 0 lo'∧AC A 0 lo'≤AC A len hi'∧AC A len hi'≤len) →
  (Instr.sliceAt t (.slice b len cap) (lo.map a.eval) (hi.map a.eval) none).run M.P e.w = .ok (.slice (if cap=(AC A 0 lo').toNat then b else b.map (·.add ((AC A 0 lo').toNat * sz))) ((AC A len hi').toNat - (AC A 0 lo').toNat) (cap - (AC A 0 lo').toNat)) e.w:=by
  rintro b len cap hlc ⟨i1,i2,i3,i4,i5⟩;have hb:=JK (P:=M.P) e.w true len cap (lo.map a.eval) (hi.map a.eval) (AC A 0 lo') (AC A len hi') (Jc hI.φ hA hlo hglo i1 0) (Jc hI.φ hA hhi hghi i2 len) i3 i4 Aa;simp only [Instr.sliceAt,EP,run_underlying ht,Instr.slice,hb,Bv hz]
 simp only [Ag] at hp ⊢;split at hp
 ·rename_i id p o m sz' hy;rw [hy] at hv;obtain ⟨hb,rfl⟩:=hp;obtain ⟨hD,b,cap,hx',hbb,hl,hbs⟩:=Hj hv;rw [hx'];have hr:=hrun b m cap hl hb;refine Ao hI (AB hr) rfl (Ff hD ?_ Aa ?_)
  ·by_cases hc0:cap - (AC A 0 lo').toNat=0
   ·exact .inl hc0
   ·right;rw [if_neg Aa];have:=hbb.resolve_left Aa;rw [this];simp only [Option.map_some,Ds,Nat.add_mul,Nat.add_assoc]
  ·have:o + (AC A 0 lo').toNat + (cap - (AC A 0 lo').toNat)=o + cap:=Aa;rw [this];exact hbs
 ·rename_i sz' m f hy;rw [hy] at hv;obtain ⟨hb,rfl⟩:=hp;obtain ⟨b,cap,hx',hl,hh⟩:=Io hv;rw [hx'];have hres:RV e (.lst sz' ((AC A m hi').toNat - (AC A 0 lo').toNat) (fun i=>f ((AC A 0 lo').toNat + i))) (.slice (if cap=(AC A 0 lo').toNat then b else b.map (·.add ((AC A 0 lo').toNat * sz'))) ((AC A m hi').toNat - (AC A 0 lo').toNat) (cap - (AC A 0 lo').toNat)):=by
   refine Oo Aa (fun hpos=>?_);have hm0:0 < m:=by clear hh;omega
   obtain ⟨bb,o,cc,el',fz,rfl,hi,hb',hsz,hR⟩:=hh hm0;clear hh;have hmm:(AC A 0 lo').toNat * sz' + ((AC A m hi').toNat - (AC A 0 lo').toNat) * sz'≤m * sz':=by
    rw [← Nat.add_mul];exact Nat.mul_le_mul_right _ Aa
   refine ⟨bb,o + (AC A 0 lo').toNat * sz',cc,el',fz,?_,hi,hb',by omega,fun i hil=>?_⟩
   ·rw [if_neg Aa];simp [Ds]
   ·have:=hR ((AC A 0 lo').toNat + i) Aa;rw [Nat.add_mul,← Nat.add_assoc] at this;exact this
  exact Ao hI (AB (hrun b m cap hl hb)) rfl hres
 ·rename_i hy;rw [hy] at hv;obtain ⟨i1,i2,i3,i4⟩:=hp;have hx':a.eval x = .slice none 0 0:=by simpa [RV,RS,V.isAgg,R] using hv
  rw [hx'];have hr:=hrun none 0 0 (Nat.le_refl _) ⟨i1,i2,by omega,by have:((0:Nat):Int)=0:=rfl;rw [this];omega,by have:((0:Nat):Int)=0:=rfl;rw [this];omega⟩;refine Ao hI (AB hr) rfl ?_;have e0:((0:Nat):Int)=0:=rfl;rw [e0,i3,i4];simp [RV,RS,V.isAgg,R]
 ·exact hp.elim
theorem VT {c:Ctx} {e:Env} {H:Hp} {A:List V} {a:Act} (hI:Inv M c e H) (hA:FR e A a.tmps) {n:Nat} {t el:TypeId} {m sz:Nat} {x:Operand} {y:X}
 (ht:M.P.underlying t=some (.array m el)) (hx:A3 M x y=true) (hg:CJ M e y) (hp:(Ag A H n (.s2a m sz y)).pre) :
 Bm M c e n (Ag A H n (.s2a m sz y)) (Sem.run M.P (do pure (Next.value (← Instr.arrayAt t (a.eval x)))) e.w):=by
 have hv:=Az hI.φ hA hx hg;have hrun:∀ (b:Option Addr) (len cap:Nat),m≤len→(Instr.arrayAt t (.slice b len cap)).run M.P e.w = .ok (.pointer b) e.w:=by
  intro b len cap hl;have:¬ len < m:=Aa;simp [Instr.arrayAt,run_underlying ht,this]
 simp only [Ag] at hp ⊢;split at hp
 ·rename_i id p o l sz' hy;rw [hy] at hv;obtain ⟨rfl,h1,h2⟩:=hp;obtain ⟨hD,b,cap,hx',hbb,hl,hbs⟩:=Hj hv;rw [hx'];have hb:=hbb.resolve_left Aa;subst hb;exact Ao hI (AB (hrun _ _ _ h1)) rfl (HO hD rfl (by rw [CA];rfl))
 ·rename_i sz' l f hy;rw [hy] at hv;obtain ⟨rfl,h1,h2⟩:=hp;obtain ⟨b,cap,hx',hl,hh⟩:=Io hv;obtain ⟨bb,o,cc,el',fz,rfl,hi,hb',hsz,hR⟩:=hh Aa;rw [hx'];have hml:m * sz'≤l * sz':=Nat.mul_le_mul_right _ h1;refine Ao hI (AB (hrun _ _ _ h1)) rfl (Hs hi hb' (by simp only [V.size];omega) ?_);simp only [V.size,R];refine ⟨by simp;omega,fun i hi'=>?_⟩;obtain ⟨q1,q2⟩:=hR i Aa;refine ⟨q1,?_⟩;have hi2:i * sz' + sz'≤m * sz':=by
   have:(i + 1) * sz'≤m * sz':=Nat.mul_le_mul_right _ hi';rw [Nat.add_mul] at this;omega
  rw [AS _ _ _ _ _ hi2];exact q2
 ·exact hp.elim
theorem Up {c:Ctx} {e:Env} {H:Hp} {A:List V} {a:Act} (hI:Inv M c e H) (hA:FR e A a.tmps) {n:Nat} {t:Nat} {d:TypeDesc} {x:Operand} {y:X}
 (ht:M.P.underlying (M.τ t)=some d) (hd:(match d with | .interface _=>false | _=>true)=true) (hx:A3 M x y=true) (hg:CJ M e y) (hp:(Ag A H n (.mkif t y)).pre) :
 Bm M c e n (Ag A H n (.mkif t y)) (Sem.run M.P (do pure (Next.value (← Instr.makeInterface (M.τ t) (a.eval x)))) e.w):=by
 have hv:=Az hI.φ hA hx hg;simp only [Ag] at hp ⊢;rw [Bb hp] at hv;refine Ao hI (x:=.iface (M.τ t) (a.eval x)) (AB ?_) rfl ?_
 ·simp only [Instr.makeInterface,QP,run_underlying ht];cases d <;> first | rfl | cases hd
 ·simp only [RV,RS,V.isAgg,R];exact ⟨_,by rw [hI.τ],hp,by unfold RS at hv;exact hv⟩
theorem VQ {e:Env} {i:Nat}:∀ {fs:V} {xs:Array Value},RT e fs xs→fs.fhas i=true→∃ y,xs[i]?=some y∧RV e (fs.fget i) y
 | .fcons j v r, xs, h, hk => by
   simp only [RT] at h;simp only [V.fget];split
   ·rename_i hj;subst hj;obtain ⟨⟨h0,y,h1,h2⟩,_⟩:=h;exact ⟨y,h1,(Bb h0).2 h2⟩
   ·rename_i hj;simp only [V.fhas,Bool.or_eq_true,beq_iff_eq,hj,false_or] at hk;exact VQ h.2 hk
 | .junk,_,_,hk | .int ..,_,_,hk | .bool _,_,_,hk | .str _,_,_,hk | .nilp,_,_,hk | .ptr ..,_,_,hk | .imm _,_,_,hk | .nils,_,_,hk
 | .sl ..,_,_,hk | .lst ..,_,_,hk | .nilm,_,_,hk | .map _,_,_,hk | .nilf,_,_,hk | .fn ..,_,_,hk | .nili,_,_,hk | .ifc ..,_,_,hk
 | .st ..,_,_,hk | .ar ..,_,_,hk | .fnil,_,_,hk | .tup _,_,_,hk | .mp ..,_,_,hk | .fm ..,_,_,hk=>by simp [V.fhas] at hk
theorem WD {c:Ctx} {e:Env} {H:Hp} {A:List V} {a:Act} (hI:Inv M c e H) (hA:FR e A a.tmps) {n:Nat} {i:Nat} {x:Operand} {y:X}
 (hx:A3 M x y=true) (hg:CJ M e y) (hp:(Ag A H n (.ext y i)).pre) :
 Bm M c e n (Ag A H n (.ext y i)) (Sem.run M.P (do pure (Next.value (← Instr.extract (a.eval x) i))) e.w):=by
 have hv:=Az hI.φ hA hx hg;simp only [Ag] at hp ⊢;split at hp
 ·rename_i fs hy;rw [hy] at hv;simp only [RV] at hv;obtain ⟨xs,hx',hT⟩:=hv;obtain ⟨z,h1,h2⟩:=VQ hT hp;rw [hx'];refine Ao hI (x:=z) (AB ?_) rfl h2;simp [Instr.extract,h1]
 ·exact hp.elim
theorem SI {e:Env} {x:Value} (h:RV e .nils x):x = .slice none 0 0:=PU
theorem Z6 {e:Env} {s:ByteArray} {x:Value} (h:RV e (.str s) x):x = .string s:=PU
theorem Ab5 {e:Env} {x:Value} (h:RV e .nilm x):x = .map none:=PU
theorem QR {e:Env} {id:Nat} {x:Value} (h:RV e (.map id) x):e.D id∧x = .map (some (e.ρ id)):=PU
def ST:Nat→TypeDesc→Bool
 | 0,.slice _=>true
 | 1,.string=>true
 | 2,.map _ _=>true
 | _,_=>false
theorem WI {c:Ctx} {e:Env} {H:Hp} {A:List V} {a:Act} (hI:Inv M c e H) (hA:FR e A a.tmps) {n:Nat} {t ty:TypeId} {d:TypeDesc} {ts:Array TypeId} {k:Nat} {x:Operand} {y:X}
 (ht:M.P.underlying t=some d) (hts:ts[0]?=some t) (hd:ST k d=true)
 (hx:A3 M x y=true) (hg:CJ M e y) (hp:(Ag A H n (.len k y)).pre) :
 Bm M c e n (Ag A H n (.len k y)) (Sem.run M.P (do pure (Next.value (← Builtin.len_ ts ty #[a.eval x]))) e.w):=by
 have hv:=Az hI.φ hA hx hg;simp only [Ag] at hp ⊢;split at hp
 ·rename_i id p o m sz hy;rw [hy] at hv;obtain ⟨hD,b,cap,hx',_⟩:=Hj hv;rw [hx'];cases d <;> try (cases hd;done)
  refine Ao hI (x:=.int .i64 m) (AB ?_) rfl (Br _ _);simp [Builtin.len_,hts,run_underlying ht,goInt]
 ·rename_i sz m f hy;rw [hy] at hv;obtain ⟨b,cap,hx',_⟩:=Io hv;rw [hx'];cases d <;> try (cases hd;done)
  refine Ao hI (x:=.int .i64 m) (AB ?_) rfl (Br _ _);simp [Builtin.len_,hts,run_underlying ht,goInt]
 ·rename_i hy;rw [hy] at hv;rw [SI hv];cases d <;> try (cases hd;done)
  refine Ao hI (x:=.int .i64 0) (AB ?_) rfl (Br _ _);simp [Builtin.len_,hts,run_underlying ht,goInt]
 ·rename_i s hy;rw [hy] at hv;rw [Z6 hv];cases d <;> try (cases hd;done)
  refine Ao hI (x:=.int .i64 s.size) (AB ?_) rfl (Br _ _);simp [Builtin.len_,hts,run_underlying ht,goInt]
 ·rename_i hy;rw [hy] at hv;rw [Ab5 hv];cases d <;> try (cases hd;done)
  refine Ao hI (x:=.int .i64 0) (AB ?_) rfl (Br _ _);simp [Builtin.len_,hts,run_underlying ht,goInt]
 ·rename_i id hy;rw [hy] at hv;obtain ⟨hD,hx'⟩:=QR hv;rw [hx'];cases d <;> try (cases hd;done)
  split at hp
  ·rename_i m ks vs hm;obtain ⟨_,hb,_,_⟩:=hI.blk id hp;rw [hm] at hb;obtain ⟨es,clock,h1,h2,_⟩:=hb;refine Ao hI (x:=.int .i64 m) (AB ?_) rfl (Br _ _);simp [Builtin.len_,hts,run_underlying ht,goInt,getObj,Sem.run,h1,h2]
  ·exact hp.elim
 ·exact hp.elim
end Mv
namespace Mv
open Go
variable {M:Seat}
theorem Am9 {e:Env} {sz:Nat} {f:Nat→V}:R e (.ar sz 0 f) []:=by
 simp [R]
theorem Ho {e:Env} {sz n:Nat} {f:Nat→V} {cs:List Value} (hl:cs.length=n * sz) (h:∀ i,i < n→((f i).solid=true∧(f i).size=sz)∧R e (f i) ((cs.drop (i * sz)).take sz)):R e (.ar sz n f) cs:=by
 simp only [R];exact ⟨hl,h⟩
theorem Fe {i n sz:Nat} (h:i < n):i * sz + sz≤n * sz:=by
 have:(i + 1) * sz≤n * sz:=Nat.mul_le_mul_right _ h;rw [Nat.add_mul] at this;omega
theorem Gl {c:Ctx} {e:Env} {H:Hp} (hI:Inv M c e H) {y:V} {x:Value} (hv:RV e y x) {sz m:Nat} {g:Nat→V} (he:Cv H y=some (sz,m,g)) (hok:B4 H y) {n:Nat} (hn:n≤m) :
 ∃ a cap cs,x = .slice a m cap∧R e (.ar sz n g) cs∧∀ w,w.heap=e.w.heap→(Builtin.firstCells sz n x).run M.P w = .ok cs.toArray w:=by
 have hnm:n * sz≤m * sz:=Nat.mul_le_mul_right _ hn;by_cases hz:n=0
 ·subst hz;have hx:∃ a cap,x = .slice a m cap:=by
   cases y <;> simp only [Cv] at he <;> try (cases he;done)
   ·obtain ⟨hD,b,cap,hx',_⟩:=Hj hv;split at he
    ·simp only [Option.some.injEq,Prod.mk.injEq] at he;obtain ⟨_,rfl,_⟩:=he;exact ⟨_,_,hx'⟩
    ·cases he
   ·obtain ⟨b,cap,hx',_⟩:=Io hv;simp only [Option.some.injEq,Prod.mk.injEq] at he;obtain ⟨_,rfl,_⟩:=he;exact ⟨_,_,hx'⟩
  obtain ⟨a,cap,rfl⟩:=hx;refine ⟨a,cap,[],rfl,Am9,fun w _=>?_⟩;cases a <;> simp [Builtin.firstCells,loadCells,loadCellsFrom]
 ·have key:∀ (b o cap:Nat) (cc:Array Value) (el:TypeId) (fz:Nat × Nat),e.w.heap[b]?=some (.cells cc el fz)→o + n * sz≤cc.size→x = .slice (some ⟨b,o,none⟩) m cap →
   ∀ w,w.heap=e.w.heap→(Builtin.firstCells sz n x).run M.P w = .ok ((cc.toList.drop o).take (n * sz)).toArray w:=by
   intro b o cap cc el fz hb hl hx w hw;rw [hx];have hlen:((cc.toList.drop o).take (n * sz)).length=n * sz:=F6;have hc:=JT (w:=w) (b:=b) (o:=o) (n:=n * sz) (c:=cc) (by rw [hw];exact hb) hl;have:=run_loadCells_list (P:=M.P) w ⟨b,o,none⟩ _ hc;rw [hlen] at this;simpa [Builtin.firstCells] using this
  cases y <;> simp only [Cv] at he <;> try (cases he;done)
  ·rename_i id p o l s;obtain ⟨hD,b,cap,hx',hbb,hl,hbs⟩:=Hj hv;split at he;case h_2=>cases he
   rename_i s' l' f hget';simp only [Option.some.injEq,Prod.mk.injEq] at he;obtain ⟨rfl,rfl,rfl⟩:=he;simp only [B4,hget'] at hok;obtain ⟨h1,h2,h3,rfl,h5⟩:=hok;obtain ⟨cells,el',hc,hsz,hR⟩:=hI.cells h1 h2;have hlen:(cells.toList.take (hget H id).size).length=(hget H id).size:=F6;obtain ⟨g1,g2⟩:=DP hR hlen h3;rw [hlen] at g1;rw [hget'] at g1 g2;have g1':At p + l' * s'≤(hget H id).size:=g1;have hol:o * s' + n * s'≤l' * s':=by rw [← Nat.add_mul];exact Nat.mul_le_mul_right _ Aa
   have hb':=hbb.resolve_left Aa;subst hb';have hR2:R e (.ar s' n (fun i=>f (o + i))) ((cells.toList.drop (At p + o * s')).take (n * s')):=by
    have:=Nh g2 (o:=o) (m:=n) Aa;rw [show (V.ar s' l' f).size=l' * s' from rfl,AS _ _ _ _ _ hol,List.drop_take,List.take_take,Nat.min_eq_left Aa] at this;exact this
   exact ⟨_,cap,_,hx',hR2,key _ _ cap cells el' _ hc Aa hx'⟩
  ·rename_i s l f;obtain ⟨b,cap,hx',hl,hh⟩:=Io hv;simp only [Option.some.injEq,Prod.mk.injEq] at he;obtain ⟨rfl,rfl,rfl⟩:=he;obtain ⟨bb,o,cc,el',fz,rfl,hi,hb',hsz,hR⟩:=hh Aa;clear hh;refine ⟨_,cap,(cc.toList.drop o).take (n * s),hx',Ho F6 (fun i hi'=>?_),key bb o cap cc el' fz hb' Aa hx'⟩;obtain ⟨q1,q2⟩:=hR i Aa;refine ⟨q1,?_⟩;rw [AS _ _ _ _ _ (Fe hi')];exact q2
theorem LD (newLen:Nat):∀ (r c:Nat),c < newLen→256≤c→Builtin.growBy newLen r c≤2 * newLen
 | 0,c,h,_=>by simp [Builtin.growBy];omega
 | r + 1, c, h, h2 => by
   simp only [Builtin.growBy];rw [if_neg Aa];by_cases h3:c + (c + 768) / 4 < newLen
   ·exact LD newLen r _ h3 Aa
   ·cases r with
    | zero=>simp [Builtin.growBy];omega
    | succ r=>simp only [Builtin.growBy];rw [if_pos Aa];omega
theorem PZ {need cap:Nat} (h:cap < need):Builtin.nextslicecap need cap≤2 * need:=by
 unfold Builtin.nextslicecap;split
 ·omega
 ·split
  ·omega
  ·exact LD need 4 cap h Aa
theorem Pa {P:Program} (a:Option Addr) (m cap:Nat) (w:World):(Builtin.lenOf (.slice a m cap)).run P w = .ok m w:=rfl
def Lbl:=(aq4 @EP @Lag @List.getElem?_toArray.{0} @Pa)
theorem F2 {sT xT elT ty e2:TypeId} {sz bytes:Nat} {i:TypeInfo} {z:Value} {w:World} {base:Option Addr} {l cap m:Nat} {x:Value} {old new:List Value}
 (hs:M.P.underlying sT=some (.slice elT)) (hxT:M.P.underlying xT=some (.slice e2)) (hi:M.P.info? elT=some i) (hsz:i.size=sz) (hby:i.bytes=bytes) (hz:i.zero=some z) (hzc:z.cells.size=sz)
 (hold:∀ w',w'.heap=w.heap→(Builtin.firstCells sz l (.slice base l cap)).run M.P w' = .ok old.toArray w') (hx:∃ a c,x = .slice a m c) (hnew:∀ w',w'.heap=w.heap→(Builtin.firstCells sz m x).run M.P w' = .ok new.toArray w')
 (hlo:old.length=l * sz) (hln:new.length=m * sz) (hgrow:cap < l + m) (hroom:(l + m) * bytes≤2 ^ 47) (hbig:l + m < 2 ^ 62) :
 ∃ cap' rest,l + m≤cap'∧rest.size=(cap' - (l + m)) * sz∧(Builtin.append_ #[sT,xT] ty #[.slice base l cap,x]).run M.P w = .ok (.slice (some ⟨w.heap.size,0,none⟩) (l + m) cap') (w.drew.alloc (.cells (old.toArray ++ new.toArray ++ rest) elT)):=by
 subst hsz;subst hby;obtain ⟨a,cx,rfl⟩:=hx;have hnc:¬ Builtin.nextslicecap (l + m) cap * i.bytes > 2 ^ 48:=by
  have h1:=PZ hgrow;have h2:Builtin.nextslicecap (l + m) cap * i.bytes≤2 * (l + m) * i.bytes:=Nat.mul_le_mul_right _ h1;have h3:2 * (l + m) * i.bytes=2 * ((l + m) * i.bytes):=Nat.mul_assoc _ _ _;omega
 have hmax:¬ (((l + m:Nat):Int) > IntKind.i64.max):=by
  have:IntKind.i64.max=9223372036854775807:=Ab;rw [this];have:(2:Nat) ^ 62=4611686018427387904:=Ab;omega
 have hq:Question.forced (.appendCap (l + m) cap elT)=false:=rfl;refine ⟨Question.cut (.appendCap (l + m) cap elT) (w.tape w.drawn (.appendCap (l + m) cap elT)),Builtin.zeroCells z.cells (Question.cut (.appendCap (l + m) cap elT) (w.tape w.drawn (.appendCap (l + m) cap elT)) - (l + m)),?_,?_,?_⟩
 ·simp only [Question.cut];omega
 ·simp [Builtin.zeroCells,hzc]
 ·have hold':=hold w.drew rfl;have hnew':=hnew w.drew rfl;have hpn:¬ (((l + m:Nat):Int) > IntKind.i64.max∧(False ∨ i.bytes=0)):=fun h=>hmax h.1;have hnl:¬ l + m≤cap:=Aa;unfold Builtin.append_;simp only [Lbl,run_underlying hs,run_underlying hxT,Go.sizeOf,typeInfo,run_program,hi,O3];rw [if_neg hnl];simp only [EP,Sem.run_ite,run_program,hi];rw [if_neg hpn,if_neg hnc];simp only [run_choose,hq,Lbn,EP,run_askRoom,World.drew_eq,hold',Bool.not_false,hnew',zeroValue,typeInfo,run_program,hi,hz,newRow,run_newObj,World.alloc_eq,World.size_drew]
theorem IS {sT xT elT ty e2:TypeId} {sz:Nat} {i:TypeInfo} {w:World} {base:Option Addr} {l cap m:Nat} {x:Value} {new:List Value} {w':World}
 (hs:M.P.underlying sT=some (.slice elT)) (hxT:M.P.underlying xT=some (.slice e2)) (hi:M.P.info? elT=some i) (hsz:i.size=sz)
 (hx:∃ a c,x = .slice a m c) (hnew:(Builtin.firstCells sz m x).run M.P w = .ok new.toArray w) (hroom:l + m≤cap)
 (hst0:base=none→w'=w) (hst1:∀ b,base=some b→(storeCells (b.add (l * sz)) new).run M.P w = .ok () w') :
 (Builtin.append_ #[sT,xT] ty #[.slice base l cap,x]).run M.P w = .ok (.slice base (l + m) cap) w':=by
 subst hsz;obtain ⟨a,cx,rfl⟩:=hx;unfold Builtin.append_;simp only [Lbl,run_underlying hs,run_underlying hxT,Go.sizeOf,typeInfo,run_program,hi,O3];rw [if_pos hroom];simp only [QP,Bool.not_false,if_true,hnew];cases base with
 | none=>rw [hst0 rfl];rfl
 | some b=>simp only [hst1 b rfl,QP];rfl
theorem Inv.congr {c:Ctx} {e:Env} {H H':Hp} (h:Inv M c e H) (h1:∀ j,Af H' j=true→Af H j=true∧hget H' j=hget H j):Inv M c e H' :=
 ⟨h.ev,fun j hj=>by obtain ⟨a,b⟩:=h1 j hj;rw [b];exact h.blk j a,fun i j hi hj=>h.inj i j (h1 i hi).1 (h1 j hj).1,h.imo,h.imb,h.rb,h.keep,h.low,h.gs,h.φ,h.τ⟩
theorem Inv.drew {c:Ctx} {e:Env} {H:Hp} (h:Inv M c e H):e.le { e with w:=e.w.drew }∧Inv M c { e with w:=e.w.drew } H:=by
 have hle:e.le { e with w:=e.w.drew }:=⟨fun _ h=>⟨h,rfl⟩,fun _ h=>⟨h,fun _ el fz hc=>⟨el,fz,hc⟩,fun _ _ hc=>hc⟩,fun _=>Nat.le_refl _,rfl,rfl⟩
 exact ⟨hle,h.ev.drew,fun j hj=>⟨(h.blk j hj).1,D5 hle (h.blk j hj).1 rfl (h.blk j hj).2.1,(h.blk j hj).2.2⟩,h.inj,h.imo,h.imb,h.rb,h.keep,h.low,h.gs.mono hle,h.φ,h.τ⟩
def Env.also (e:Env) (n id:Nat):Env:={ e with ρ:=fun i=>if i=n then e.ρ id else e.ρ i,D:=fun i=>i=n ∨ e.D i }
theorem Inv.move {c:Ctx} {e:Env} {H:Hp} (h:Inv M c e H) {n id:Nat} (hn:¬ e.D n) (hk:c.k≤n) (hid:Af H id=true) :
 e.le (e.also n id)∧Inv M c (e.also n id) ((n,hget H id) :: CT H id):=by
 have hρ:∀ i,e.D i→(e.also n id).ρ i=e.ρ i:=fun i hi=>by
  have:i ≠ n:=fun h=>hn (h ▸ hi);simp [Env.also,this]
 have hρn:(e.also n id).ρ n=e.ρ id:=by simp [Env.also]
 have hle:e.le (e.also n id):=⟨fun i hi=>⟨.inr hi,hρ i hi⟩,fun _ h=>⟨h,fun _ el fz hc=>⟨el,fz,hc⟩,fun _ _ hc=>hc⟩,fun _=>Nat.le_refl _,rfl,rfl⟩
 obtain ⟨hD,hb,him,hO⟩:=h.blk id hid;have hnid:n ≠ id:=fun h=>hn (h ▸ hD);have key:∀ j,Af ((n,hget H id) :: CT H id) j=true→j=n ∨ (j ≠ n∧j ≠ id∧Af H j=true∧hget ((n,hget H id) :: CT H id) j=hget H j):=by
  intro j hj;by_cases hjn:j=n
  ·exact .inl hjn
  ·right;simp only [V1,beq_iff_eq] at hj;have:=hj.resolve_left (fun h'=>hjn h'.symm);rw [CX] at this;simp only [Bool.and_eq_true,bne_iff_ne,ne_eq] at this;refine ⟨hjn,this.2,this.1,?_⟩;simp only [hget,Ne.symm hjn,if_false];exact CZ _ _ this.2 H
 refine ⟨hle,h.ev,?_,?_,h.imo,h.imb,?_,h.keep,?_,h.gs.mono hle,h.φ,h.τ⟩
 ·intro j hj;rcases key j hj with rfl | ⟨h1,h2,h3,h4⟩
  ·rw [hρn];refine ⟨.inl rfl,?_,him,hO⟩;have hg:hget ((j,hget H id) :: CT H id) j=hget H id:=by simp [hget]
   rw [hg];have hb':=D5 hle hD rfl hb;have e1:(e.also j id).ρ id=e.ρ id:=hρ id hD;cases hc:hget H id;case tup fs =>
    rw [hc] at hb';cases fs;case fcons o v r=>cases v <;> cases r <;> simp only [C2,e1] at hb' <;> simp only [C2,hρn] <;> exact hb'
    all_goals (simp only [C2,e1] at hb' <;> simp only [C2,hρn] <;> exact hb')
   all_goals (rw [hc] at hb' <;> simp only [C2,e1] at hb' <;> simp only [C2,hρn] <;> exact hb')
  ·obtain ⟨a1,a2,a3,a4⟩:=h.blk j h3;rw [h4,hρ j a1];exact ⟨.inr a1,D5 hle a1 rfl a2,a3,a4⟩
 ·intro i j hi hj hij;rcases key i hi with rfl | ⟨h1,h2,h3,_⟩ <;> rcases key j hj with rfl | ⟨k1,k2,k3,_⟩
  ·rfl
  ·rw [hρn,hρ j (h.blk j k3).1] at hij;exact absurd (h.inj id j hid k3 hij).symm k2
  ·rw [hρn,hρ i (h.blk i h3).1] at hij;exact absurd (h.inj i id h3 hid hij) h2
  ·rw [hρ i (h.blk i h3).1,hρ j (h.blk j k3).1] at hij;exact h.inj i j h3 k3 hij
 ·intro j hj;rcases hj with rfl | hj
  ·rw [hρn];exact h.rb id hD
  ·rw [hρ j hj];exact h.rb j hj
 ·intro j hj;obtain ⟨h1,h2⟩:=h.low j hj;have hne:j ≠ n:=Aa;exact ⟨⟨fun h=>h1.1 (h.resolve_left hne),fun h=>.inr (h1.2 h)⟩,fun hd=>(hρ j (hd.resolve_left hne)).trans (h2 (hd.resolve_left hne))⟩
theorem Agb {e:Env} {n id:Nat}:∀ i,(e.also n id).D i→e.D i ∨ i=n:=fun _ h=>h.elim .inr .inl
theorem Al9 {e:Env} {sz l l' m:Nat} {f g:Nat→V} {cs new:List Value} {tot:Nat} (hf:R e (.ar sz l' f) (cs.take (l' * sz))) (hl:l≤l') (hg:R e (.ar sz m g) new) (hc:cs.length=tot) (hfit:(l + m) * sz≤tot) :
 R e (.ar sz (l + m) (fun i=>if i < l then f i else g (i - l))) ((A4 cs (l * sz) new).take ((l + m) * sz)):=by
 simp only [R] at hf hg;obtain ⟨hf1,hf2⟩:=hf;obtain ⟨hg1,hg2⟩:=hg;have hnew:l * sz + new.length≤cs.length:=by rw [hg1,← Nat.add_mul];omega
 refine Ho (by rw [List.length_take,AN hnew];omega) (fun i hi=>?_);have hi2:=Fe (sz:=sz) hi;have e1:(((A4 cs (l * sz) new).take ((l + m) * sz)).drop (i * sz)).take sz=((A4 cs (l * sz) new).drop (i * sz)).take sz:=by
  rw [List.drop_take,List.take_take,Nat.min_eq_left Aa]
 rw [e1];by_cases hil:i < l
 ·simp only [hil,if_true];obtain ⟨q1,q2⟩:=hf2 i Aa;refine ⟨q1,?_⟩;have hil2:=Fe (sz:=sz) hil;have hil3:=Fe (sz:=sz) (show i < l' by omega);rw [Dc hnew (.inl Aa)];rw [List.drop_take,List.take_take,Nat.min_eq_left Aa] at q2;exact q2
 ·simp only [hil,if_false];obtain ⟨q1,q2⟩:=hg2 (i - l) Aa;refine ⟨q1,?_⟩;have e2:i * sz=l * sz + (i - l) * sz:=by rw [← Nat.add_mul];congr 1;omega
  have hw:=Fe (sz:=sz) (show i - l < m by omega);have:((A4 cs (l * sz) new).drop (i * sz)).take sz=(new.drop ((i - l) * sz)).take sz:=by
   have h3:=IJ (cs:=cs) (ys:=new) (o:=l * sz) (n:=new.length) hnew rfl;have h4:=AS (A4 cs (l * sz) new) (l * sz) new.length ((i - l) * sz) sz Aa;rw [h3] at h4;rw [e2,← h4]
  rw [this];exact q2
theorem VF {c:Ctx} {e:Env} {H:Hp} {A:List V} {a:Act} (hI:Inv M c e H) (hA:FR e A a.tmps) {n:Nat} (hn:¬ e.D n) (hk:c.k≤n) {sT xT elT ty e2:TypeId} {sz bytes:Nat} {i:TypeInfo} {z:Value} {x1 x2:Operand} {y1 y2:X}
 (hs:M.P.underlying sT=some (.slice elT)) (hxT:M.P.underlying xT=some (.slice e2)) (hi:M.P.info? elT=some i) (hsz:i.size=sz) (hby:i.bytes=bytes) (hz:i.zero=some z) (hzc:z.cells.size=sz) (hbp:0 < bytes)
 (hx:A3 M x1 y1=true) (hg:CJ M e y1) (hx2:A3 M x2 y2=true) (hg2:CJ M e y2) (hp:(Ag A H n (.app sz bytes y1 y2)).pre) :
 Bm M c e n (Ag A H n (.app sz bytes y1 y2)) (Sem.run M.P (do pure (Next.value (← Builtin.append_ #[sT,xT] ty #[a.eval x1,a.eval x2]))) e.w):=by
 have hv:=Az hI.φ hA hx hg;have hv2:=Az hI.φ hA hx2 hg2;have hbig:∀ k:Nat,k * bytes≤2 ^ 47→k < 2 ^ 62:=fun k h=>by
  have:k * 1≤k * bytes:=Nat.mul_le_mul_left _ hbp;have h2:(2:Nat) ^ 47 < 2 ^ 62:=Ab;omega
 obtain ⟨hd1,hd2⟩:=hI.drew;simp only [Ag] at hp ⊢;split at hp
 ·rename_i sz' m g hy1 hy2;rw [hy1] at hv;obtain ⟨rfl,hok,hm,hroom⟩:=hp;rw [SI hv];obtain ⟨ax,cx,new,hxe,hR,hrun⟩:=Gl (M:=M) hI hv2 hy2 hok (Nat.le_refl m);have hRl:new.length=m * sz':=by simp only [R] at hR;exact hR.1
  have hold:∀ w',w'.heap=e.w.heap→(Builtin.firstCells sz' 0 (.slice none 0 0)).run M.P w' = .ok ([]:List Value).toArray w':=fun w' _=>rfl;obtain ⟨cap',rest,h1,h2,h3⟩:=F2 (M:=M) (ty:=ty) (base:=none) (l:=0) (cap:=0) hs hxT hi hsz hby hz hzc hold ⟨ax,cx,hxe⟩ hrun BF hRl Aa (by simpa using hroom) (by simpa using hbig m hroom);simp only [Nat.zero_add] at h1 h2 h3
  obtain ⟨r1,r2,r3,r4,r5⟩:=hd2.newCells hn hk (cells:=(#[]:Array Value) ++ new.toArray ++ rest) (el:=elT) (z:=.ar sz' m g) rfl (by simp [V.size,hRl]) (by
   simp only [V.size,Array.toList_append,List.nil_append,List.toList_toArray];rw [List.take_append_of_le_length Aa,List.take_of_length_le Aa]
   exact Bx hd1 hR)
  refine ⟨.slice (some ⟨e.w.heap.size,0,none⟩) m cap',_,.inl (AB ?_),Env.le_trans hd1 r1,r2,?_,FT⟩
  ·exact h3
  ·refine Ff r4 (.inr Afe) h1 ?_;rw [r3];simp only [World.size_drew] at r5 ⊢;rw [r5];simp only [At,Array.size_append,List.size_toArray,hRl,h2];rw [Nat.zero_add,Nat.zero_add,Nat.sub_mul];have:=Nat.mul_le_mul_right sz' h1;simp;omega
 ·rename_i id p o l sz'' sz' m g hy1 hy2;rw [hy1] at hv;split at hp;case h_2=>exact hp.elim
  rename_i s l' f hgt;obtain ⟨⟨rfl,rfl,rfl,rfl⟩,⟨k1,k2,k3,k4⟩,hok,hroom⟩:=hp;have k3':s=sz'':=k3;subst k3';clear k3;have hroom':(l + m) * bytes≤2 ^ 47:=hroom;obtain ⟨hD,base,cap,hx',hbb,hlc,hbs⟩:=Hj hv;rw [hx'];simp only [At,Nat.zero_mul,Nat.zero_add,Nat.add_zero] at hbb hbs;obtain ⟨ax,cx,new,hxe,hR,hrun⟩:=Gl (M:=M) hI hv2 hy2 hok (Nat.le_refl m);have hRl:new.length=m * s:=by simp only [R] at hR;exact hR.1
  obtain ⟨cells,el',hc,hsz',hRc⟩:=hI.cells k1 k2;rw [hgt] at hsz' hRc;simp only [V.size] at hsz' hRc;have hbsz:BM e.w (e.ρ id)=cells.size:=by unfold BM;rw [hc]
  rw [hbsz] at hbs;by_cases hfit:l + m≤cap
  ·have hle:(l + m) * s≤cells.size:=Nat.le_trans (Nat.mul_le_mul_right s hfit) hbs;have h1c:=JA (v:=.ar s m g) rfl hR;have hpos:l * s + new.length≤cells.size:=by rw [hRl,← Nat.add_mul];exact hle
   have hst:=run_storeCells_at M.P (e.ρ id) (l * s) el' new 0 cells e.w hc Zs h1c;simp only [Nat.add_zero] at hst;have hnew:(cells.toList.take (l * s) ++ new ++ cells.toList.drop (l * s + new.length))=A4 cells.toList (l * s) new:=rfl;rw [hnew] at hst;have hszn:(A4 cells.toList (l * s) new).toArray.size=cells.size:=by simpa using AN (cs:=cells.toList) Zs
   have hext:=Al9 (tot:=cells.size) hRc k4 hR BF hle;have hempty:cap=0→new=[]:=fun hc0=>by
    have hm0:m=0:=Aa;subst hm0;exact List.eq_nil_of_length_eq_zero (by simpa using hRl)
   have hself:cap=0→e.w.setRow (e.ρ id) (A4 cells.toList (l * s) new).toArray=e.w:=fun hc0=>by
    have:(A4 cells.toList (l * s) []).toArray=cells:=by simp [A4]
    rw [hempty hc0,this];exact setRow_self _ _ _ _ _ hc
   have hst0:base=none→e.w.setRow (e.ρ id) (A4 cells.toList (l * s) new).toArray=e.w:=fun hb=>by
    refine hself (hbb.resolve_right ?_);rw [hb];simp
   have hst1:∀ ad,base=some ad→(storeCells (ad.add (l * s)) new).run M.P e.w = .ok () (e.w.setRow (e.ρ id) (A4 cells.toList (l * s) new).toArray):=fun ad had=>by
    by_cases hc0:cap=0
    ·rw [hself hc0,hempty hc0];simp [storeCells]
    ·have hb:=hbb.resolve_left hc0;rw [had] at hb;simp only [Option.some.injEq] at hb;subst hb;simp only [Ds,Nat.zero_add];exact hst
   have hr:=IS (M:=M) (ty:=ty) (base:=base) (l:=l) (cap:=cap) hs hxT hi hsz ⟨ax,cx,hxe⟩ (hrun e.w rfl) hfit hst0 hst1;obtain ⟨r1,r2⟩:=hI.row k1 hc hszn (z:=.ar s (l + m) (fun i=>if i < l then f i else g (i - l))) rfl (by simp only [V.size];rw [hszn];exact hle) (by simpa [V.size] using hext);obtain ⟨r3,r4⟩:=r2.move (n:=n) hn hk (by rw [Cs];exact k1);rw [Ck _ _ _ k1] at r4;refine ⟨.slice base (l + m) cap,_,.inl (AB hr),Env.le_trans r1 r3,r4.congr (fun j hj=>?_),?_,Agb⟩
   ·simp only [V1,beq_iff_eq] at hj ⊢;rcases hj with hj | hj
    ·subst hj;exact ⟨.inl rfl,by simp [hget]⟩
    ·rw [CX] at hj;simp only [Bool.and_eq_true,bne_iff_ne,ne_eq] at hj;refine ⟨.inr (by rw [CX,Cs];simp [hj.1,hj.2]),?_⟩;simp only [hget];split
     ·rfl
     ·rw [CZ _ _ hj.2,CZ _ _ hj.2,BL _ _ _ hj.2]
   ·refine Ff (.inl rfl) ?_ hfit ?_
    ·rcases hbb with h | h
     ·exact .inl h
     ·right;simp [Env.also,At,h]
    ·simp only [At,Nat.zero_add,Env.also,if_true];rw [ET hc hszn,hbsz];exact hbs
  ·have hold:∀ w',w'.heap=e.w.heap→(Builtin.firstCells s l (.slice base l cap)).run M.P w' = .ok ((cells.toList.take (l * s))).toArray w':=by
    intro w' hw';by_cases hc0:cap=0
    ·have hl0:l=0:=Aa;subst hl0;cases base <;> simp [Builtin.firstCells,loadCells,loadCellsFrom]
    ·have hb:=hbb.resolve_left hc0;subst hb;have hle:l * s≤cells.size:=Nat.le_trans (Nat.mul_le_mul_right s hlc) hbs;have hlen:((cells.toList.drop 0).take (l * s)).length=l * s:=F6;have hcs:=JT (w:=w') (b:=e.ρ id) (o:=0) (n:=l * s) (c:=cells) (by rw [hw'];exact hc) (by simpa using hle);have:=run_loadCells_list (P:=M.P) w' ⟨e.ρ id,0,none⟩ _ hcs;rw [hlen] at this;simpa [Builtin.firstCells] using this
   have hls:l * s≤l' * s:=Nat.mul_le_mul_right s k4;have hlo:(cells.toList.take (l * s)).length=l * s:=F6;obtain ⟨cap',rest,h1,h2,h3⟩:=F2 (M:=M) (ty:=ty) (base:=base) (l:=l) (cap:=cap) hs hxT hi hsz hby hz hzc hold ⟨ax,cx,hxe⟩ hrun hlo hRl Aa hroom' (hbig _ hroom');have hRold:R e (.ar s l f) (cells.toList.take (l * s)):=by
    have:=Nh hRc (o:=0) (m:=l) Aa;simp only [Nat.zero_mul,List.drop_zero,Nat.zero_add] at this;rw [List.take_take,Nat.min_eq_left hls] at this;exact this
   have hRnew:R e (.ar s (l + m) (fun i=>if i < l then f i else g (i - l))) (cells.toList.take (l * s) ++ new):=by
    simp only [R] at hRold hR;refine Ho (by simp only [List.length_append,hlo,hRl,Nat.add_mul]) (fun i hi=>?_);by_cases hil:i < l
    ·simp only [hil,if_true];obtain ⟨q1,q2⟩:=hRold.2 i hil;refine ⟨q1,?_⟩;have:=Fe (sz:=s) hil;rw [List.drop_append_of_le_length Aa,List.take_append_of_le_length (by rw [List.length_drop,hlo];omega)];exact q2
    ·simp only [hil,if_false];obtain ⟨q1,q2⟩:=hR.2 (i - l) Aa;refine ⟨q1,?_⟩;have e2:i * s=(cells.toList.take (l * s)).length + (i - l) * s:=by rw [hlo,← Nat.add_mul];congr 1;omega
     rw [e2,List.drop_length_add_append];exact q2
   obtain ⟨r1,r2,r3,r4,r5⟩:=(hd2.del id).newCells hn hk (cells:=(cells.toList.take (l * s)).toArray ++ new.toArray ++ rest) (el:=elT) (z:=.ar s (l + m) (fun i=>if i < l then f i else g (i - l))) rfl (by simp only [V.size,Array.size_append,List.size_toArray,hlo,hRl,Nat.add_mul];omega) (by
    simp only [V.size,Array.toList_append,List.toList_toArray];rw [List.take_append_of_le_length (by simp only [List.length_append,hlo,hRl,Nat.add_mul];omega),List.take_of_length_le (by simp only [List.length_append,hlo,hRl,Nat.add_mul];omega)]
    exact Bx hd1 hRnew)
   refine ⟨.slice (some ⟨e.w.heap.size,0,none⟩) (l + m) cap',_,.inl (AB h3),Env.le_trans hd1 r1,r2,?_,FT⟩;refine Ff r4 (.inr Afe) h1 ?_;rw [r3];simp only [World.size_drew] at r5 ⊢;rw [r5];simp only [At,Array.size_append,List.size_toArray,hRl,hlo,h2];rw [Nat.zero_add,Nat.zero_add,Nat.sub_mul,Nat.add_mul];have:=Nat.mul_le_mul_right s h1;rw [Nat.add_mul] at this;omega
 ·exact hp.elim
end Mv
