/- A part. -/
import Derived.Test.YtlfkjfonpacelaaGreatDoorIC
set_option linter.all false
namespace Mv
open Go
variable {M:Seat}
theorem El (b o n:Nat):(⟨b,o,none⟩:Addr).add n=⟨b,o + n,none⟩:=by
 unfold Addr.add;split
 ·rename_i h;subst h;rfl
 ·rfl
theorem OK {e:Env} {id:Nat} {p:List Stp} {x:Value} (h:RV e (.ptr id p) x):e.D id∧x = .pointer (some ⟨e.ρ id,Az p,none⟩):=TD
theorem Ij {e:Env} {id:Nat} {p:List Stp} {b o:Nat} (hD:e.D id) (hb:b=e.ρ id) (ho:o=Az p):RV e (.ptr id p) (.pointer (some ⟨b,o,none⟩)):=by
 subst hb;subst ho;simp [RV,RS,V.isAgg,R,hD]
theorem ON {e:Env} {v:V} {x:Value} (h:RV e (.imm v) x):∃ b o c el fz,x = .pointer (some ⟨b,o,none⟩)∧e.im b∧e.w.heap[b]?=some (.cells c el fz)∧o + v.size≤c.size∧R e v ((c.toList.drop o).take v.size):=by
 simpa [RV,RS,V.isAgg,R] using h
theorem I7 {e:Env} {v:V} {b o:Nat} {c:Array Value} {el:TypeId} {fz:Nat × Nat} (hi:e.im b) (hb:e.w.heap[b]?=some (.cells c el fz)) (hl:o + v.size≤c.size) (hR:R e v ((c.toList.drop o).take v.size)) :
 RV e (.imm v) (.pointer (some ⟨b,o,none⟩)):=by
 simp only [RV,RS,V.isAgg,R];exact ⟨b,o,c,el,fz,rfl,hi,hb,hl,hR⟩
theorem U5 {e:Env} {v:V} {p:List Stp} {c:Array Value} {o:Nat} (hk:v.ok p) (hl:o + v.size≤c.size) (hR:R e v ((c.toList.drop o).take v.size)) :
 o + Az p + (v.get p).size≤c.size∧R e (v.get p) ((c.toList.drop (o + Az p)).take (v.get p).size):=by
 have hlen:((c.toList.drop o).take v.size).length=v.size:=FY;obtain ⟨h1,h2⟩:=E7 hR hlen hk;rw [hlen] at h1;rw [Bi _ _ _ _ _ h1] at h2;exact ⟨by omega,h2⟩
theorem W7 {c:Ctx} {e:Env} {H:Hp} {A:List V} {a:Act} (hI:Inv M c e H) (hA:FR e A a.tmps) {n:Nat} {o:Oper} {x:Operand} {y:X} (ho:o.op = .nilCheck x)
 (hx:A8 M x y=true) (hg:DE M e y) (hp:(Af A H n (.nilc y)).pre) :
 BO M c e n (Af A H n (.nilc y)) (Sem.run M.P (execOp a.eval o) e.w):=by
 have hv:=A9 hI.φ hA hx hg;simp only [execOp,ho];simp only [Af] at hp ⊢;split at hp
 ·rename_i id p hy;rw [hy] at hv;refine An hI (x:=a.eval x) ?_ rfl hv;rw [(OK hv).2];rfl
 ·rename_i v hy;rw [hy] at hv;refine An hI (x:=a.eval x) ?_ rfl hv;obtain ⟨b,o,_,_,_,hx',_⟩:=ON hv;rw [hx'];rfl
 ·rename_i f cp hy;rw [hy] at hv;refine An hI (x:=a.eval x) ?_ rfl hv;simp only [RV,RS,V.isAgg,R,Gd] at hv;obtain ⟨xs,hx',_⟩:=hv;rw [hx',Sa,if_pos hp];rfl
 ·rename_i t v hy;rw [hy] at hv;refine An hI (x:=a.eval x) ?_ rfl hv;simp only [RV,RS,V.isAgg,R,Gd] at hv;obtain ⟨xs,hx',_⟩:=hv;rw [hx'];rfl
 ·exact hp.elim
theorem Xk {c:Ctx} {e:Env} {H:Hp} {A:List V} {a:Act} (hI:Inv M c e H) (hA:FR e A a.tmps) {n:Nat} {s:TypeId} {fs:Array Field} {i:Nat} {f:Field} {sz:Nat} {x:Operand} {y:X}
 (hs:M.P.underlying s=some (.struct fs)) (hf:fs[i]?=some f) (hz:Gl M f.type=some sz) (hz0:sz ≠ 0) (hx:A8 M x y=true) (hg:DE M e y) (hp:(Af A H n (.fadr f.offset y)).pre) :
 BO M c e n (Af A H n (.fadr f.offset y)) (Sem.run M.P (do pure (Next.value (← Instr.fieldAt s (a.eval x) i))) e.w):=by
 have hv:=A9 hI.φ hA hx hg;have hrun:∀ b o,(Instr.fieldAt s (.pointer (some ⟨b,o,none⟩)) i).run M.P e.w = .ok (.pointer (some ⟨b,o + f.offset,none⟩)) e.w:=by
  intro b o;simp only [Instr.fieldAt,FW,run_underlying hs,hf,Instr.sureAddr,fieldPlace,BU hz,hz0,if_false,El]
 simp only [Af] at hp ⊢;split at hp
 ·rename_i id p hy;rw [hy] at hv;obtain ⟨hD,hx'⟩:=OK hv;rw [hx'];exact An hI (AP (hrun _ _)) rfl (Ij hD rfl (by rw [Ds];rfl))
 ·rename_i v hy;rw [hy] at hv;obtain ⟨b,o,cc,el,fz,hx',hi,hb,hl,hR⟩:=ON hv;rw [hx'];obtain ⟨k1,k2⟩:=U5 hp.2 hl hR;simp only [Az,Stp.off,Nat.add_zero] at k1 k2;exact An hI (AP (hrun _ _)) rfl (I7 hi hb k1 k2)
 ·exact hp.elim
theorem WO {c:Ctx} {e:Env} {H:Hp} {A:List V} {a:Act} (hI:Inv M c e H) (hA:FR e A a.tmps) {n:Nat} {t el:TypeId} {m sz:Nat} {x x2:Operand} {y y2:X}
 (ht:M.P.underlying t=some (.array m el)) (hz:Gl M el=some sz) (hx:A8 M x y=true) (hg:DE M e y) (hx2:A8 M x2 y2=true) (hg2:DE M e y2) (hp:(Af A H n (.iarr m sz y y2)).pre) :
 BO M c e n (Af A H n (.iarr m sz y y2)) (Sem.run M.P (do pure (Next.value (← Instr.indexAt t (a.eval x) (a.eval x2)))) e.w):=by
 have hv:=A9 hI.φ hA hx hg;have hv2:=A9 hI.φ hA hx2 hg2;have hrun:∀ b o k (i:Int),0≤i→i < m→(Instr.indexAt t (.pointer (some ⟨b,o,none⟩)) (.int k i)).run M.P e.w = .ok (.pointer (some ⟨b,o + i.toNat * sz,none⟩)) e.w:=by
  intro b o k i h0 h1;simp only [Instr.indexAt,asIntOf,Instr.sureAddr,FW,run_underlying ht];simp [h0,h1,BU hz,El]
 simp only [Af] at hp ⊢;split at hp
 ·rename_i id p k i hy hy2;rw [hy] at hv;rw [hy2] at hv2;obtain ⟨hD,hx'⟩:=OK hv;rw [hx',Ce hv2];exact An hI (AP (hrun _ _ _ _ hp.1 hp.2)) rfl (Ij hD rfl (by rw [Ds];rfl))
 ·rename_i v k i hy hy2;rw [hy] at hv;rw [hy2] at hv2;obtain ⟨b,o,cc,el',fz,hx',hi,hb,hl,hR⟩:=ON hv;rw [hx',Ce hv2];obtain ⟨k1,k2⟩:=U5 hp.2.2 hl hR;simp only [Az,Stp.off,Nat.add_zero] at k1 k2;exact An hI (AP (hrun _ _ _ _ hp.1.1 hp.1.2)) rfl (I7 hi hb k1 k2)
 ·exact hp.elim
theorem Iq {e:Env} {id:Nat} {p:List Stp} {o len sz:Nat} {x:Value} (h:RV e (.sl id p o len sz) x):e.D id∧∃ b cap,x = .slice b len cap∧(cap=0 ∨ b=some ⟨e.ρ id,Az p + o * sz,none⟩)∧len≤cap∧Az p + (o + cap) * sz≤Da e.w (e.ρ id):=by
 simp only [RV,RS,V.isAgg,R] at h;obtain ⟨h1,b,cap,h2,h3⟩:=h;simp only [Gd] at h2;exact ⟨h1,b,cap,h2,h3⟩
theorem FP {e:Env} {id:Nat} {p:List Stp} {o len sz cap:Nat} {b:Option Addr} (hD:e.D id) (hb:cap=0 ∨ b=some ⟨e.ρ id,Az p + o * sz,none⟩) (hl:len≤cap) (hs:Az p + (o + cap) * sz≤Da e.w (e.ρ id)):RV e (.sl id p o len sz) (.slice b len cap):=by
 simp only [RV,RS,V.isAgg,R];exact ⟨hD,b,cap,rfl,hb,hl,hs⟩
theorem IU {e:Env} {sz n:Nat} {f:Nat→V} {x:Value} (h:RV e (.lst sz n f) x):∃ a cap,x = .slice a n cap∧n≤cap∧(0 < n→∃ b o c el fz,a=some ⟨b,o,none⟩∧e.im b∧e.w.heap[b]?=some (.cells c el fz)∧o + n * sz≤c.size ∧
 ∀ i,i < n→((f i).solid=true∧(f i).size=sz)∧R e (f i) ((c.toList.drop (o + i * sz)).take sz)):=by
 simp only [RV,RS,V.isAgg,R] at h;obtain ⟨a,cap,h2,h3⟩:=h;simp only [Gd] at h2;exact ⟨a,cap,h2,h3⟩
theorem Qx {e:Env} {sz n:Nat} {f:Nat→V} {a:Option Addr} {cap:Nat} (h:n≤cap) (h2:0 < n→∃ b o c el fz,a=some ⟨b,o,none⟩∧e.im b∧e.w.heap[b]?=some (.cells c el fz)∧o + n * sz≤c.size ∧
 ∀ i,i < n→((f i).solid=true∧(f i).size=sz)∧R e (f i) ((c.toList.drop (o + i * sz)).take sz)):RV e (.lst sz n f) (.slice a n cap):=by
 simp only [RV,RS,V.isAgg,R];exact ⟨a,cap,rfl,h,h2⟩
theorem XW {c:Ctx} {e:Env} {H:Hp} {A:List V} {a:Act} (hI:Inv M c e H) (hA:FR e A a.tmps) {n:Nat} {t el:TypeId} {sz:Nat} {x x2:Operand} {y y2:X}
 (ht:M.P.underlying t=some (.slice el)) (hz:Gl M el=some sz) (hx:A8 M x y=true) (hg:DE M e y) (hx2:A8 M x2 y2=true) (hg2:DE M e y2) (hp:(Af A H n (.isl sz y y2)).pre) :
 BO M c e n (Af A H n (.isl sz y y2)) (Sem.run M.P (do pure (Next.value (← Instr.indexAt t (a.eval x) (a.eval x2)))) e.w):=by
 have hv:=A9 hI.φ hA hx hg;have hv2:=A9 hI.φ hA hx2 hg2;have hrun:∀ (b:Addr) (len cap:Nat) k (i:Int),0≤i→i < len→(Instr.indexAt t (.slice (some b) len cap) (.int k i)).run M.P e.w = .ok (.pointer (some (b.add (i.toNat * sz)))) e.w:=by
  intro b len cap k i h0 h1;simp only [Instr.indexAt,asIntOf,FW,run_underlying ht];simp [h0,h1,BU hz]
 simp only [Af] at hp ⊢;split at hp
 ·rename_i id p o m sz' k i hy hy2;rw [hy] at hv;rw [hy2] at hv2;obtain ⟨⟨h0,h1⟩,rfl⟩:=hp;obtain ⟨hD,b,cap,hx',hb,hl,_⟩:=Iq hv;have hcap:cap ≠ 0:=Aa;have hb':=hb.resolve_left hcap;rw [hx',Ce hv2,hb'];refine An hI (AP (hrun _ _ _ _ _ h0 h1)) rfl ?_;rw [El];exact Ij hD rfl (by rw [Ds];simp only [Stp.off,Nat.add_mul];omega)
 ·rename_i sz' m f k i hy hy2;rw [hy] at hv;rw [hy2] at hv2;obtain ⟨⟨h0,h1⟩,rfl⟩:=hp;obtain ⟨b,cap,hx',hl,hh⟩:=IU hv;obtain ⟨bb,o,cc,el',fz,rfl,hi,hb,hsz,hR⟩:=hh Aa;rw [hx',Ce hv2];refine An hI (AP (hrun _ _ _ _ _ h0 h1)) rfl ?_;rw [El];have hlt:i.toNat < m:=Aa;obtain ⟨⟨_,h3⟩,h4⟩:=hR i.toNat hlt;have hm:i.toNat * sz' + sz'≤m * sz':=by
   have:(i.toNat + 1) * sz'≤m * sz':=Nat.mul_le_mul_right _ hlt;rw [Nat.add_mul] at this;omega
  exact I7 hi hb (by rw [h3];omega) (by rw [h3];exact h4)
 ·exact hp.elim
theorem KK {t:TypeId} {agg:Bool} {sz:Nat} (hs:Gl M t=some sz) (ha:I4 M t=some agg) (w:World) {cs:Array Value} {o:Nat} (hl:o + sz≤cs.size) (h1:agg=false→sz=1) :
 (part t cs o).run M.P w = .ok (if agg then .agg ((cs.toList.drop o).take sz).toArray else cs.getD o undef) w:=by
 unfold part;simp only [Vc,QJ ha];cases agg with
 | true =>
   simp only [if_true,FW,BU hs]
   congr 2
   apply Array.ext';simp [Array.toList_extract,List.extract_eq_take_drop]
 | false =>
   have:=h1 rfl;subst this;have hlt:o < cs.size:=Aa;simp [hlt]
theorem XY {c:Ctx} {e:Env} {H:Hp} {A:List V} {a:Act} (hI:Inv M c e H) (hA:FR e A a.tmps) {n:Nat} {t el:TypeId} {m sz:Nat} {agg:Bool} {x x2:Operand} {y y2:X}
 (ht:M.P.underlying t=some (.array m el)) (hz:Gl M el=some sz) (ha:I4 M el=some agg) (hx:A8 M x y=true) (hg:DE M e y) (hx2:A8 M x2 y2=true) (hg2:DE M e y2) (hp:(Af A H n (.idx m sz agg y y2)).pre) :
 BO M c e n (Af A H n (.idx m sz agg y y2)) (Sem.run M.P (do pure (Next.value (← Instr.index t (a.eval x) (a.eval x2)))) e.w):=by
 have hv:=A9 hI.φ hA hx hg;have hv2:=A9 hI.φ hA hx2 hg2;simp only [Af] at hp ⊢;split at hp
 ·rename_i sz' m' f k i hy hy2;rw [hy] at hv;rw [hy2] at hv2;obtain ⟨⟨h0,h1⟩,rfl,rfl,hagg⟩:=hp;simp only [RV,RS,V.isAgg,R] at hv;obtain ⟨cs,hx',hlen,hR⟩:=hv;have hlt:i.toNat < m':=Aa;obtain ⟨⟨h3,h4⟩,h5⟩:=hR i.toNat hlt;have hm:i.toNat * sz' + sz'≤m' * sz':=by
   have:(i.toNat + 1) * sz'≤m' * sz':=Nat.mul_le_mul_right _ hlt;rw [Nat.add_mul] at this;omega
  obtain ⟨k1,k2⟩:=E5 (c:=cs.toArray) (o:=i.toNat * sz') h3 h4 hagg FY (by simpa using h5);refine An hI (AP ?_) rfl k2;rw [hx',Ce hv2];simp only [Instr.index,asIntOf,FW,run_underlying ht];simp only [h0,h1,and_self,if_true,Vc,BU hz];exact KK hz ha e.w FY k1
 ·exact hp.elim
theorem YH {c:Ctx} {e:Env} {H:Hp} {A:List V} {a:Act} (hI:Inv M c e H) (hA:FR e A a.tmps) {n:Nat} {t:TypeId} {fs:Array Field} {i:Nat} {f:Field} {sz:Nat} {agg:Bool} {x:Operand} {y:X}
 (ht:M.P.underlying t=some (.struct fs)) (hf:fs[i]?=some f) (hz:Gl M f.type=some sz) (ha:I4 M f.type=some agg) (hx:A8 M x y=true) (hg:DE M e y) (hp:(Af A H n (.fld f.offset sz agg y)).pre) :
 BO M c e n (Af A H n (.fld f.offset sz agg y)) (Sem.run M.P (do pure (Next.value (← Instr.field t (a.eval x) i))) e.w):=by
 have hv:=A9 hI.φ hA hx hg;simp only [Af] at hp ⊢;split at hp
 ·rename_i m chn hy;rw [hy] at hv;obtain ⟨hh,hsol,hsz,hagg⟩:=hp;simp only [RV,RS,V.isAgg,R] at hv;obtain ⟨cs,hx',hlen,_,hR⟩:=hv;obtain ⟨h1,h2⟩:=H7 hR hh;rw [hsz] at h1 h2;obtain ⟨k1,k2⟩:=E5 (c:=cs.toArray) (o:=f.offset) hsol hsz hagg (by simpa using h1) (by simpa using h2);refine An hI (AP ?_) rfl k2;rw [hx'];simp only [Instr.field,FW,run_underlying ht,hf,asAgg];exact KK hz ha e.w (by simpa using h1) k1
 ·exact hp.elim
variable {M:Seat}
theorem Lt {P:Program} (w:World) (isSl:Bool) (len cap:Nat) (lo hi:Option Value) (l h:Int)
 (hlo:match lo with | none=>l=0 | some v=>∃ k,v = .int k l) (hhi:match hi with | none=>h=len | some v=>∃ k,v = .int k h)
 (h0:0≤l) (h1:l≤h) (h2:h≤cap):(Instr.sliceBounds isSl len cap lo hi none).run P w = .ok (l.toNat,h.toNat,cap) w:=by
 have hb:∀ (k:IntKind) (i:Int) (y:Nat) (code:BoundsCode),0≤i→i≤y→(Instr.sliceBound (.int k i) y code).run P w = .ok i.toNat w:=by
  intro k i y code a b;simp [Instr.sliceBound,asIntOf,a,b]
 have hle:l≤(h.toNat:Int):=Aa;unfold Instr.sliceBounds;cases lo with
 | none =>
   simp only at hlo;subst hlo;cases hi with
   | none=>simp only at hhi;subst hhi;simp
   | some v=>obtain ⟨k,rfl⟩:=hhi;simp [hb k h cap _ Aa h2]
 | some v0 =>
   obtain ⟨k0,rfl⟩:=hlo;cases hi with
   | none =>
     simp only at hhi;subst hhi;have hb':=hb k0 l len .sliceB h0 h1;simp [hb']
   | some v =>
     obtain ⟨k,rfl⟩:=hhi;have hb1:=hb k h cap (if isSl then .sliceAcap else .sliceAlen) Aa h2;have hb2:=hb k0 l h.toNat .sliceB h0 hle;simp [hb1,hb2]
def MP (M:Seat) (x:Option Operand) (y:Option X):Bool :=
 match x,y with
 | none,none=>true
 | some x,some y=>A8 M x y
 | _,_=>false
def VK (M:Seat) (e:Env):Option X→Prop
 | none=>True
 | some x=>DE M e x
theorem Kz {e:Env} (hφ:e.φ=M.φ) {A:List V} {a:Act} (hA:FR e A a.tmps) {x:Option Operand} {y:Option X} (h:MP M x y=true) (hg:VK M e y) (ho:Cf A y) (d:Int) :
 match x.map a.eval with | none=>AN A d y=d | some v=>∃ k,v = .int k (AN A d y):=by
 cases x with
 | none => cases y with
   | none=>rfl
   | some y=>cases h
 | some x => cases y with
   | none=>cases h
   | some y =>
     have hv:=A9 hφ hA h hg;simp only [Cf] at ho;simp only [Option.map_some,AN];generalize y.ev A=v at *
     cases v <;> simp only [PS] at ho;exact ⟨_,Ce hv⟩
theorem TH {c:Ctx} {e:Env} {H:Hp} {A:List V} {a:Act} (hI:Inv M c e H) (hA:FR e A a.tmps) {n:Nat} {t el:TypeId} {m sz:Nat} {x:Operand} {y:X} {lo hi:Option Operand} {lo' hi':Option X}
 (ht:M.P.underlying t=some (.array m el)) (hz:Gl M el=some sz) (hx:A8 M x y=true) (hg:DE M e y) (hlo:MP M lo lo'=true) (hglo:VK M e lo') (hhi:MP M hi hi'=true) (hghi:VK M e hi')
 (hp:(Af A H n (.slarr m sz y lo' hi')).pre) :
 BO M c e n (Af A H n (.slarr m sz y lo' hi')) (Sem.run M.P (do pure (Next.value (← Instr.sliceAt t (a.eval x) (lo.map a.eval) (hi.map a.eval) none))) e.w):=by
 have hv:=A9 hI.φ hA hx hg;have hrun:∀ (b o:Nat),(Cf A lo'∧Cf A hi'∧0≤AN A 0 lo'∧AN A 0 lo'≤AN A m hi'∧AN A m hi'≤m) →
  ∃ ad:Option Addr,((m - (AN A 0 lo').toNat=0) ∨ ad=some ⟨b,o + (AN A 0 lo').toNat * sz,none⟩) ∧
  (Instr.sliceAt t (.pointer (some ⟨b,o,none⟩)) (lo.map a.eval) (hi.map a.eval) none).run M.P e.w = .ok (.slice ad ((AN A m hi').toNat - (AN A 0 lo').toNat) (m - (AN A 0 lo').toNat)) e.w:=by
  rintro b o ⟨i1,i2,i3,i4,i5⟩;have hb:=Lt (P:=M.P) e.w false m m (lo.map a.eval) (hi.map a.eval) (AN A 0 lo') (AN A m hi') (Kz hI.φ hA hlo hglo i1 0) (Kz hI.φ hA hhi hghi i2 m) i3 i4 i5;refine ⟨some (if m=(AN A 0 lo').toNat then ⟨b,o,none⟩ else ⟨b,o + (AN A 0 lo').toNat * sz,none⟩),?_,?_⟩
  ·split
   ·left;omega
   ·right;rfl
  ·simp only [Instr.sliceAt,FW,run_underlying ht,Instr.sureAddr,hb,BU hz,El]
 simp only [Af] at hp ⊢;split at hp
 ·rename_i id p hy;rw [hy] at hv;obtain ⟨hb,h1,h2,h3,h4⟩:=hp;obtain ⟨hD,hx'⟩:=OK hv;rw [hx'];obtain ⟨ad,hcap,hr⟩:=hrun (e.ρ id) (Az p) hb;refine An hI (AP hr) rfl (FP hD hcap Aa ?_);obtain ⟨cells,el',hc,hsz,hR⟩:=hI.cells h1 h2;have hlen:(cells.toList.take (hget H id).size).length=(hget H id).size:=FY;obtain ⟨g1,g2⟩:=E7 hR hlen h3;rw [hlen] at g1;have hbs:Da e.w (e.ρ id)=cells.size:=by unfold Da;rw [hc]
  rw [hbs];generalize (hget H id).get p=v at *
  cases v <;> simp only at h4;obtain ⟨rfl,rfl⟩:=h4;rename_i sz' m' f;have g1':Az p + m' * sz'≤(hget H id).size:=g1;have:((AN A 0 lo').toNat + (m' - (AN A 0 lo').toNat))=m':=Aa;rw [this];exact Nat.le_trans g1' hsz
 ·rename_i v hy;rw [hy] at hv;cases v <;> simp only [Ci] at hp;rename_i sz' m' f;obtain ⟨hb,rfl,rfl⟩:=hp;obtain ⟨b,o,cc,el',fz,hx',hi,hbb,hl,hR⟩:=ON hv;rw [hx'];obtain ⟨ad,hcap,hr⟩:=hrun b o hb;refine An hI (AP hr) rfl (Qx Aa (fun hpos=>?_));have had:=hcap.resolve_left Aa;simp only [V.size] at hl hR;have hpt:=Pz hR (o:=(AN A 0 lo').toNat) (m:=(AN A m' hi').toNat - (AN A 0 lo').toNat) Aa;have hmm:(AN A 0 lo').toNat * sz' + ((AN A m' hi').toNat - (AN A 0 lo').toNat) * sz'≤m' * sz':=by
   rw [← Nat.add_mul];exact Nat.mul_le_mul_right _ Aa
  rw [Bi _ _ _ _ _ hmm] at hpt;simp only [R] at hpt;refine ⟨b,o + (AN A 0 lo').toNat * sz',cc,el',fz,by rw [had],hi,hbb,by omega,fun i hil=>?_⟩;obtain ⟨q1,q2⟩:=hpt.2 i hil;refine ⟨q1,?_⟩;have hi2:i * sz' + sz'≤((AN A m' hi').toNat - (AN A 0 lo').toNat) * sz':=by
   have:(i + 1) * sz'≤((AN A m' hi').toNat - (AN A 0 lo').toNat) * sz':=Nat.mul_le_mul_right _ hil;rw [Nat.add_mul] at this;omega
  rw [Bi _ _ _ _ _ hi2] at q2;exact q2
 ·exact hp.elim
theorem Xr {c:Ctx} {e:Env} {H:Hp} {A:List V} {a:Act} (hI:Inv M c e H) (hA:FR e A a.tmps) {n:Nat} {t el:TypeId} {sz:Nat} {x:Operand} {y:X} {lo hi:Option Operand} {lo' hi':Option X}
 (ht:M.P.underlying t=some (.slice el)) (hz:Gl M el=some sz) (hx:A8 M x y=true) (hg:DE M e y) (hlo:MP M lo lo'=true) (hglo:VK M e lo') (hhi:MP M hi hi'=true) (hghi:VK M e hi')
 (hp:(Af A H n (.slsl sz y lo' hi')).pre) :
 BO M c e n (Af A H n (.slsl sz y lo' hi')) (Sem.run M.P (do pure (Next.value (← Instr.sliceAt t (a.eval x) (lo.map a.eval) (hi.map a.eval) none))) e.w):=by
 have hv:=A9 hI.φ hA hx hg;have hrun:∀ (b:Option Addr) (len cap:Nat),len≤cap→(Cf A lo'∧Cf A hi'∧0≤AN A 0 lo'∧AN A 0 lo'≤AN A len hi'∧AN A len hi'≤len) →
  (Instr.sliceAt t (.slice b len cap) (lo.map a.eval) (hi.map a.eval) none).run M.P e.w = .ok (.slice (if cap=(AN A 0 lo').toNat then b else b.map (·.add ((AN A 0 lo').toNat * sz))) ((AN A len hi').toNat - (AN A 0 lo').toNat) (cap - (AN A 0 lo').toNat)) e.w:=by
  rintro b len cap hlc ⟨i1,i2,i3,i4,i5⟩;have hb:=Lt (P:=M.P) e.w true len cap (lo.map a.eval) (hi.map a.eval) (AN A 0 lo') (AN A len hi') (Kz hI.φ hA hlo hglo i1 0) (Kz hI.φ hA hhi hghi i2 len) i3 i4 Aa;simp only [Instr.sliceAt,FW,run_underlying ht,Instr.slice,hb,BU hz]
 simp only [Af] at hp ⊢;split at hp
 ·rename_i id p o m sz' hy;rw [hy] at hv;obtain ⟨hb,rfl⟩:=hp;obtain ⟨hD,b,cap,hx',hbb,hl,hbs⟩:=Iq hv;rw [hx'];have hr:=hrun b m cap hl hb;refine An hI (AP hr) rfl (FP hD ?_ Aa ?_)
  ·by_cases hc0:cap - (AN A 0 lo').toNat=0
   ·exact .inl hc0
   ·right;rw [if_neg Aa];have:=hbb.resolve_left Aa;rw [this];simp only [Option.map_some,El,Nat.add_mul,Nat.add_assoc]
  ·have:o + (AN A 0 lo').toNat + (cap - (AN A 0 lo').toNat)=o + cap:=Aa;rw [this];exact hbs
 ·rename_i sz' m f hy;rw [hy] at hv;obtain ⟨hb,rfl⟩:=hp;obtain ⟨b,cap,hx',hl,hh⟩:=IU hv;rw [hx'];have hres:RV e (.lst sz' ((AN A m hi').toNat - (AN A 0 lo').toNat) (fun i=>f ((AN A 0 lo').toNat + i))) (.slice (if cap=(AN A 0 lo').toNat then b else b.map (·.add ((AN A 0 lo').toNat * sz'))) ((AN A m hi').toNat - (AN A 0 lo').toNat) (cap - (AN A 0 lo').toNat)):=by
   refine Qx Aa (fun hpos=>?_);have hm0:0 < m:=by clear hh;omega
   obtain ⟨bb,o,cc,el',fz,rfl,hi,hb',hsz,hR⟩:=hh hm0;clear hh;have hmm:(AN A 0 lo').toNat * sz' + ((AN A m hi').toNat - (AN A 0 lo').toNat) * sz'≤m * sz':=by
    rw [← Nat.add_mul];exact Nat.mul_le_mul_right _ Aa
   refine ⟨bb,o + (AN A 0 lo').toNat * sz',cc,el',fz,?_,hi,hb',by omega,fun i hil=>?_⟩
   ·rw [if_neg Aa];simp [El]
   ·have:=hR ((AN A 0 lo').toNat + i) Aa;rw [Nat.add_mul,← Nat.add_assoc] at this;exact this
  exact An hI (AP (hrun b m cap hl hb)) rfl hres
 ·rename_i hy;rw [hy] at hv;obtain ⟨i1,i2,i3,i4⟩:=hp;have hx':a.eval x = .slice none 0 0:=by simpa [RV,RS,V.isAgg,R] using hv
  rw [hx'];have hr:=hrun none 0 0 (Nat.le_refl _) ⟨i1,i2,by omega,by have:((0:Nat):Int)=0:=rfl;rw [this];omega,by have:((0:Nat):Int)=0:=rfl;rw [this];omega⟩;refine An hI (AP hr) rfl ?_;have e0:((0:Nat):Int)=0:=rfl;rw [e0,i3,i4];simp [RV,RS,V.isAgg,R]
 ·exact hp.elim
theorem YB {c:Ctx} {e:Env} {H:Hp} {A:List V} {a:Act} (hI:Inv M c e H) (hA:FR e A a.tmps) {n:Nat} {t el:TypeId} {m sz:Nat} {x:Operand} {y:X}
 (ht:M.P.underlying t=some (.array m el)) (hx:A8 M x y=true) (hg:DE M e y) (hp:(Af A H n (.s2a m sz y)).pre) :
 BO M c e n (Af A H n (.s2a m sz y)) (Sem.run M.P (do pure (Next.value (← Instr.arrayAt t (a.eval x)))) e.w):=by
 have hv:=A9 hI.φ hA hx hg;have hrun:∀ (b:Option Addr) (len cap:Nat),m≤len→(Instr.arrayAt t (.slice b len cap)).run M.P e.w = .ok (.pointer b) e.w:=by
  intro b len cap hl;have:¬ len < m:=Aa;simp [Instr.arrayAt,run_underlying ht,this]
 simp only [Af] at hp ⊢;split at hp
 ·rename_i id p o l sz' hy;rw [hy] at hv;obtain ⟨rfl,h1,h2⟩:=hp;obtain ⟨hD,b,cap,hx',hbb,hl,hbs⟩:=Iq hv;rw [hx'];have hb:=hbb.resolve_left Aa;subst hb;exact An hI (AP (hrun _ _ _ h1)) rfl (Ij hD rfl (by rw [Ds];rfl))
 ·rename_i sz' l f hy;rw [hy] at hv;obtain ⟨rfl,h1,h2⟩:=hp;obtain ⟨b,cap,hx',hl,hh⟩:=IU hv;obtain ⟨bb,o,cc,el',fz,rfl,hi,hb',hsz,hR⟩:=hh Aa;rw [hx'];have hml:m * sz'≤l * sz':=Nat.mul_le_mul_right _ h1;refine An hI (AP (hrun _ _ _ h1)) rfl (I7 hi hb' (by simp only [V.size];omega) ?_);simp only [V.size,R];refine ⟨by simp;omega,fun i hi'=>?_⟩;obtain ⟨q1,q2⟩:=hR i Aa;refine ⟨q1,?_⟩;have hi2:i * sz' + sz'≤m * sz':=by
   have:(i + 1) * sz'≤m * sz':=Nat.mul_le_mul_right _ hi';rw [Nat.add_mul] at this;omega
  rw [Bi _ _ _ _ _ hi2];exact q2
 ·exact hp.elim
theorem X0 {c:Ctx} {e:Env} {H:Hp} {A:List V} {a:Act} (hI:Inv M c e H) (hA:FR e A a.tmps) {n:Nat} {t:Nat} {d:TypeDesc} {x:Operand} {y:X}
 (ht:M.P.underlying (M.τ t)=some d) (hd:(match d with | .interface _=>false | _=>true)=true) (hx:A8 M x y=true) (hg:DE M e y) (hp:(Af A H n (.mkif t y)).pre) :
 BO M c e n (Af A H n (.mkif t y)) (Sem.run M.P (do pure (Next.value (← Instr.makeInterface (M.τ t) (a.eval x)))) e.w):=by
 have hv:=A9 hI.φ hA hx hg;simp only [Af] at hp ⊢;rw [Bh hp] at hv;refine An hI (x:=.iface (M.τ t) (a.eval x)) (AP ?_) rfl ?_
 ·simp only [Instr.makeInterface,Vc,run_underlying ht];cases d <;> first | rfl | cases hd
 ·simp only [RV,RS,V.isAgg,R];exact ⟨_,by rw [hI.τ],hp,by unfold RS at hv;exact hv⟩
theorem Aaz {e:Env} {i:Nat}:∀ {fs:V} {xs:Array Value},RT e fs xs→fs.fhas i=true→∃ y,xs[i]?=some y∧RV e (fs.fget i) y
 | .fcons j v r, xs, h, hk => by
   simp only [RT] at h;simp only [V.fget];split
   ·rename_i hj;subst hj;obtain ⟨⟨h0,y,h1,h2⟩,_⟩:=h;exact ⟨y,h1,(Bh h0).2 h2⟩
   ·rename_i hj;simp only [V.fhas,Bool.or_eq_true,beq_iff_eq,hj,false_or] at hk;exact Aaz h.2 hk
 | .junk,_,_,hk | .int ..,_,_,hk | .bool _,_,_,hk | .str _,_,_,hk | .nilp,_,_,hk | .ptr ..,_,_,hk | .imm _,_,_,hk | .nils,_,_,hk
 | .sl ..,_,_,hk | .lst ..,_,_,hk | .nilm,_,_,hk | .map _,_,_,hk | .nilf,_,_,hk | .fn ..,_,_,hk | .nili,_,_,hk | .ifc ..,_,_,hk
 | .st ..,_,_,hk | .ar ..,_,_,hk | .fnil,_,_,hk | .tup _,_,_,hk | .mp ..,_,_,hk | .fm ..,_,_,hk=>by simp [V.fhas] at hk
theorem Yi {c:Ctx} {e:Env} {H:Hp} {A:List V} {a:Act} (hI:Inv M c e H) (hA:FR e A a.tmps) {n:Nat} {i:Nat} {x:Operand} {y:X}
 (hx:A8 M x y=true) (hg:DE M e y) (hp:(Af A H n (.ext y i)).pre) :
 BO M c e n (Af A H n (.ext y i)) (Sem.run M.P (do pure (Next.value (← Instr.extract (a.eval x) i))) e.w):=by
 have hv:=A9 hI.φ hA hx hg;simp only [Af] at hp ⊢;split at hp
 ·rename_i fs hy;rw [hy] at hv;simp only [RV] at hv;obtain ⟨xs,hx',hT⟩:=hv;obtain ⟨z,h1,h2⟩:=Aaz hT hp;rw [hx'];refine An hI (x:=z) (AP ?_) rfl h2;simp [Instr.extract,h1]
 ·exact hp.elim
theorem Ve {e:Env} {x:Value} (h:RV e .nils x):x = .slice none 0 0:=TD
theorem Ac7 {e:Env} {s:ByteArray} {x:Value} (h:RV e (.str s) x):x = .string s:=TD
theorem Ag6 {e:Env} {x:Value} (h:RV e .nilm x):x = .map none:=TD
theorem SQ {e:Env} {id:Nat} {x:Value} (h:RV e (.map id) x):e.D id∧x = .map (some (e.ρ id)):=TD
def Vd:Nat→TypeDesc→Bool
 | 0,.slice _=>true
 | 1,.string=>true
 | 2,.map _ _=>true
 | _,_=>false
theorem XQ {c:Ctx} {e:Env} {H:Hp} {A:List V} {a:Act} (hI:Inv M c e H) (hA:FR e A a.tmps) {n:Nat} {t ty:TypeId} {d:TypeDesc} {ts:Array TypeId} {k:Nat} {x:Operand} {y:X}
 (ht:M.P.underlying t=some d) (hts:ts[0]?=some t) (hd:Vd k d=true)
 (hx:A8 M x y=true) (hg:DE M e y) (hp:(Af A H n (.len k y)).pre) :
 BO M c e n (Af A H n (.len k y)) (Sem.run M.P (do pure (Next.value (← Builtin.len_ ts ty #[a.eval x]))) e.w):=by
 have hv:=A9 hI.φ hA hx hg;simp only [Af] at hp ⊢;split at hp
 ·rename_i id p o m sz hy;rw [hy] at hv;obtain ⟨hD,b,cap,hx',_⟩:=Iq hv;rw [hx'];cases d <;> try (cases hd;done)
  refine An hI (x:=.int .i64 m) (AP ?_) rfl (BH _ _);simp [Builtin.len_,hts,run_underlying ht,goInt]
 ·rename_i sz m f hy;rw [hy] at hv;obtain ⟨b,cap,hx',_⟩:=IU hv;rw [hx'];cases d <;> try (cases hd;done)
  refine An hI (x:=.int .i64 m) (AP ?_) rfl (BH _ _);simp [Builtin.len_,hts,run_underlying ht,goInt]
 ·rename_i hy;rw [hy] at hv;rw [Ve hv];cases d <;> try (cases hd;done)
  refine An hI (x:=.int .i64 0) (AP ?_) rfl (BH _ _);simp [Builtin.len_,hts,run_underlying ht,goInt]
 ·rename_i s hy;rw [hy] at hv;rw [Ac7 hv];cases d <;> try (cases hd;done)
  refine An hI (x:=.int .i64 s.size) (AP ?_) rfl (BH _ _);simp [Builtin.len_,hts,run_underlying ht,goInt]
 ·rename_i hy;rw [hy] at hv;rw [Ag6 hv];cases d <;> try (cases hd;done)
  refine An hI (x:=.int .i64 0) (AP ?_) rfl (BH _ _);simp [Builtin.len_,hts,run_underlying ht,goInt]
 ·rename_i id hy;rw [hy] at hv;obtain ⟨hD,hx'⟩:=SQ hv;rw [hx'];cases d <;> try (cases hd;done)
  split at hp
  ·rename_i m ks vs hm;obtain ⟨_,hb,_,_⟩:=hI.blk id hp;rw [hm] at hb;obtain ⟨es,clock,h1,h2,_⟩:=hb;refine An hI (x:=.int .i64 m) (AP ?_) rfl (BH _ _);simp [Builtin.len_,hts,run_underlying ht,goInt,getObj,Sem.run,h1,h2]
  ·exact hp.elim
 ·exact hp.elim
end Mv
