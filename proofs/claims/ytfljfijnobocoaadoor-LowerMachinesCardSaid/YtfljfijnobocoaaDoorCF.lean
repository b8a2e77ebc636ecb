/- A part. -/
import Derived.Test.YtfljfijnobocoaaDoorCE
set_option linter.all false
namespace Mv
open Go
variable {M:Seat}
theorem CM (b o n:Nat):(⟨b,o,none⟩:Addr).add n=⟨b,o + n,none⟩:=by
 unfold Addr.add;split
 ·rename_i h;subst h;rfl
 ·rfl
theorem Mk {e:Env} {id:Nat} {p:List Stp} {x:Value} (h:RV e (.ptr id p) x):e.D id∧x = .pointer (some ⟨e.ρ id,As p,none⟩):=OH
theorem G6 {e:Env} {id:Nat} {p:List Stp} {b o:Nat} (hD:e.D id) (hb:b=e.ρ id) (ho:o=As p):RV e (.ptr id p) (.pointer (some ⟨b,o,none⟩)):=by
 subst hb;subst ho;simp [RV,RS,V.isAgg,R,hD]
theorem Ml {e:Env} {v:V} {x:Value} (h:RV e (.imm v) x):∃ b o c el fz,x = .pointer (some ⟨b,o,none⟩)∧e.im b∧e.w.heap[b]?=some (.cells c el fz)∧o + v.size≤c.size∧R e v ((c.toList.drop o).take v.size):=by
 simpa [RV,RS,V.isAgg,R] using h
theorem GA {e:Env} {v:V} {b o:Nat} {c:Array Value} {el:TypeId} {fz:Nat × Nat} (hi:e.im b) (hb:e.w.heap[b]?=some (.cells c el fz)) (hl:o + v.size≤c.size) (hR:R e v ((c.toList.drop o).take v.size)) :
 RV e (.imm v) (.pointer (some ⟨b,o,none⟩)):=by
 simp only [RV,RS,V.isAgg,R]
 exact ⟨b,o,c,el,fz,rfl,hi,hb,hl,hR⟩
theorem QM {e:Env} {v:V} {p:List Stp} {c:Array Value} {o:Nat} (hk:v.ok p) (hl:o + v.size≤c.size) (hR:R e v ((c.toList.drop o).take v.size)) :
 o + As p + (v.get p).size≤c.size∧R e (v.get p) ((c.toList.drop (o + As p)).take (v.get p).size):=by
 have hlen:((c.toList.drop o).take v.size).length=v.size:=DI
 obtain ⟨h1,h2⟩:=Ds hR hlen hk
 rw [hlen] at h1
 rw [AL _ _ _ _ _ h1] at h2
 exact ⟨by omega,h2⟩
theorem RA {c:Ctx} {e:Env} {H:Hp} {A:List V} {a:Act} (hI:Inv M c e H) (hA:FR e A a.tmps) {n:Nat} {o:Oper} {x:Operand} {y:X} (ho:o.op = .nilCheck x)
 (hx:Ay M x y=true) (hg:C5 M e y) (hp:(Ae A H n (.nilc y)).pre) :
 By M c e n (Ae A H n (.nilc y)) (Sem.run M.P (execOp a.eval o) e.w):=by
 have hv:=Ax hI.φ hA hx hg
 simp only [execOp,ho]
 simp only [Ae] at hp ⊢
 split at hp
 ·rename_i id p hy
  rw [hy] at hv
  refine Aj hI (x:=a.eval x) ?_ rfl hv
  rw [(Mk hv).2];rfl
 ·rename_i v hy
  rw [hy] at hv
  refine Aj hI (x:=a.eval x) ?_ rfl hv
  obtain ⟨b,o,_,_,_,hx',_⟩:=Ml hv
  rw [hx'];rfl
 ·rename_i f cp hy
  rw [hy] at hv
  refine Aj hI (x:=a.eval x) ?_ rfl hv
  simp only [RV,RS,V.isAgg,R,EF] at hv
  obtain ⟨xs,hx',_⟩:=hv
  rw [hx',Qv,if_pos hp];rfl
 ·rename_i t v hy
  rw [hy] at hv
  refine Aj hI (x:=a.eval x) ?_ rfl hv
  simp only [RV,RS,V.isAgg,R,EF] at hv
  obtain ⟨xs,hx',_⟩:=hv
  rw [hx'];rfl
 ·exact hp.elim
theorem St {c:Ctx} {e:Env} {H:Hp} {A:List V} {a:Act} (hI:Inv M c e H) (hA:FR e A a.tmps) {n:Nat} {s:TypeId} {fs:Array Field} {i:Nat} {f:Field} {sz:Nat} {x:Operand} {y:X}
 (hs:M.P.underlying s=some (.struct fs)) (hf:fs[i]?=some f) (hz:EG M f.type=some sz) (hz0:sz ≠ 0) (hx:Ay M x y=true) (hg:C5 M e y) (hp:(Ae A H n (.fadr f.offset y)).pre) :
 By M c e n (Ae A H n (.fadr f.offset y)) (Sem.run M.P (do pure (Next.value (← Instr.fieldAt s (a.eval x) i))) e.w):=by
 have hv:=Ax hI.φ hA hx hg
 have hrun:∀ b o,(Instr.fieldAt s (.pointer (some ⟨b,o,none⟩)) i).run M.P e.w = .ok (.pointer (some ⟨b,o + f.offset,none⟩)) e.w:=by
  intro b o
  simp only [Instr.fieldAt,ED,run_underlying hs,hf,Instr.sureAddr,fieldPlace,Bz hz,hz0,if_false,CM]
 simp only [Ae] at hp ⊢
 split at hp
 ·rename_i id p hy
  rw [hy] at hv
  obtain ⟨hD,hx'⟩:=Mk hv
  rw [hx']
  exact Aj hI (AA (hrun _ _)) rfl (G6 hD rfl (by rw [Cs];rfl))
 ·rename_i v hy
  rw [hy] at hv
  obtain ⟨b,o,cc,el,fz,hx',hi,hb,hl,hR⟩:=Ml hv
  rw [hx']
  obtain ⟨k1,k2⟩:=QM hp.2 hl hR
  simp only [As,Stp.off,Nat.add_zero] at k1 k2
  exact Aj hI (AA (hrun _ _)) rfl (GA hi hb k1 k2)
 ·exact hp.elim
theorem R0 {c:Ctx} {e:Env} {H:Hp} {A:List V} {a:Act} (hI:Inv M c e H) (hA:FR e A a.tmps) {n:Nat} {t el:TypeId} {m sz:Nat} {x x2:Operand} {y y2:X}
 (ht:M.P.underlying t=some (.array m el)) (hz:EG M el=some sz) (hx:Ay M x y=true) (hg:C5 M e y) (hx2:Ay M x2 y2=true) (hg2:C5 M e y2) (hp:(Ae A H n (.iarr m sz y y2)).pre) :
 By M c e n (Ae A H n (.iarr m sz y y2)) (Sem.run M.P (do pure (Next.value (← Instr.indexAt t (a.eval x) (a.eval x2)))) e.w):=by
 have hv:=Ax hI.φ hA hx hg
 have hv2:=Ax hI.φ hA hx2 hg2
 have hrun:∀ b o k (i:Int),0≤i→i < m→(Instr.indexAt t (.pointer (some ⟨b,o,none⟩)) (.int k i)).run M.P e.w = .ok (.pointer (some ⟨b,o + i.toNat * sz,none⟩)) e.w:=by
  intro b o k i h0 h1
  simp only [Instr.indexAt,asIntOf,Instr.sureAddr,ED,run_underlying ht]
  simp [h0,h1,Bz hz,CM]
 simp only [Ae] at hp ⊢
 split at hp
 ·rename_i id p k i hy hy2
  rw [hy] at hv;rw [hy2] at hv2
  obtain ⟨hD,hx'⟩:=Mk hv
  rw [hx',B2 hv2]
  exact Aj hI (AA (hrun _ _ _ _ hp.1 hp.2)) rfl (G6 hD rfl (by rw [Cs];rfl))
 ·rename_i v k i hy hy2
  rw [hy] at hv;rw [hy2] at hv2
  obtain ⟨b,o,cc,el',fz,hx',hi,hb,hl,hR⟩:=Ml hv
  rw [hx',B2 hv2]
  obtain ⟨k1,k2⟩:=QM hp.2.2 hl hR
  simp only [As,Stp.off,Nat.add_zero] at k1 k2
  exact Aj hI (AA (hrun _ _ _ _ hp.1.1 hp.1.2)) rfl (GA hi hb k1 k2)
 ·exact hp.elim
theorem Gm {e:Env} {id:Nat} {p:List Stp} {o len sz:Nat} {x:Value} (h:RV e (.sl id p o len sz) x):e.D id∧∃ b cap,x = .slice b len cap∧(cap=0 ∨ b=some ⟨e.ρ id,As p + o * sz,none⟩)∧len≤cap∧As p + (o + cap) * sz≤Cf e.w (e.ρ id):=by
 simp only [RV,RS,V.isAgg,R] at h
 obtain ⟨h1,b,cap,h2,h3⟩:=h
 simp only [EF] at h2
 exact ⟨h1,b,cap,h2,h3⟩
theorem Ew {e:Env} {id:Nat} {p:List Stp} {o len sz cap:Nat} {b:Option Addr} (hD:e.D id) (hb:cap=0 ∨ b=some ⟨e.ρ id,As p + o * sz,none⟩) (hl:len≤cap) (hs:As p + (o + cap) * sz≤Cf e.w (e.ρ id)):RV e (.sl id p o len sz) (.slice b len cap):=by
 simp only [RV,RS,V.isAgg,R]
 exact ⟨hD,b,cap,rfl,hb,hl,hs⟩
theorem Hl {e:Env} {sz n:Nat} {f:Nat→V} {x:Value} (h:RV e (.lst sz n f) x):∃ a cap,x = .slice a n cap∧n≤cap∧(0 < n→∃ b o c el fz,a=some ⟨b,o,none⟩∧e.im b∧e.w.heap[b]?=some (.cells c el fz)∧o + n * sz≤c.size ∧
 ∀ i,i < n→((f i).solid=true∧(f i).size=sz)∧R e (f i) ((c.toList.drop (o + i * sz)).take sz)):=by
 simp only [RV,RS,V.isAgg,R] at h
 obtain ⟨a,cap,h2,h3⟩:=h
 simp only [EF] at h2
 exact ⟨a,cap,h2,h3⟩
theorem ML {e:Env} {sz n:Nat} {f:Nat→V} {a:Option Addr} {cap:Nat} (h:n≤cap) (h2:0 < n→∃ b o c el fz,a=some ⟨b,o,none⟩∧e.im b∧e.w.heap[b]?=some (.cells c el fz)∧o + n * sz≤c.size ∧
 ∀ i,i < n→((f i).solid=true∧(f i).size=sz)∧R e (f i) ((c.toList.drop (o + i * sz)).take sz)):RV e (.lst sz n f) (.slice a n cap):=by
 simp only [RV,RS,V.isAgg,R]
 exact ⟨a,cap,rfl,h,h2⟩
theorem Wf {c:Ctx} {e:Env} {H:Hp} {A:List V} {a:Act} (hI:Inv M c e H) (hA:FR e A a.tmps) {n:Nat} {t el:TypeId} {sz:Nat} {x x2:Operand} {y y2:X}
 (ht:M.P.underlying t=some (.slice el)) (hz:EG M el=some sz) (hx:Ay M x y=true) (hg:C5 M e y) (hx2:Ay M x2 y2=true) (hg2:C5 M e y2) (hp:(Ae A H n (.isl sz y y2)).pre) :
 By M c e n (Ae A H n (.isl sz y y2)) (Sem.run M.P (do pure (Next.value (← Instr.indexAt t (a.eval x) (a.eval x2)))) e.w):=by
 have hv:=Ax hI.φ hA hx hg
 have hv2:=Ax hI.φ hA hx2 hg2
 have hrun:∀ (b:Addr) (len cap:Nat) k (i:Int),0≤i→i < len→(Instr.indexAt t (.slice (some b) len cap) (.int k i)).run M.P e.w = .ok (.pointer (some (b.add (i.toNat * sz)))) e.w:=by
  intro b len cap k i h0 h1
  simp only [Instr.indexAt,asIntOf,ED,run_underlying ht]
  simp [h0,h1,Bz hz]
 simp only [Ae] at hp ⊢
 split at hp
 ·rename_i id p o m sz' k i hy hy2
  rw [hy] at hv;rw [hy2] at hv2
  obtain ⟨⟨h0,h1⟩,rfl⟩:=hp
  obtain ⟨hD,b,cap,hx',hb,hl,_⟩:=Gm hv
  have hcap:cap ≠ 0:=Aa
  have hb':=hb.resolve_left hcap
  rw [hx',B2 hv2,hb']
  refine Aj hI (AA (hrun _ _ _ _ _ h0 h1)) rfl ?_
  rw [CM]
  exact G6 hD rfl (by rw [Cs];simp only [Stp.off,Nat.add_mul];omega)
 ·rename_i sz' m f k i hy hy2
  rw [hy] at hv;rw [hy2] at hv2
  obtain ⟨⟨h0,h1⟩,rfl⟩:=hp
  obtain ⟨b,cap,hx',hl,hh⟩:=Hl hv
  obtain ⟨bb,o,cc,el',fz,rfl,hi,hb,hsz,hR⟩:=hh Aa
  rw [hx',B2 hv2]
  refine Aj hI (AA (hrun _ _ _ _ _ h0 h1)) rfl ?_
  rw [CM]
  have hlt:i.toNat < m:=Aa
  obtain ⟨⟨_,h3⟩,h4⟩:=hR i.toNat hlt
  have hm:i.toNat * sz' + sz'≤m * sz':=by
   have:(i.toNat + 1) * sz'≤m * sz':=Nat.mul_le_mul_right _ hlt
   rw [Nat.add_mul] at this;omega
  exact GA hi hb (by rw [h3];omega) (by rw [h3];exact h4)
 ·exact hp.elim
theorem Jc {t:TypeId} {agg:Bool} {sz:Nat} (hs:EG M t=some sz) (ha:Gu M t=some agg) (w:World) {cs:Array Value} {o:Nat} (hl:o + sz≤cs.size) (h1:agg=false→sz=1) :
 (part t cs o).run M.P w = .ok (if agg then .agg ((cs.toList.drop o).take sz).toArray else cs.getD o undef) w:=by
 unfold part
 simp only [QW,Nz ha]
 cases agg with
 | true =>
   simp only [if_true,ED,Bz hs]
   congr 2
   apply Array.ext'
   simp [Array.toList_extract,List.extract_eq_take_drop]
 | false =>
   have:=h1 rfl
   subst this
   have hlt:o < cs.size:=Aa
   simp [hlt]
theorem Wa {c:Ctx} {e:Env} {H:Hp} {A:List V} {a:Act} (hI:Inv M c e H) (hA:FR e A a.tmps) {n:Nat} {t el:TypeId} {m sz:Nat} {agg:Bool} {x x2:Operand} {y y2:X}
 (ht:M.P.underlying t=some (.array m el)) (hz:EG M el=some sz) (ha:Gu M el=some agg) (hx:Ay M x y=true) (hg:C5 M e y) (hx2:Ay M x2 y2=true) (hg2:C5 M e y2) (hp:(Ae A H n (.idx m sz agg y y2)).pre) :
 By M c e n (Ae A H n (.idx m sz agg y y2)) (Sem.run M.P (do pure (Next.value (← Instr.index t (a.eval x) (a.eval x2)))) e.w):=by
 have hv:=Ax hI.φ hA hx hg
 have hv2:=Ax hI.φ hA hx2 hg2
 simp only [Ae] at hp ⊢
 split at hp
 ·rename_i sz' m' f k i hy hy2
  rw [hy] at hv;rw [hy2] at hv2
  obtain ⟨⟨h0,h1⟩,rfl,rfl,hagg⟩:=hp
  simp only [RV,RS,V.isAgg,R] at hv
  obtain ⟨cs,hx',hlen,hR⟩:=hv
  have hlt:i.toNat < m':=Aa
  obtain ⟨⟨h3,h4⟩,h5⟩:=hR i.toNat hlt
  have hm:i.toNat * sz' + sz'≤m' * sz':=by
   have:(i.toNat + 1) * sz'≤m' * sz':=Nat.mul_le_mul_right _ hlt
   rw [Nat.add_mul] at this;omega
  obtain ⟨k1,k2⟩:=Di (c:=cs.toArray) (o:=i.toNat * sz') h3 h4 hagg DI (by simpa using h5)
  refine Aj hI (AA ?_) rfl k2
  rw [hx',B2 hv2]
  simp only [Instr.index,asIntOf,ED,run_underlying ht]
  simp only [h0,h1,and_self,if_true,QW,Bz hz]
  exact Jc hz ha e.w DI k1
 ·exact hp.elim
theorem Vu {c:Ctx} {e:Env} {H:Hp} {A:List V} {a:Act} (hI:Inv M c e H) (hA:FR e A a.tmps) {n:Nat} {t:TypeId} {fs:Array Field} {i:Nat} {f:Field} {sz:Nat} {agg:Bool} {x:Operand} {y:X}
 (ht:M.P.underlying t=some (.struct fs)) (hf:fs[i]?=some f) (hz:EG M f.type=some sz) (ha:Gu M f.type=some agg) (hx:Ay M x y=true) (hg:C5 M e y) (hp:(Ae A H n (.fld f.offset sz agg y)).pre) :
 By M c e n (Ae A H n (.fld f.offset sz agg y)) (Sem.run M.P (do pure (Next.value (← Instr.field t (a.eval x) i))) e.w):=by
 have hv:=Ax hI.φ hA hx hg
 simp only [Ae] at hp ⊢
 split at hp
 ·rename_i m chn hy
  rw [hy] at hv
  obtain ⟨hh,hsol,hsz,hagg⟩:=hp
  simp only [RV,RS,V.isAgg,R] at hv
  obtain ⟨cs,hx',hlen,_,hR⟩:=hv
  obtain ⟨h1,h2⟩:=FM hR hh
  rw [hsz] at h1 h2
  obtain ⟨k1,k2⟩:=Di (c:=cs.toArray) (o:=f.offset) hsol hsz hagg (by simpa using h1) (by simpa using h2)
  refine Aj hI (AA ?_) rfl k2
  rw [hx']
  simp only [Instr.field,ED,run_underlying ht,hf,asAgg]
  exact Jc hz ha e.w (by simpa using h1) k1
 ·exact hp.elim
end Mv
