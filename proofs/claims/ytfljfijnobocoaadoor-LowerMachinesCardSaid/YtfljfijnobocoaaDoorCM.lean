/- A part. -/
import Derived.Test.YtfljfijnobocoaaDoorCL
set_option linter.all false
namespace Mv
open Go
variable {M:Seat}
theorem CN {ρ:Operand→Value} {b:Builtin} {k:Call} {ty:TypeId} {w:World} (hb:k.callee = .builtin b) :
 Sem.run M.P (do let d ← resolve ρ k ty;invoke d.target d.args) w=(builtin b k.argTypes ty (k.args.map fun | .const _=>true | _=>false) (k.args.map ρ)).run M.P w:=by
 unfold resolve
 simp only [hb]
 rfl
theorem I9 {b:Builtin} {k:Callee} (h:SQ b k=true):k = .builtin b:=by
 cases k <;> simp_all [SQ]
theorem UX {xs:Array Operand} {y1 y2:X} (h:HE M xs y1 y2=true):∃ x1 x2,xs = #[x1,x2]∧Ay M x1 y1=true∧Ay M x2 y2=true:=by
 unfold HE at h
 split at h
 ·rename_i x1 x2 hx
  simp only [Bool.and_eq_true] at h
  exact ⟨x1,x2,by apply Array.ext';simpa using hx,h.1,h.2⟩
 ·cases h
theorem Y2 {c:Ctx} {e:Env} {H:Hp} (hI:Inv M c e H) {x:Option Operand} {y:Option X} (h:Ku M x y=true):R9 M e y:=by
 cases x <;> cases y <;> first | trivial | (cases h;done) | exact Co hI h
section
variable {M:Seat} {c:Ctx} {e:Env} {H:Hp} {A:List V} {a:Act} (hI:Inv M c e H) (hA:FR e A a.tmps) {n:Nat}
include hI hA
theorem Yx {k:Call} {ty:TypeId} {kk:Nat} {y1:X} (hb:SQ .len k.callee=true) (h0:Ls M k.argTypes kk=true) (h1:(match k.args.toList with | [x1]=>Ay M x1 y1 | _=>false)=true) (hp:(Ae A H n (.len kk y1)).pre) :
 By M c e n (Ae A H n (.len kk y1)) (Sem.run M.P (do let d ← resolve a.eval k ty;invoke d.target d.args) e.w):=by
 unfold Ls at h0
 split at h0
 case h_2=>cases h0
 rename_i t hts
 split at h0
 case h_2=>cases h0
 rename_i d ht
 split at h1
 case h_2=>cases h1
 rename_i x1 hx
 have hx':k.args = #[x1]:=by apply Array.ext';simpa using hx
 rw [CN (I9 hb),hx',show (#[x1]:Array Operand).map a.eval = #[a.eval x1] from by simp]
 exact Ua hI hA ht hts h0 h1 (Co hI h1) hp
theorem WA (hn:¬ e.D n) (hk:c.k≤n) {k:Call} {ty:TypeId} {sz bytes:Nat} {y1 y2:X} (hb:SQ .append k.callee=true) (h0:(match k.argTypes.toList with | [sT,xT]=>Lp M sT xT sz bytes | _=>false)=true) (h1:HE M k.args y1 y2=true) (hp:(Ae A H n (.app sz bytes y1 y2)).pre) :
 By M c e n (Ae A H n (.app sz bytes y1 y2)) (Sem.run M.P (do let d ← resolve a.eval k ty;invoke d.target d.args) e.w):=by
 obtain ⟨x1,x2,hx,h2,h3⟩:=UX h1
 split at h0
 case h_2=>cases h0
 rename_i sT xT hts
 have hts':k.argTypes = #[sT,xT]:=by apply Array.ext';simpa using hts
 unfold Lp at h0
 split at h0
 case h_2=>cases h0
 rename_i el e2 hs hxT
 split at h0
 case h_2=>cases h0
 rename_i i hi
 simp only [Bool.and_eq_true,beq_iff_eq,decide_eq_true_eq] at h0
 obtain ⟨⟨⟨hsz,hby⟩,hbp⟩,h0⟩:=h0
 split at h0
 case h_2=>cases h0
 rename_i z hz
 rw [CN (I9 hb),hx,hts',show (#[x1,x2]:Array Operand).map a.eval = #[a.eval x1,a.eval x2] from by simp]
 exact V2 hI hA hn hk hs hxT hi hsz hby hz (by simpa using h0) hbp h2 (Co hI h2) h3 (Co hI h3) hp
theorem T0 {k:Call} {ty:TypeId} {sz:Nat} {y1 y2:X} (hb:SQ .copy k.callee=true) (h0:IV M k.argTypes sz=true) (h1:HE M k.args y1 y2=true) (hp:(Ae A H n (.copy sz y1 y2)).pre) :
 By M c e n (Ae A H n (.copy sz y1 y2)) (Sem.run M.P (do let d ← resolve a.eval k ty;invoke d.target d.args) e.w):=by
 obtain ⟨x1,x2,hx,h2,h3⟩:=UX h1
 unfold IV Ld at h0
 split at h0
 case h_2=>cases h0
 rename_i sT hts
 split at h0
 case h_2=>cases h0
 rename_i el hs
 rw [CN (I9 hb),hx,show (#[x1,x2]:Array Operand).map a.eval = #[a.eval x1,a.eval x2] from by simp]
 exact Rx (ty:=ty) hI hA hts hs (by simpa using h0) h2 (Co hI h2) h3 (Co hI h3) hp
theorem Aa4 {k:Call} {ty:TypeId} {max:Bool} {y1 y2:X} (hb:SQ (if max then .max else .min) k.callee=true) (h1:HE M k.args y1 y2=true) (hp:(Ae A H n (.mm max y1 y2)).pre) :
 By M c e n (Ae A H n (.mm max y1 y2)) (Sem.run M.P (do let d ← resolve a.eval k ty;invoke d.target d.args) e.w):=by
 obtain ⟨x1,x2,hx,h2,h3⟩:=UX h1
 have:=XO (max:=max) (ts:=k.argTypes) (ty:=ty) hI hA h2 h3 hp
 rw [CN (I9 hb),hx,show (#[x1,x2]:Array Operand).map a.eval = #[a.eval x1,a.eval x2] from by simp]
 cases max <;> exact this
theorem YM {k:Call} {ty:TypeId} {max:Bool} {y1 y2 y3 y4:X} (hb:SQ (if max then .max else .min) k.callee=true) (h1:Vx M k.args y1 y2 y3 y4=true) (hp:(Ae A H n (.mm4 max y1 y2 y3 y4)).pre) :
 By M c e n (Ae A H n (.mm4 max y1 y2 y3 y4)) (Sem.run M.P (do let d ← resolve a.eval k ty;invoke d.target d.args) e.w):=by
 unfold Vx at h1
 split at h1
 case h_2=>cases h1
 rename_i x1 x2 x3 x4 hxs
 simp only [Bool.and_eq_true] at h1
 have hx:k.args = #[x1,x2,x3,x4]:=by apply Array.ext';simpa using hxs
 have:=Wl (max:=max) (ts:=k.argTypes) (ty:=ty) hI hA h1.1.1.1 h1.1.1.2 h1.1.2 h1.2 hp
 rw [CN (I9 hb),hx,show (#[x1,x2,x3,x4]:Array Operand).map a.eval = #[a.eval x1,a.eval x2,a.eval x3,a.eval x4] from by simp]
 cases max <;> exact this
theorem Amm {f:Nat} {first xs:Array Operand} {ys:List X} (hlt:¬ f < 2000000) (h0:xs.isEmpty=true) (h1:first.size=ys.length) (h2:∀ q ∈ first.toList.zip ys,Ay M q.1 q.2=true) (hp:(Ae A H n (.mkfn f ys)).pre) :
 By M c e n (Ae A H n (.mkfn f ys)) (Sem.run M.P (do pure (Next.value (← Instr.makeFunc (.func (M.φ (f - 2000000))) (first.map a.eval) (xs.map a.eval)))) e.w):=by
 have h0':xs = #[]:=by simpa using h0
 subst h0'
 exact Amb hI hA hlt ⟨h1,h2⟩ hp
theorem V4 {f:Nat} {first xs:Array Operand} {ys:List X} (hlt:f < 1000000) (h0:first.isEmpty=true) (h1:xs.size=ys.length) (h2:∀ q ∈ xs.toList.zip ys,Ay M q.1 q.2=true) (hp:(Ae A H n (.mkfn f ys)).pre) :
 By M c e n (Ae A H n (.mkfn f ys)) (Sem.run M.P (do pure (Next.value (← Instr.makeFunc (.func (M.φ f)) (first.map a.eval) (xs.map a.eval)))) e.w):=by
 have h0':first = #[]:=by simpa using h0
 subst h0'
 exact Ru hI hA hlt ⟨h1,h2⟩ hp
end
theorem PH {c:Ctx} {e:Env} {H:Hp} {A:List V} {a:Act} (hI:Inv M c e H) (hA:FR e A a.tmps) {n:Nat} (hn:¬ e.D n) (hk:c.k≤n) {o:Oper} {lo:LO} (h:TZ M o.op lo=true) (hp:(Ae A H n lo).pre) :
 By M c e n (Ae A H n lo) (Sem.run M.P (execOp a.eval o) e.w):=by
 obtain ⟨dst,op,type,pos,after,guard⟩:=o
 simp only at h
 have hgk:∀ (place:Nat→Option (Nat × Nat)) (l:List (Nat × Operand)) (ps:List (Stp × Nat × X)),B9 M place l ps=true→KI M e ps:=by
  intro place l
  induction l with
  | nil => intro ps hps; cases ps with
    | nil=>trivial
    | cons q r=>simp [B9] at hps
  | cons p l ih => intro ps hps; cases ps with
    | nil=>trivial
    | cons q r =>
      obtain ⟨i,ox⟩:=p;obtain ⟨s,sz,xx⟩:=q
      simp only [B9,Bool.and_eq_true] at hps
      exact ⟨Co hI hps.1.2,ih r hps.2⟩
 have hzt:∀ {t:TypeId} {z:Z},Ue M t z=true→∃ x,(M.P.info? t).bind (·.zero)=some x∧z.chk x=true:=by
  intro t z hz
  unfold Ue at hz
  split at hz
  ·rename_i x hx;exact ⟨x,hx,hz⟩
  ·cases hz
 have hat:∀ {t:TypeId} {m sz:Nat},JP M t m sz=true→∃ el,M.P.underlying t=some (.array m el)∧EG M el=some sz:=by
  intro t m sz hz
  unfold JP at hz
  split at hz
  ·rename_i m' el hx;simp only [Bool.and_eq_true,beq_iff_eq] at hz;obtain ⟨rfl,hz⟩:=hz;exact ⟨el,hx,hz⟩
  ·cases hz
 have hst:∀ {t:TypeId} {sz:Nat},Ld M t sz=true→∃ el,M.P.underlying t=some (.slice el)∧EG M el=some sz:=by
  intro t sz hz
  unfold Ld at hz
  split at hz
  ·rename_i el hx;exact ⟨el,hx,by simpa using hz⟩
  ·cases hz
 by_cases hany:lo = .nope
 ·subst hany;exact (show False from hp).elim
 cases lo <;> (try (exact absurd rfl hany)) <;> simp only [TZ] at h <;> (try (cases h;done)) <;> split at h <;> (try (cases h;done)) <;> (try simp only [Lc6,beq_iff_eq,decide_eq_true_eq,Option.isNone_iff_eq_none] at h)
 ·exact Q4 hI hA h (Co hI h)
 ·exact Q4 hI hA h (Co hI h)
 ·obtain ⟨⟨h1,h2⟩,h3⟩:=h
  exact S9 hI hA h1 (Co hI h1) h2 (Co hI h2) h3 (Co hI h3) hp
 ·obtain ⟨⟨rfl,h1⟩,h2⟩:=h
  exact VT hI hA h1 (Co hI h1) h2 (Co hI h2) hp
 ·obtain ⟨⟨⟨⟨rfl,h0⟩,ht⟩,h1⟩,h2⟩:=h
  exact Yp hI hA h0 (Adq ht) h1 (Co hI h1) h2 (Co hI h2) hp
 ·obtain ⟨rfl,h1⟩:=h
  exact XL hI hA h1 (Co hI h1) hp
 ·obtain ⟨h0,h1⟩:=h
  unfold No at h0
  split at h0
  ·rename_i k' ds hd hs
   simp only [decide_eq_true_eq] at h0
   subst h0
   exact Sp hI hA hd hs h1 (Co hI h1) hp
  ·cases h0
 ·obtain ⟨x,hz,hc⟩:=hzt h
  exact PV hI hn hk hz hc
 ·exact Wo hI hA hn hk h (Co hI h) hp
 ·obtain ⟨⟨⟨h0,h1⟩,h2⟩,h3⟩:=h
  obtain ⟨x,hz,hc⟩:=hzt h0
  unfold Kz at h3
  split at h3
  ·rename_i fs ht
   split at h3
   ·rename_i pl hpl
    exact Km hI hA hz hc h1 ht hpl h3 (hgk _ _ _ h3) h2 hp
   ·cases h3
  ·rename_i m el ht
   split at h3
   ·rename_i sz hsz
    exact Kh hI hA hz hc h1 ht hsz h3 (hgk _ _ _ h3) h2 hp
   ·cases h3
  ·cases h3
 ·obtain ⟨⟨⟨⟨⟨rfl,h2⟩,rfl⟩,h4⟩,h5⟩,h6⟩:=h
  unfold Re at h6
  split at h6
  ·rename_i el ht
   simp only [Bool.and_eq_true,beq_iff_eq] at h6
   obtain ⟨⟨h0,hsz⟩,h3⟩:=h6
   obtain ⟨x,hz,hc⟩:=hzt h0
   exact SY hI hA hn hk hz hc h4 ht hsz h5 h3 (hgk _ _ _ h3) h2 hp
  ·cases h6
 ·obtain ⟨⟨h1,h2⟩,h3⟩:=h
  exact Se hI hA n h1 h2 h3 (Co hI h3) hp
 ·obtain ⟨⟨h1,h2⟩,h3⟩:=h
  exact PM hI hA n h1 h2 (Co hI h2) h3 (Co hI h3) hp
 ·exact RA hI hA rfl h (Co hI h) hp
 ·obtain ⟨h0,h1⟩:=h
  unfold Nk at h0
  split at h0
  case h_2=>cases h0
  rename_i fs hs
  split at h0
  case h_2=>cases h0
  rename_i f hf
  simp only [Bool.and_eq_true,beq_iff_eq] at h0
  obtain ⟨rfl,h0⟩:=h0
  split at h0
  case h_2=>cases h0
  rename_i sz hz
  exact St hI hA hs hf hz (by simpa using h0) h1 (Co hI h1) hp
 ·obtain ⟨⟨h0,h1⟩,h2⟩:=h
  obtain ⟨el,ht,hz⟩:=hat h0
  exact R0 hI hA ht hz h1 (Co hI h1) h2 (Co hI h2) hp
 ·obtain ⟨⟨h0,h1⟩,h2⟩:=h
  obtain ⟨el,ht,hz⟩:=hst h0
  exact Wf hI hA ht hz h1 (Co hI h1) h2 (Co hI h2) hp
 ·obtain ⟨⟨h0,h1⟩,h2⟩:=h
  unfold QU at h0
  split at h0
  case h_2=>cases h0
  rename_i m' el ht
  simp only [Bool.and_eq_true,beq_iff_eq] at h0
  obtain ⟨⟨rfl,hz⟩,ha⟩:=h0
  exact Wa hI hA ht hz ha h1 (Co hI h1) h2 (Co hI h2) hp
 ·obtain ⟨h0,h1⟩:=h
  unfold Qy at h0
  split at h0
  case h_2=>cases h0
  rename_i fs ht
  split at h0
  case h_2=>cases h0
  rename_i f hf
  simp only [Bool.and_eq_true,beq_iff_eq] at h0
  obtain ⟨⟨rfl,hz⟩,ha⟩:=h0
  exact Vu hI hA ht hf hz ha h1 (Co hI h1) hp
 ·obtain ⟨⟨⟨⟨rfl,h0⟩,h1⟩,h2⟩,h3⟩:=h
  obtain ⟨el,ht,hz⟩:=hat h0
  exact OQ hI hA ht hz h1 (Co hI h1) h2 (Y2 hI h2) h3 (Y2 hI h3) hp
 ·obtain ⟨⟨⟨⟨rfl,h0⟩,h1⟩,h2⟩,h3⟩:=h
  obtain ⟨el,ht,hz⟩:=hst h0
  exact R7 hI hA ht hz h1 (Co hI h1) h2 (Y2 hI h2) h3 (Y2 hI h3) hp
 ·obtain ⟨h0,h1⟩:=h
  obtain ⟨el,ht,hz⟩:=hat h0
  exact Uw hI hA ht h1 (Co hI h1) hp
 ·obtain ⟨⟨rfl,h0⟩,h1⟩:=h
  unfold M2 at h0
  split at h0
  ·cases h0
  ·cases h0
  ·rename_i hd1 hd2
   cases hd:M.P.underlying (M.τ _) with
   | none=>exact absurd hd hd2
   | some d=>exact Sn hI hA hd (by cases d <;> first | rfl | exact absurd hd (hd1 _)) h1 (Co hI h1) hp
 ·obtain ⟨rfl,h1⟩:=h
  exact TW hI hA h1 (Co hI h1) hp
 ·exact Yx hI hA h.1.1 h.1.2 h.2 hp
 ·exact WA hI hA hn hk h.1.1 h.1.2 h.2 hp
 ·exact T0 hI hA h.1.1 h.1.2 h.2 hp
 ·exact Aa4 hI hA h.1 h.2 hp
 ·obtain ⟨⟨h0,h1⟩,h2⟩:=h
  unfold MN at h0
  split at h0
  case h_2=>cases h0
  rename_i el ht
  split at h0
  case h_2=>cases h0
  rename_i i hi
  simp only [Bool.and_eq_true,beq_iff_eq,decide_eq_true_eq] at h0
  obtain ⟨⟨⟨⟨hsz,hby⟩,rfl⟩,hpos⟩,h0⟩:=h0
  split at h0
  case h_2=>cases h0
  rename_i x hz
  exact Rr hI hA hn hk hi hz h0 hpos ht hsz hby h1 (Co hI h1) h2 (Co hI h2) hp
 ·split at h
  ·simp only [Lc6,beq_iff_eq,decide_eq_true_eq] at h
   obtain ⟨⟨⟨⟨rfl,hlt⟩,h0⟩,h1⟩,h2⟩:=h
   exact V4 hI hA hlt h0 h1 h2 hp
  ·next hlt =>
   simp only [Lc6,beq_iff_eq,decide_eq_true_eq] at h
   obtain ⟨⟨⟨rfl,h0⟩,h1⟩,h2⟩:=h
   exact Amm hI hA hlt h0 h1 h2 hp
 ·rename_i t r
  cases r <;> simp at h
  exact Pq hI hn hk t _ _
 ·obtain ⟨⟨⟨rfl,h0⟩,h1⟩,h2⟩:=h
  unfold QD at h0
  simp only [Bool.and_eq_true] at h0
  obtain ⟨hs,h0⟩:=h0
  split at h0
  case h_2=>cases h0
  rename_i kt vt ht
  simp only [Bool.and_eq_true] at h0
  obtain ⟨hc,h0⟩:=h0
  split at h0
  case h_2=>cases h0
  rename_i x hz
  simp only [Bool.and_eq_true,beq_iff_eq] at h0
  exact Pg hI hA ht hs hc hz h0.1 h0.2 h1 (Co hI h1) h2 (Co hI h2) hp
 ·obtain ⟨⟨⟨h0,h1⟩,h2⟩,h3⟩:=h
  unfold QT at h0
  simp only [Bool.and_eq_true] at h0
  obtain ⟨hs,h0⟩:=h0
  split at h0
  case h_2=>cases h0
  rename_i kt vt ht
  exact Ry hI hA ht hs h0 h1 (Co hI h1) h2 (Co hI h2) h3 (Co hI h3) hp
 ·obtain ⟨⟨h0,h1⟩,h2⟩:=h
  exact R3 hI hA h0 h1 (Co hI h1) h2 (Co hI h2) hp
 ·obtain ⟨h0,h1⟩:=h
  unfold Zx at h1
  split at h1
  case h_2=>cases h1
  rename_i kc _ x1 x2 x3 hxs
  simp only [Bool.and_eq_true] at h1
  exact PB hI hA h0 (by apply Array.ext';simpa using hxs) h1.1.1 (Co hI h1.1.1) h1.1.2 (Co hI h1.1.2) h1.2 (Co hI h1.2) hp
 ·obtain ⟨⟨⟨h0,h6⟩,h1⟩,h2⟩:=h
  split at h2
  case h_2=>cases h2
  rename_i x hfs
  have hfs':=Array.ext' (ys:=#[x]) hfs
  exact Pp hI hA h0 h6 hfs' (by simpa using h1) h2 (Co hI h2) hp
 ·exact RG hI hA rfl h.1.1 h.1.2 (Co hI h.1.2) (List.all_eq_true.2 h.2) hp
 ·obtain ⟨h0,h1⟩:=h
  split at h1
  case h_2=>cases h1
  rename_i x hxs
  exact Nv hI hA hn hk h0 (by apply Array.ext';simpa using hxs) h1 (Co hI h1) hp
 ·obtain ⟨⟨⟨h0,h1⟩,h2⟩,h3⟩:=h
  unfold M2 at h2
  rename_i ok
  cases ok <;> simp at h0
  split at h2
  ·cases h2
  ·cases h2
  ·rename_i hd1 hd2
   cases hd:M.P.underlying _ with
   | none=>exact absurd hd hd2
   | some d=>exact Vh hI hA h1 hd (fun ms he=>hd1 ms (he ▸ hd)) h3 (Co hI h3) hp
 ·exact UJ hI hA h.1 h.2 (Co hI h.2) hp
 ·exact YM hI hA h.1 h.2 hp
 ·obtain ⟨h0,h1⟩:=h
  split at h0
  case h_2=>cases h0
  rename_i kt vt ht
  exact Ams hI hA hn hk ht h1 (Co hI h1) hp
 ·obtain ⟨h0,h1⟩:=h
  simp only [Bool.not_eq_true'] at h0
  subst h0
  exact Amu hI hA h1 (Co hI h1) hp
end Mv
