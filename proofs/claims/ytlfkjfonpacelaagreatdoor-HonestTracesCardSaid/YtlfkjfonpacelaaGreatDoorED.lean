/- A part. -/
import Derived.Test.YtlfkjfonpacelaaGreatDoorEC
set_option linter.all false
namespace Mv
open Go
variable {M:Seat}
theorem AH {P:Program} {s:Sem Value} {w w':World} {x:Value} (h:s.run P w = .ok x w'):(do pure (Next.value (← s)):Sem Next).run P w = .ok (.value x) w':=by
 rw [Sem.run_bind,h];rfl
theorem FE {t:TypeId} {x:Value} (h:(M.P.info? t).bind (·.zero)=some x) (w:World):(zeroValue t).run M.P w = .ok x w:=by
 cases hi:M.P.info? t with
 | none=>simp [hi] at h
 | some i=>simp [hi] at h;simp [zeroValue,typeInfo,hi,h]
theorem Inv.newCells {c:Ctx} {e:Env} {H:Hp} (hI:Inv M c e H) {n:Nat} (hn:¬ e.D n) (hk:c.k≤n) {cells:Array Value} {el:TypeId} {z:V} (hs:z.solid=true) (hsz:z.size≤cells.size) (hR:R e z (cells.toList.take z.size)) :
 e.le (e.new n (.cells cells el))∧Inv M c (e.new n (.cells cells el)) ((n,z) :: H)∧(e.new n (.cells cells el)).ρ n=e.w.heap.size∧(e.new n (.cells cells el)).D n∧CG (e.new n (.cells cells el)).w e.w.heap.size=cells.size:=by
 have hle:=Env.le_new (.cells cells el) hn hI.imlt
 have hρ:(e.new n (.cells cells el)).ρ n=e.w.heap.size:=TQ
 have hh:(e.new n (.cells cells el)).w.heap[e.w.heap.size]?=some (.cells cells el):=CA _ _
 refine ⟨hle,hI.new hn hk ((CB hs).2 ⟨cells,el,by rw [hρ];exact hh,hsz,Cc hle hR⟩),hρ,.inl rfl,?_⟩
 unfold CG;rw [hh]
theorem GA {e:Env} {n:Nat} {o:Obj}:∀ id,(e.new n o).D id→e.D id ∨ id=n:=fun _ h=>h.elim .inr .inl
theorem Mf {e:Env} {n:Nat} (hD:e.D n) {b:Nat} (hρ:e.ρ n=b):RV e (.ptr n []) (.pointer (some ⟨b,0,none⟩)):=by
 subst hρ;simp [RV,RS,V.isAgg,R,Aq,hD]
theorem R4 {c:Ctx} {e:Env} {H:Hp} {A:List V} (hI:Inv M c e H) {n:Nat} (hn:¬ e.D n) (hk:c.k≤n) {t:TypeId} {z:Z} {x:Value} (hz:(M.P.info? t).bind (·.zero)=some x) (hzc:z.chk x=true) :
 B6 M c e n (Ae A H n (.alloc z)) (Sem.run M.P (do pure (Next.value (← Instr.alloc t true (.tuple #[])))) e.w):=by
 obtain ⟨h1,h2,h3,h4⟩:=Z.chk_R e hzc
 obtain ⟨r1,r2,r3,r4,_⟩:=hI.newCells hn hk (cells:=x.cells) (el:=t) h3 Aa (by rw [h4,List.take_of_length_le EP];exact h2)
 refine ⟨_,_,.inl (AH ?_),r1,r2,Mf r4 r3,GA⟩
 simp only [Instr.alloc,F3,FE hz,newVar,newRow,run_newObj]
 rfl
theorem VL {c:Ctx} {e:Env} {H:Hp} {A:List V} {a:Act} (hI:Inv M c e H) (hA:FR e A a.tmps) {n:Nat} (hn:¬ e.D n) (hk:c.k≤n) {t:TypeId} {x:Operand} {y:X}
 (hx:A3 M x y=true) (hg:Do M e y) (hp:(Ae A H n (.box y)).pre) :
 B6 M c e n (Ae A H n (.box y)) (Sem.run M.P (do pure (Next.value (← Instr.box t (a.eval x)))) e.w):=by
 have hv:=A4 hI.φ hA hx hg
 simp only [Ae] at hp ⊢
 rw [AR hp] at hv
 have hRy:=KD hp hv
 have hyl:=Me hp hRy
 generalize a.eval x=xv at *
 have hyl':xv.cells.size=(y.ev A).size:=by simpa using hyl
 obtain ⟨r1,r2,r3,r4,_⟩:=hI.newCells hn hk (cells:=xv.cells) (el:=t) hp Aa (by rw [List.take_of_length_le Aa];exact hRy)
 refine ⟨_,_,.inl (AH ?_),r1,r2,Mf r4 r3,GA⟩
 simp only [Instr.box,newVar,newRow,F3,run_newObj]
 rfl
theorem SA {c:Ctx} {e:Env} {H:Hp} {A:List V} {a:Act} (hI:Inv M c e H) (hA:FR e A a.tmps) {n:Nat} {x:Operand} {y:X} (hx:A3 M x y=true) (hg:Do M e y) :
 B6 M c e n (Ae A H n (.mv y)) (Sem.run M.P (pure (Next.value (a.eval x))) e.w) :=
 Ag hI rfl rfl (A4 hI.φ hA hx hg)
theorem Fp {e:Env} {b:Bool} {x:Value} (h:RV e (.bool b) x):x = .bool b:=QI
theorem BN {e:Env} {k:IntKind} {i:Int} {x:Value} (h:RV e (.int k i) x):x = .int k i:=QI
theorem CD {e:Env} (b:Bool):RV e (.bool b) (.bool b):=by simp [RV,RS,V.isAgg,R]
theorem By {e:Env} (k:IntKind) (i:Int):RV e (.int k i) (.int k i):=by simp [RV,RS,V.isAgg,R]
theorem Us {c:Ctx} {e:Env} {H:Hp} {A:List V} {a:Act} (hI:Inv M c e H) (hA:FR e A a.tmps) {n:Nat} {x1 x2 x3:Operand} {y1 y2 y3:X}
 (h1:A3 M x1 y1=true) (g1:Do M e y1) (h2:A3 M x2 y2=true) (g2:Do M e y2) (h3:A3 M x3 y3=true) (g3:Do M e y3) (hp:(Ae A H n (.pick y1 y2 y3)).pre) :
 B6 M c e n (Ae A H n (.pick y1 y2 y3)) (Sem.run M.P (do pure (.value (if ← asBool (a.eval x1) then a.eval x2 else a.eval x3))) e.w):=by
 have v1:=A4 hI.φ hA h1 g1
 have v2:=A4 hI.φ hA h2 g2
 have v3:=A4 hI.φ hA h3 g3
 simp only [Ae] at hp ⊢
 split at hp
 ·rename_i t hy
  simp only [hy] at *
  have e1:=Fp v1
  refine Ag hI (x:=if t then a.eval x2 else a.eval x3) ?_ rfl ?_
  ·rw [e1]
   simp only [asBool,F3]
  ·simp only [FF]
   split
   ·rename_i p q hp' hq'
    rw [hp'] at v2
    rw [hq'] at v3
    rw [Fp v2,Fp v3]
    cases t <;> simp [CD]
   ·cases t
    ·exact v3
    ·exact v2
 ·exact hp.elim
theorem Je {P:Program} {w:World} (op:BinOp) (t:TypeId) (x y:Operand) (k k':IntKind) (i j:Int):(eqGuard op t x y (.int k i) (.int k' j)).run P w = .ok () w:=by
 unfold eqGuard
 cases op <;> rfl
theorem Wn {c:Ctx} {e:Env} {H:Hp} {A:List V} {a:Act} (hI:Inv M c e H) (hA:FR e A a.tmps) {n:Nat} {t:TypeId} {op:BinOp} {x1 x2:Operand} {y1 y2:X}
 (h1:A3 M x1 y1=true) (g1:Do M e y1) (h2:A3 M x2 y2=true) (g2:Do M e y2) (hp:(Ae A H n (.ari op y1 y2)).pre) :
 B6 M c e n (Ae A H n (.ari op y1 y2)) (Sem.run M.P (do pure (Next.value (← (do eqGuard op t x1 x2 (a.eval x1) (a.eval x2);binOp op t (a.eval x1) (a.eval x2))))) e.w):=by
 have v1:=A4 hI.φ hA h1 g1
 have v2:=A4 hI.φ hA h2 g2
 simp only [Ae,AX] at hp ⊢
 split at hp
 ·rename_i k i k' j hy1 hy2
  rw [hy1] at v1
  rw [hy2] at v2
  have e1:=BN v1
  have e2:=BN v2
  rw [e1,e2]
  have hguard:=Je (P:=M.P) (w:=e.w) op t x1 x2 k k' i j
  cases op <;> simp only at hp ⊢
  case shl =>
   refine Ag hI (x:=.int k (k.wrap (i * 2 ^ min j.toNat k.bits))) (AH ?_) rfl (By _ _)
   rw [Sem.run_bind,hguard]
   have:¬ j < 0:=Aa
   simp [binOp,Op.shift,this]
  case shr =>
   refine Ag hI (x:=.int k (i.fdiv (2 ^ min j.toNat k.bits))) (AH ?_) rfl (By _ _)
   rw [Sem.run_bind,hguard]
   have:¬ j < 0:=Aa
   simp [binOp,Op.shift,this]
  case quo =>
   obtain ⟨rfl,hj⟩:=hp
   refine Ag hI (x:=.int k (k.wrap (i.tdiv j))) (AH ?_) rfl (By _ _)
   rw [Sem.run_bind,hguard]
   simp [binOp,Op.intDiv,hj]
  case rem =>
   obtain ⟨rfl,hj⟩:=hp
   refine Ag hI (x:=.int k (i.tmod j)) (AH ?_) rfl (By _ _)
   rw [Sem.run_bind,hguard]
   simp [binOp,Op.intDiv,hj]
  case lss=>subst hp;exact Ag hI (x:=.bool (decide (i < j))) (AH zq8) rfl (CD _)
  case leq=>subst hp;exact Ag hI (x:=.bool (decide (i≤j))) (AH zq8) rfl (CD _)
  case gtr=>subst hp;exact Ag hI (x:=.bool (decide (j < i))) (AH zq8) rfl (CD _)
  case geq=>subst hp;exact Ag hI (x:=.bool (decide (j≤i))) (AH zq8) rfl (CD _)
  case eql=>subst hp;exact Ag hI (x:=.bool (decide (i=j))) (AH (by rw [Sem.run_bind,hguard];simp [binOp,Op.intCmp,BEq.beq])) rfl (CD _)
  case neq=>subst hp;exact Ag hI (x:=.bool (!decide (i=j))) (AH (by rw [Sem.run_bind,hguard];simp [binOp,Op.intCmp,bne,BEq.beq])) rfl (CD _)
  all_goals
   subst hp
   refine Ag hI (AH ?_) rfl (By _ _)
   rw [Sem.run_bind,hguard]
   simp [binOp,Op.intArith,Op.intBits]
   try rfl
 ·exact hp.elim
theorem Ada {c:Ctx} {e:Env} {H:Hp} {A:List V} {a:Act} (hI:Inv M c e H) (hA:FR e A a.tmps) {n:Nat} {op:UnOp} {x1:Operand} {y1:X}
 (h1:A3 M x1 y1=true) (g1:Do M e y1) (hp:(Ae A H n (.un op y1)).pre) :
 B6 M c e n (Ae A H n (.un op y1)) (Sem.run M.P (do pure (Next.value (← Op.unary op (a.eval x1)))) e.w):=by
 have v1:=A4 hI.φ hA h1 g1
 simp only [Ae,Vv] at hp ⊢
 split at hp
 ·rename_i b hy
  rw [hy] at v1
  rw [Fp v1]
  exact Ag hI (x:=.bool (!b)) (AH rfl) rfl (CD _)
 ·rename_i k i hy
  rw [hy] at v1
  rw [BN v1]
  exact Ag hI (x:=.int k (k.wrap (0 - i))) (AH rfl) rfl (By _ _)
 ·rename_i k i hy
  rw [hy] at v1
  rw [BN v1]
  refine Ag hI (AH ?_) rfl (By _ _)
  simp [Op.unary,Op.intBits]
  try rfl
 ·exact hp.elim
theorem TF {c:Ctx} {e:Env} {H:Hp} {A:List V} {a:Act} (hI:Inv M c e H) (hA:FR e A a.tmps) {n:Nat} {s d:TypeId} {k:IntKind} {ds:TypeDesc} {x1:Operand} {y1:X}
 (hd:M.P.underlying d=some (.int k)) (hs:M.P.underlying s=some ds) (h1:A3 M x1 y1=true) (g1:Do M e y1) (hp:(Ae A H n (.conv k y1)).pre) :
 B6 M c e n (Ae A H n (.conv k y1)) (Sem.run M.P (do pure (Next.value (← convert s d (a.eval x1)))) e.w):=by
 have v1:=A4 hI.φ hA h1 g1
 simp only [Ae] at hp ⊢
 split at hp
 ·rename_i k' i hy
  rw [hy] at v1
  rw [BN v1]
  refine Ag hI (x:=.int k (k.wrap i)) (AH ?_) rfl (By _ _)
  simp only [convert,Td,run_underlying hs,run_underlying hd]
  cases ds <;> rfl
 ·exact hp.elim
variable {M:Seat}
theorem DC (b o n:Nat):(⟨b,o,none⟩:Addr).add n=⟨b,o + n,none⟩:=by
 unfold Addr.add;split
 ·rename_i h;subst h;rfl
 ·rfl
theorem Np {e:Env} {id:Nat} {p:List Stp} {x:Value} (h:RV e (.ptr id p) x):e.D id∧x = .pointer (some ⟨e.ρ id,Aq p,none⟩):=QI
theorem H8 {e:Env} {id:Nat} {p:List Stp} {b o:Nat} (hD:e.D id) (hb:b=e.ρ id) (ho:o=Aq p):RV e (.ptr id p) (.pointer (some ⟨b,o,none⟩)):=by
 subst hb;subst ho;simp [RV,RS,V.isAgg,R,hD]
theorem NG {e:Env} {v:V} {x:Value} (h:RV e (.imm v) x):∃ b o c el fz,x = .pointer (some ⟨b,o,none⟩)∧e.im b∧e.w.heap[b]?=some (.cells c el fz)∧o + v.size≤c.size∧R e v ((c.toList.drop o).take v.size):=by
 simpa [RV,RS,V.isAgg,R] using h
theorem H3 {e:Env} {v:V} {b o:Nat} {c:Array Value} {el:TypeId} {fz:Nat × Nat} (hi:e.im b) (hb:e.w.heap[b]?=some (.cells c el fz)) (hl:o + v.size≤c.size) (hR:R e v ((c.toList.drop o).take v.size)) :
 RV e (.imm v) (.pointer (some ⟨b,o,none⟩)):=by
 simp only [RV,RS,V.isAgg,R]
 exact ⟨b,o,c,el,fz,rfl,hi,hb,hl,hR⟩
theorem T1 {e:Env} {v:V} {p:List Stp} {c:Array Value} {o:Nat} (hk:v.ok p) (hl:o + v.size≤c.size) (hR:R e v ((c.toList.drop o).take v.size)) :
 o + Aq p + (v.get p).size≤c.size∧R e (v.get p) ((c.toList.drop (o + Aq p)).take (v.get p).size):=by
 have hlen:((c.toList.drop o).take v.size).length=v.size:=EP
 obtain ⟨h1,h2⟩:=Em hR hlen hk
 rw [hlen] at h1
 rw [AS _ _ _ _ _ h1] at h2
 exact ⟨by omega,h2⟩
theorem TH {c:Ctx} {e:Env} {H:Hp} {A:List V} {a:Act} (hI:Inv M c e H) (hA:FR e A a.tmps) {n:Nat} {o:Oper} {x:Operand} {y:X} (ho:o.op = .nilCheck x)
 (hx:A3 M x y=true) (hg:Do M e y) (hp:(Ae A H n (.nilc y)).pre) :
 B6 M c e n (Ae A H n (.nilc y)) (Sem.run M.P (execOp a.eval o) e.w):=by
 have hv:=A4 hI.φ hA hx hg
 simp only [execOp,ho]
 simp only [Ae] at hp ⊢
 split at hp
 ·rename_i id p hy
  rw [hy] at hv
  refine Ag hI (x:=a.eval x) ?_ rfl hv
  rw [(Np hv).2];rfl
 ·rename_i v hy
  rw [hy] at hv
  refine Ag hI (x:=a.eval x) ?_ rfl hv
  obtain ⟨b,o,_,_,_,hx',_⟩:=NG hv
  rw [hx'];rfl
 ·rename_i f cp hy
  rw [hy] at hv
  refine Ag hI (x:=a.eval x) ?_ rfl hv
  simp only [RV,RS,V.isAgg,R,EU] at hv
  obtain ⟨xs,hx',_⟩:=hv
  rw [hx',Qr,if_pos hp];rfl
 ·rename_i t v hy
  rw [hy] at hv
  refine Ag hI (x:=a.eval x) ?_ rfl hv
  simp only [RV,RS,V.isAgg,R,EU] at hv
  obtain ⟨xs,hx',_⟩:=hv
  rw [hx'];rfl
 ·exact hp.elim
theorem Uu {c:Ctx} {e:Env} {H:Hp} {A:List V} {a:Act} (hI:Inv M c e H) (hA:FR e A a.tmps) {n:Nat} {s:TypeId} {fs:Array Field} {i:Nat} {f:Field} {sz:Nat} {x:Operand} {y:X}
 (hs:M.P.underlying s=some (.struct fs)) (hf:fs[i]?=some f) (hz:FD M f.type=some sz) (hz0:sz ≠ 0) (hx:A3 M x y=true) (hg:Do M e y) (hp:(Ae A H n (.fadr f.offset y)).pre) :
 B6 M c e n (Ae A H n (.fadr f.offset y)) (Sem.run M.P (do pure (Next.value (← Instr.fieldAt s (a.eval x) i))) e.w):=by
 have hv:=A4 hI.φ hA hx hg
 have hrun:∀ b o,(Instr.fieldAt s (.pointer (some ⟨b,o,none⟩)) i).run M.P e.w = .ok (.pointer (some ⟨b,o + f.offset,none⟩)) e.w:=by
  intro b o
  simp only [Instr.fieldAt,F3,run_underlying hs,hf,Instr.sureAddr,fieldPlace,BI hz,hz0,if_false,DC]
 simp only [Ae] at hp ⊢
 split at hp
 ·rename_i id p hy
  rw [hy] at hv
  obtain ⟨hD,hx'⟩:=Np hv
  rw [hx']
  exact Ag hI (AH (hrun _ _)) rfl (H8 hD rfl (by rw [CY];rfl))
 ·rename_i v hy
  rw [hy] at hv
  obtain ⟨b,o,cc,el,fz,hx',hi,hb,hl,hR⟩:=NG hv
  rw [hx']
  obtain ⟨k1,k2⟩:=T1 hp.2 hl hR
  simp only [Aq,Stp.off,Nat.add_zero] at k1 k2
  exact Ag hI (AH (hrun _ _)) rfl (H3 hi hb k1 k2)
 ·exact hp.elim
theorem UP {c:Ctx} {e:Env} {H:Hp} {A:List V} {a:Act} (hI:Inv M c e H) (hA:FR e A a.tmps) {n:Nat} {t el:TypeId} {m sz:Nat} {x x2:Operand} {y y2:X}
 (ht:M.P.underlying t=some (.array m el)) (hz:FD M el=some sz) (hx:A3 M x y=true) (hg:Do M e y) (hx2:A3 M x2 y2=true) (hg2:Do M e y2) (hp:(Ae A H n (.iarr m sz y y2)).pre) :
 B6 M c e n (Ae A H n (.iarr m sz y y2)) (Sem.run M.P (do pure (Next.value (← Instr.indexAt t (a.eval x) (a.eval x2)))) e.w):=by
 have hv:=A4 hI.φ hA hx hg
 have hv2:=A4 hI.φ hA hx2 hg2
 have hrun:∀ b o k (i:Int),0≤i→i < m→(Instr.indexAt t (.pointer (some ⟨b,o,none⟩)) (.int k i)).run M.P e.w = .ok (.pointer (some ⟨b,o + i.toNat * sz,none⟩)) e.w:=by
  intro b o k i h0 h1
  simp only [Instr.indexAt,asIntOf,Instr.sureAddr,F3,run_underlying ht]
  simp [h0,h1,BI hz,DC]
 simp only [Ae] at hp ⊢
 split at hp
 ·rename_i id p k i hy hy2
  rw [hy] at hv;rw [hy2] at hv2
  obtain ⟨hD,hx'⟩:=Np hv
  rw [hx',BN hv2]
  exact Ag hI (AH (hrun _ _ _ _ hp.1 hp.2)) rfl (H8 hD rfl (by rw [CY];rfl))
 ·rename_i v k i hy hy2
  rw [hy] at hv;rw [hy2] at hv2
  obtain ⟨b,o,cc,el',fz,hx',hi,hb,hl,hR⟩:=NG hv
  rw [hx',BN hv2]
  obtain ⟨k1,k2⟩:=T1 hp.2.2 hl hR
  simp only [Aq,Stp.off,Nat.add_zero] at k1 k2
  exact Ag hI (AH (hrun _ _ _ _ hp.1.1 hp.1.2)) rfl (H3 hi hb k1 k2)
 ·exact hp.elim
theorem HI {e:Env} {id:Nat} {p:List Stp} {o len sz:Nat} {x:Value} (h:RV e (.sl id p o len sz) x):e.D id∧∃ b cap,x = .slice b len cap∧(cap=0 ∨ b=some ⟨e.ρ id,Aq p + o * sz,none⟩)∧len≤cap∧Aq p + (o + cap) * sz≤CG e.w (e.ρ id):=by
 simp only [RV,RS,V.isAgg,R] at h
 obtain ⟨h1,b,cap,h2,h3⟩:=h
 simp only [EU] at h2
 exact ⟨h1,b,cap,h2,h3⟩
theorem Ff {e:Env} {id:Nat} {p:List Stp} {o len sz cap:Nat} {b:Option Addr} (hD:e.D id) (hb:cap=0 ∨ b=some ⟨e.ρ id,Aq p + o * sz,none⟩) (hl:len≤cap) (hs:Aq p + (o + cap) * sz≤CG e.w (e.ρ id)):RV e (.sl id p o len sz) (.slice b len cap):=by
 simp only [RV,RS,V.isAgg,R]
 exact ⟨hD,b,cap,rfl,hb,hl,hs⟩
theorem Il {e:Env} {sz n:Nat} {f:Nat→V} {x:Value} (h:RV e (.lst sz n f) x):∃ a cap,x = .slice a n cap∧n≤cap∧(0 < n→∃ b o c el fz,a=some ⟨b,o,none⟩∧e.im b∧e.w.heap[b]?=some (.cells c el fz)∧o + n * sz≤c.size ∧
 ∀ i,i < n→((f i).solid=true∧(f i).size=sz)∧R e (f i) ((c.toList.drop (o + i * sz)).take sz)):=by
 simp only [RV,RS,V.isAgg,R] at h
 obtain ⟨a,cap,h2,h3⟩:=h
 simp only [EU] at h2
 exact ⟨a,cap,h2,h3⟩
theorem P4 {e:Env} {sz n:Nat} {f:Nat→V} {a:Option Addr} {cap:Nat} (h:n≤cap) (h2:0 < n→∃ b o c el fz,a=some ⟨b,o,none⟩∧e.im b∧e.w.heap[b]?=some (.cells c el fz)∧o + n * sz≤c.size ∧
 ∀ i,i < n→((f i).solid=true∧(f i).size=sz)∧R e (f i) ((c.toList.drop (o + i * sz)).take sz)):RV e (.lst sz n f) (.slice a n cap):=by
 simp only [RV,RS,V.isAgg,R]
 exact ⟨a,cap,rfl,h,h2⟩
theorem X8 {c:Ctx} {e:Env} {H:Hp} {A:List V} {a:Act} (hI:Inv M c e H) (hA:FR e A a.tmps) {n:Nat} {t el:TypeId} {sz:Nat} {x x2:Operand} {y y2:X}
 (ht:M.P.underlying t=some (.slice el)) (hz:FD M el=some sz) (hx:A3 M x y=true) (hg:Do M e y) (hx2:A3 M x2 y2=true) (hg2:Do M e y2) (hp:(Ae A H n (.isl sz y y2)).pre) :
 B6 M c e n (Ae A H n (.isl sz y y2)) (Sem.run M.P (do pure (Next.value (← Instr.indexAt t (a.eval x) (a.eval x2)))) e.w):=by
 have hv:=A4 hI.φ hA hx hg
 have hv2:=A4 hI.φ hA hx2 hg2
 have hrun:∀ (b:Addr) (len cap:Nat) k (i:Int),0≤i→i < len→(Instr.indexAt t (.slice (some b) len cap) (.int k i)).run M.P e.w = .ok (.pointer (some (b.add (i.toNat * sz)))) e.w:=by
  intro b len cap k i h0 h1
  simp only [Instr.indexAt,asIntOf,F3,run_underlying ht]
  simp [h0,h1,BI hz]
 simp only [Ae] at hp ⊢
 split at hp
 ·rename_i id p o m sz' k i hy hy2
  rw [hy] at hv;rw [hy2] at hv2
  obtain ⟨⟨h0,h1⟩,rfl⟩:=hp
  obtain ⟨hD,b,cap,hx',hb,hl,_⟩:=HI hv
  have hcap:cap ≠ 0:=Aa
  have hb':=hb.resolve_left hcap
  rw [hx',BN hv2,hb']
  refine Ag hI (AH (hrun _ _ _ _ _ h0 h1)) rfl ?_
  rw [DC]
  exact H8 hD rfl (by rw [CY];simp only [Stp.off,Nat.add_mul];omega)
 ·rename_i sz' m f k i hy hy2
  rw [hy] at hv;rw [hy2] at hv2
  obtain ⟨⟨h0,h1⟩,rfl⟩:=hp
  obtain ⟨b,cap,hx',hl,hh⟩:=Il hv
  obtain ⟨bb,o,cc,el',fz,rfl,hi,hb,hsz,hR⟩:=hh Aa
  rw [hx',BN hv2]
  refine Ag hI (AH (hrun _ _ _ _ _ h0 h1)) rfl ?_
  rw [DC]
  have hlt:i.toNat < m:=Aa
  obtain ⟨⟨_,h3⟩,h4⟩:=hR i.toNat hlt
  have hm:i.toNat * sz' + sz'≤m * sz':=by
   have:(i.toNat + 1) * sz'≤m * sz':=Nat.mul_le_mul_right _ hlt
   rw [Nat.add_mul] at this;omega
  exact H3 hi hb (by rw [h3];omega) (by rw [h3];exact h4)
 ·exact hp.elim
theorem Ko {t:TypeId} {agg:Bool} {sz:Nat} (hs:FD M t=some sz) (ha:Hw M t=some agg) (w:World) {cs:Array Value} {o:Nat} (hl:o + sz≤cs.size) (h1:agg=false→sz=1) :
 (part t cs o).run M.P w = .ok (if agg then .agg ((cs.toList.drop o).take sz).toArray else cs.getD o undef) w:=by
 unfold part
 simp only [Td,O1 ha]
 cases agg with
 | true =>
   simp only [if_true,F3,BI hs]
   congr 2
   apply Array.ext'
   simp [Array.toList_extract,List.extract_eq_take_drop]
 | false =>
   have:=h1 rfl
   subst this
   have hlt:o < cs.size:=Aa
   simp [hlt]
theorem Wq {c:Ctx} {e:Env} {H:Hp} {A:List V} {a:Act} (hI:Inv M c e H) (hA:FR e A a.tmps) {n:Nat} {t el:TypeId} {m sz:Nat} {agg:Bool} {x x2:Operand} {y y2:X}
 (ht:M.P.underlying t=some (.array m el)) (hz:FD M el=some sz) (ha:Hw M el=some agg) (hx:A3 M x y=true) (hg:Do M e y) (hx2:A3 M x2 y2=true) (hg2:Do M e y2) (hp:(Ae A H n (.idx m sz agg y y2)).pre) :
 B6 M c e n (Ae A H n (.idx m sz agg y y2)) (Sem.run M.P (do pure (Next.value (← Instr.index t (a.eval x) (a.eval x2)))) e.w):=by
 have hv:=A4 hI.φ hA hx hg
 have hv2:=A4 hI.φ hA hx2 hg2
 simp only [Ae] at hp ⊢
 split at hp
 ·rename_i sz' m' f k i hy hy2
  rw [hy] at hv;rw [hy2] at hv2
  obtain ⟨⟨h0,h1⟩,rfl,rfl,hagg⟩:=hp
  simp only [RV,RS,V.isAgg,R] at hv
  obtain ⟨cs,hx',hlen,hR⟩:=hv
  have hlt:i.toNat < m':=Aa
  obtain ⟨⟨h3,h4⟩,h5⟩:=hR i.toNat hlt
  have hm:i.toNat * sz' + sz'≤m' * sz':=by
   have:(i.toNat + 1) * sz'≤m' * sz':=Nat.mul_le_mul_right _ hlt
   rw [Nat.add_mul] at this;omega
  obtain ⟨k1,k2⟩:=DU (c:=cs.toArray) (o:=i.toNat * sz') h3 h4 hagg EP (by simpa using h5)
  refine Ag hI (AH ?_) rfl k2
  rw [hx',BN hv2]
  simp only [Instr.index,asIntOf,F3,run_underlying ht]
  simp only [h0,h1,and_self,if_true,Td,BI hz]
  exact Ko hz ha e.w EP k1
 ·exact hp.elim
theorem VU {c:Ctx} {e:Env} {H:Hp} {A:List V} {a:Act} (hI:Inv M c e H) (hA:FR e A a.tmps) {n:Nat} {t:TypeId} {fs:Array Field} {i:Nat} {f:Field} {sz:Nat} {agg:Bool} {x:Operand} {y:X}
 (ht:M.P.underlying t=some (.struct fs)) (hf:fs[i]?=some f) (hz:FD M f.type=some sz) (ha:Hw M f.type=some agg) (hx:A3 M x y=true) (hg:Do M e y) (hp:(Ae A H n (.fld f.offset sz agg y)).pre) :
 B6 M c e n (Ae A H n (.fld f.offset sz agg y)) (Sem.run M.P (do pure (Next.value (← Instr.field t (a.eval x) i))) e.w):=by
 have hv:=A4 hI.φ hA hx hg
 simp only [Ae] at hp ⊢
 split at hp
 ·rename_i m chn hy
  rw [hy] at hv
  obtain ⟨hh,hsol,hsz,hagg⟩:=hp
  simp only [RV,RS,V.isAgg,R] at hv
  obtain ⟨cs,hx',hlen,_,hR⟩:=hv
  obtain ⟨h1,h2⟩:=GU hR hh
  rw [hsz] at h1 h2
  obtain ⟨k1,k2⟩:=DU (c:=cs.toArray) (o:=f.offset) hsol hsz hagg (by simpa using h1) (by simpa using h2)
  refine Ag hI (AH ?_) rfl k2
  rw [hx']
  simp only [Instr.field,F3,run_underlying ht,hf,asAgg]
  exact Ko hz ha e.w (by simpa using h1) k1
 ·exact hp.elim
variable {M:Seat}
theorem JP {P:Program} (w:World) (isSl:Bool) (len cap:Nat) (lo hi:Option Value) (l h:Int)
 (hlo:match lo with | none=>l=0 | some v=>∃ k,v = .int k l) (hhi:match hi with | none=>h=len | some v=>∃ k,v = .int k h)
 (h0:0≤l) (h1:l≤h) (h2:h≤cap):(Instr.sliceBounds isSl len cap lo hi none).run P w = .ok (l.toNat,h.toNat,cap) w:=by
 have hb:∀ (k:IntKind) (i:Int) (y:Nat) (code:BoundsCode),0≤i→i≤y→(Instr.sliceBound (.int k i) y code).run P w = .ok i.toNat w:=by
  intro k i y code a b
  simp [Instr.sliceBound,asIntOf,a,b]
 have hle:l≤(h.toNat:Int):=Aa
 unfold Instr.sliceBounds
 cases lo with
 | none =>
   simp only at hlo
   subst hlo
   cases hi with
   | none=>simp only at hhi;subst hhi;simp
   | some v=>obtain ⟨k,rfl⟩:=hhi;simp [hb k h cap _ Aa h2]
 | some v0 =>
   obtain ⟨k0,rfl⟩:=hlo
   cases hi with
   | none =>
     simp only at hhi
     subst hhi
     have hb':=hb k0 l len .sliceB h0 h1
     simp [hb']
   | some v =>
     obtain ⟨k,rfl⟩:=hhi
     have hb1:=hb k h cap (if isSl then .sliceAcap else .sliceAlen) Aa h2
     have hb2:=hb k0 l h.toNat .sliceB h0 hle
     simp [hb1,hb2]
def La (M:Seat) (x:Option Operand) (y:Option X):Bool :=
 match x,y with
 | none,none=>true
 | some x,some y=>A3 M x y
 | _,_=>false
def TB (M:Seat) (e:Env):Option X→Prop
 | none=>True
 | some x=>Do M e x
theorem J5 {e:Env} (hφ:e.φ=M.φ) {A:List V} {a:Act} (hA:FR e A a.tmps) {x:Option Operand} {y:Option X} (h:La M x y=true) (hg:TB M e y) (ho:BQ A y) (d:Int) :
 match x.map a.eval with | none=>AC A d y=d | some v=>∃ k,v = .int k (AC A d y):=by
 cases x with
 | none => cases y with
   | none=>rfl
   | some y=>cases h
 | some x => cases y with
   | none=>cases h
   | some y =>
     have hv:=A4 hφ hA h hg
     simp only [BQ] at ho
     simp only [Option.map_some,AC]
     generalize y.ev A=v at *
     cases v <;> simp only [Qj] at ho
     exact ⟨_,BN hv⟩
theorem QH {c:Ctx} {e:Env} {H:Hp} {A:List V} {a:Act} (hI:Inv M c e H) (hA:FR e A a.tmps) {n:Nat} {t el:TypeId} {m sz:Nat} {x:Operand} {y:X} {lo hi:Option Operand} {lo' hi':Option X}
 (ht:M.P.underlying t=some (.array m el)) (hz:FD M el=some sz) (hx:A3 M x y=true) (hg:Do M e y) (hlo:La M lo lo'=true) (hglo:TB M e lo') (hhi:La M hi hi'=true) (hghi:TB M e hi')
 (hp:(Ae A H n (.slarr m sz y lo' hi')).pre) :
 B6 M c e n (Ae A H n (.slarr m sz y lo' hi')) (Sem.run M.P (do pure (Next.value (← Instr.sliceAt t (a.eval x) (lo.map a.eval) (hi.map a.eval) none))) e.w):=by
 have hv:=A4 hI.φ hA hx hg
 have hrun:∀ (b o:Nat),(BQ A lo'∧BQ A hi'∧0≤AC A 0 lo'∧AC A 0 lo'≤AC A m hi'∧AC A m hi'≤m) →
  ∃ ad:Option Addr,((m - (AC A 0 lo').toNat=0) ∨ ad=some ⟨b,o + (AC A 0 lo').toNat * sz,none⟩) ∧
  (Instr.sliceAt t (.pointer (some ⟨b,o,none⟩)) (lo.map a.eval) (hi.map a.eval) none).run M.P e.w = .ok (.slice ad ((AC A m hi').toNat - (AC A 0 lo').toNat) (m - (AC A 0 lo').toNat)) e.w:=by
  rintro b o ⟨i1,i2,i3,i4,i5⟩
  have hb:=JP (P:=M.P) e.w false m m (lo.map a.eval) (hi.map a.eval) (AC A 0 lo') (AC A m hi') (J5 hI.φ hA hlo hglo i1 0) (J5 hI.φ hA hhi hghi i2 m) i3 i4 i5
  refine ⟨some (if m=(AC A 0 lo').toNat then ⟨b,o,none⟩ else ⟨b,o + (AC A 0 lo').toNat * sz,none⟩),?_,?_⟩
  ·split
   ·left;omega
   ·right;rfl
  ·simp only [Instr.sliceAt,F3,run_underlying ht,Instr.sureAddr,hb,BI hz,DC]
 simp only [Ae] at hp ⊢
 split at hp
 ·rename_i id p hy
  rw [hy] at hv
  obtain ⟨hb,h1,h2,h3,h4⟩:=hp
  obtain ⟨hD,hx'⟩:=Np hv
  rw [hx']
  obtain ⟨ad,hcap,hr⟩:=hrun (e.ρ id) (Aq p) hb
  refine Ag hI (AH hr) rfl (Ff hD hcap Aa ?_)
  obtain ⟨cells,el',hc,hsz,hR⟩:=hI.cells h1 h2
  have hlen:(cells.toList.take (hget H id).size).length=(hget H id).size:=EP
  obtain ⟨g1,g2⟩:=Em hR hlen h3
  rw [hlen] at g1
  have hbs:CG e.w (e.ρ id)=cells.size:=by unfold CG;rw [hc]
  rw [hbs]
  generalize (hget H id).get p=v at *
  cases v <;> simp only at h4
  obtain ⟨rfl,rfl⟩:=h4
  rename_i sz' m' f
  have g1':Aq p + m' * sz'≤(hget H id).size:=g1
  have:((AC A 0 lo').toNat + (m' - (AC A 0 lo').toNat))=m':=Aa
  rw [this]
  exact Nat.le_trans g1' hsz
 ·rename_i v hy
  rw [hy] at hv
  cases v <;> simp only [BR] at hp
  rename_i sz' m' f
  obtain ⟨hb,rfl,rfl⟩:=hp
  obtain ⟨b,o,cc,el',fz,hx',hi,hbb,hl,hR⟩:=NG hv
  rw [hx']
  obtain ⟨ad,hcap,hr⟩:=hrun b o hb
  refine Ag hI (AH hr) rfl (P4 Aa (fun hpos=>?_))
  have had:=hcap.resolve_left Aa
  simp only [V.size] at hl hR
  have hpt:=NT hR (o:=(AC A 0 lo').toNat) (m:=(AC A m' hi').toNat - (AC A 0 lo').toNat) Aa
  have hmm:(AC A 0 lo').toNat * sz' + ((AC A m' hi').toNat - (AC A 0 lo').toNat) * sz'≤m' * sz':=by
   rw [← Nat.add_mul];exact Nat.mul_le_mul_right _ Aa
  rw [AS _ _ _ _ _ hmm] at hpt
  simp only [R] at hpt
  refine ⟨b,o + (AC A 0 lo').toNat * sz',cc,el',fz,by rw [had],hi,hbb,by omega,fun i hil=>?_⟩
  obtain ⟨q1,q2⟩:=hpt.2 i hil
  refine ⟨q1,?_⟩
  have hi2:i * sz' + sz'≤((AC A m' hi').toNat - (AC A 0 lo').toNat) * sz':=by
   have:(i + 1) * sz'≤((AC A m' hi').toNat - (AC A 0 lo').toNat) * sz':=Nat.mul_le_mul_right _ hil
   rw [Nat.add_mul] at this;omega
  rw [AS _ _ _ _ _ hi2] at q2
  exact q2
 ·exact hp.elim
theorem T7 {c:Ctx} {e:Env} {H:Hp} {A:List V} {a:Act} (hI:Inv M c e H) (hA:FR e A a.tmps) {n:Nat} {t el:TypeId} {sz:Nat} {x:Operand} {y:X} {lo hi:Option Operand} {lo' hi':Option X}
 (ht:M.P.underlying t=some (.slice el)) (hz:FD M el=some sz) (hx:A3 M x y=true) (hg:Do M e y) (hlo:La M lo lo'=true) (hglo:TB M e lo') (hhi:La M hi hi'=true) (hghi:TB M e hi')
 (hp:(Ae A H n (.slsl sz y lo' hi')).pre) :
 B6 M c e n (Ae A H n (.slsl sz y lo' hi')) (Sem.run M.P (do pure (Next.value (← Instr.sliceAt t (a.eval x) (lo.map a.eval) (hi.map a.eval) none))) e.w):=by
 have hv:=A4 hI.φ hA hx hg
 have hrun:∀ (b:Option Addr) (len cap:Nat),len≤cap→(BQ A lo'∧BQ A hi'∧0≤AC A 0 lo'∧AC A 0 lo'≤AC A len hi'∧AC A len hi'≤len) →
  (Instr.sliceAt t (.slice b len cap) (lo.map a.eval) (hi.map a.eval) none).run M.P e.w = .ok (.slice (if cap=(AC A 0 lo').toNat then b else b.map (·.add ((AC A 0 lo').toNat * sz))) ((AC A len hi').toNat - (AC A 0 lo').toNat) (cap - (AC A 0 lo').toNat)) e.w:=by
  rintro b len cap hlc ⟨i1,i2,i3,i4,i5⟩
  have hb:=JP (P:=M.P) e.w true len cap (lo.map a.eval) (hi.map a.eval) (AC A 0 lo') (AC A len hi') (J5 hI.φ hA hlo hglo i1 0) (J5 hI.φ hA hhi hghi i2 len) i3 i4 Aa
  simp only [Instr.sliceAt,F3,run_underlying ht,Instr.slice,hb,BI hz]
 simp only [Ae] at hp ⊢
 split at hp
 ·rename_i id p o m sz' hy
  rw [hy] at hv
  obtain ⟨hb,rfl⟩:=hp
  obtain ⟨hD,b,cap,hx',hbb,hl,hbs⟩:=HI hv
  rw [hx']
  have hr:=hrun b m cap hl hb
  refine Ag hI (AH hr) rfl (Ff hD ?_ Aa ?_)
  ·by_cases hc0:cap - (AC A 0 lo').toNat=0
   ·exact .inl hc0
   ·right
    rw [if_neg Aa]
    have:=hbb.resolve_left Aa
    rw [this]
    simp only [Option.map_some,DC,Nat.add_mul,Nat.add_assoc]
  ·have:o + (AC A 0 lo').toNat + (cap - (AC A 0 lo').toNat)=o + cap:=Aa
   rw [this];exact hbs
 ·rename_i sz' m f hy
  rw [hy] at hv
  obtain ⟨hb,rfl⟩:=hp
  obtain ⟨b,cap,hx',hl,hh⟩:=Il hv
  rw [hx']
  have hres:RV e (.lst sz' ((AC A m hi').toNat - (AC A 0 lo').toNat) (fun i=>f ((AC A 0 lo').toNat + i))) (.slice (if cap=(AC A 0 lo').toNat then b else b.map (·.add ((AC A 0 lo').toNat * sz'))) ((AC A m hi').toNat - (AC A 0 lo').toNat) (cap - (AC A 0 lo').toNat)):=by
   refine P4 Aa (fun hpos=>?_)
   have hm0:0 < m:=by clear hh;omega
   obtain ⟨bb,o,cc,el',fz,rfl,hi,hb',hsz,hR⟩:=hh hm0
   clear hh
   have hmm:(AC A 0 lo').toNat * sz' + ((AC A m hi').toNat - (AC A 0 lo').toNat) * sz'≤m * sz':=by
    rw [← Nat.add_mul];exact Nat.mul_le_mul_right _ Aa
   refine ⟨bb,o + (AC A 0 lo').toNat * sz',cc,el',fz,?_,hi,hb',by omega,fun i hil=>?_⟩
   ·rw [if_neg Aa]
    simp [DC]
   ·have:=hR ((AC A 0 lo').toNat + i) Aa
    rw [Nat.add_mul,← Nat.add_assoc] at this
    exact this
  exact Ag hI (AH (hrun b m cap hl hb)) rfl hres
 ·rename_i hy
  rw [hy] at hv
  obtain ⟨i1,i2,i3,i4⟩:=hp
  have hx':a.eval x = .slice none 0 0:=by simpa [RV,RS,V.isAgg,R] using hv
  rw [hx']
  have hr:=hrun none 0 0 (Nat.le_refl _) ⟨i1,i2,by omega,by have:((0:Nat):Int)=0:=rfl;rw [this];omega,by have:((0:Nat):Int)=0:=rfl;rw [this];omega⟩
  refine Ag hI (AH hr) rfl ?_
  have e0:((0:Nat):Int)=0:=rfl
  rw [e0,i3,i4]
  simp [RV,RS,V.isAgg,R]
 ·exact hp.elim
theorem Wl {c:Ctx} {e:Env} {H:Hp} {A:List V} {a:Act} (hI:Inv M c e H) (hA:FR e A a.tmps) {n:Nat} {t el:TypeId} {m sz:Nat} {x:Operand} {y:X}
 (ht:M.P.underlying t=some (.array m el)) (hx:A3 M x y=true) (hg:Do M e y) (hp:(Ae A H n (.s2a m sz y)).pre) :
 B6 M c e n (Ae A H n (.s2a m sz y)) (Sem.run M.P (do pure (Next.value (← Instr.arrayAt t (a.eval x)))) e.w):=by
 have hv:=A4 hI.φ hA hx hg
 have hrun:∀ (b:Option Addr) (len cap:Nat),m≤len→(Instr.arrayAt t (.slice b len cap)).run M.P e.w = .ok (.pointer b) e.w:=by
  intro b len cap hl
  have:¬ len < m:=Aa
  simp [Instr.arrayAt,run_underlying ht,this]
 simp only [Ae] at hp ⊢
 split at hp
 ·rename_i id p o l sz' hy
  rw [hy] at hv
  obtain ⟨rfl,h1,h2⟩:=hp
  obtain ⟨hD,b,cap,hx',hbb,hl,hbs⟩:=HI hv
  rw [hx']
  have hb:=hbb.resolve_left Aa
  subst hb
  exact Ag hI (AH (hrun _ _ _ h1)) rfl (H8 hD rfl (by rw [CY];rfl))
 ·rename_i sz' l f hy
  rw [hy] at hv
  obtain ⟨rfl,h1,h2⟩:=hp
  obtain ⟨b,cap,hx',hl,hh⟩:=Il hv
  obtain ⟨bb,o,cc,el',fz,rfl,hi,hb',hsz,hR⟩:=hh Aa
  rw [hx']
  have hml:m * sz'≤l * sz':=Nat.mul_le_mul_right _ h1
  refine Ag hI (AH (hrun _ _ _ h1)) rfl (H3 hi hb' (by simp only [V.size];omega) ?_)
  simp only [V.size,R]
  refine ⟨by simp;omega,fun i hi'=>?_⟩
  obtain ⟨q1,q2⟩:=hR i Aa
  refine ⟨q1,?_⟩
  have hi2:i * sz' + sz'≤m * sz':=by
   have:(i + 1) * sz'≤m * sz':=Nat.mul_le_mul_right _ hi'
   rw [Nat.add_mul] at this;omega
  rw [AS _ _ _ _ _ hi2]
  exact q2
 ·exact hp.elim
theorem Vi {c:Ctx} {e:Env} {H:Hp} {A:List V} {a:Act} (hI:Inv M c e H) (hA:FR e A a.tmps) {n:Nat} {t:Nat} {d:TypeDesc} {x:Operand} {y:X}
 (ht:M.P.underlying (M.τ t)=some d) (hd:(match d with | .interface _=>false | _=>true)=true) (hx:A3 M x y=true) (hg:Do M e y) (hp:(Ae A H n (.mkif t y)).pre) :
 B6 M c e n (Ae A H n (.mkif t y)) (Sem.run M.P (do pure (Next.value (← Instr.makeInterface (M.τ t) (a.eval x)))) e.w):=by
 have hv:=A4 hI.φ hA hx hg
 simp only [Ae] at hp ⊢
 rw [AR hp] at hv
 refine Ag hI (x:=.iface (M.τ t) (a.eval x)) (AH ?_) rfl ?_
 ·simp only [Instr.makeInterface,Td,run_underlying ht]
  cases d <;> first | rfl | cases hd
 ·simp only [RV,RS,V.isAgg,R]
  exact ⟨_,by rw [hI.τ],hp,by unfold RS at hv;exact hv⟩
theorem XG {e:Env} {i:Nat}:∀ {fs:V} {xs:Array Value},RT e fs xs→fs.fhas i=true→∃ y,xs[i]?=some y∧RV e (fs.fget i) y
 | .fcons j v r, xs, h, hk => by
   simp only [RT] at h
   simp only [V.fget]
   split
   ·rename_i hj
    subst hj
    obtain ⟨⟨h0,y,h1,h2⟩,_⟩:=h
    exact ⟨y,h1,(AR h0).2 h2⟩
   ·rename_i hj
    simp only [V.fhas,Bool.or_eq_true,beq_iff_eq,hj,false_or] at hk
    exact XG h.2 hk
 | .junk,_,_,hk | .int ..,_,_,hk | .bool _,_,_,hk | .str _,_,_,hk | .nilp,_,_,hk | .ptr ..,_,_,hk | .imm _,_,_,hk | .nils,_,_,hk
 | .sl ..,_,_,hk | .lst ..,_,_,hk | .nilm,_,_,hk | .map _,_,_,hk | .nilf,_,_,hk | .fn ..,_,_,hk | .nili,_,_,hk | .ifc ..,_,_,hk
 | .st ..,_,_,hk | .ar ..,_,_,hk | .fnil,_,_,hk | .tup _,_,_,hk | .mp ..,_,_,hk | .fm ..,_,_,hk=>by simp [V.fhas] at hk
theorem YK {c:Ctx} {e:Env} {H:Hp} {A:List V} {a:Act} (hI:Inv M c e H) (hA:FR e A a.tmps) {n:Nat} {i:Nat} {x:Operand} {y:X}
 (hx:A3 M x y=true) (hg:Do M e y) (hp:(Ae A H n (.ext y i)).pre) :
 B6 M c e n (Ae A H n (.ext y i)) (Sem.run M.P (do pure (Next.value (← Instr.extract (a.eval x) i))) e.w):=by
 have hv:=A4 hI.φ hA hx hg
 simp only [Ae] at hp ⊢
 split at hp
 ·rename_i fs hy
  rw [hy] at hv
  simp only [RV] at hv
  obtain ⟨xs,hx',hT⟩:=hv
  obtain ⟨z,h1,h2⟩:=XG hT hp
  rw [hx']
  refine Ag hI (x:=z) (AH ?_) rfl h2
  simp [Instr.extract,h1]
 ·exact hp.elim
theorem Sy {e:Env} {x:Value} (h:RV e .nils x):x = .slice none 0 0:=QI
theorem Yn {e:Env} {s:ByteArray} {x:Value} (h:RV e (.str s) x):x = .string s:=QI
theorem Abl {e:Env} {x:Value} (h:RV e .nilm x):x = .map none:=QI
theorem QK {e:Env} {id:Nat} {x:Value} (h:RV e (.map id) x):e.D id∧x = .map (some (e.ρ id)):=QI
def Tw:Nat→TypeDesc→Bool
 | 0,.slice _=>true
 | 1,.string=>true
 | 2,.map _ _=>true
 | _,_=>false
theorem XQ {c:Ctx} {e:Env} {H:Hp} {A:List V} {a:Act} (hI:Inv M c e H) (hA:FR e A a.tmps) {n:Nat} {t ty:TypeId} {d:TypeDesc} {ts:Array TypeId} {k:Nat} {x:Operand} {y:X}
 (ht:M.P.underlying t=some d) (hts:ts[0]?=some t) (hd:Tw k d=true)
 (hx:A3 M x y=true) (hg:Do M e y) (hp:(Ae A H n (.len k y)).pre) :
 B6 M c e n (Ae A H n (.len k y)) (Sem.run M.P (do pure (Next.value (← Builtin.len_ ts ty #[a.eval x]))) e.w):=by
 have hv:=A4 hI.φ hA hx hg
 simp only [Ae] at hp ⊢
 split at hp
 ·rename_i id p o m sz hy
  rw [hy] at hv
  obtain ⟨hD,b,cap,hx',_⟩:=HI hv
  rw [hx']
  cases d <;> try (cases hd;done)
  refine Ag hI (x:=.int .i64 m) (AH ?_) rfl (By _ _)
  simp [Builtin.len_,hts,run_underlying ht,goInt]
 ·rename_i sz m f hy
  rw [hy] at hv
  obtain ⟨b,cap,hx',_⟩:=Il hv
  rw [hx']
  cases d <;> try (cases hd;done)
  refine Ag hI (x:=.int .i64 m) (AH ?_) rfl (By _ _)
  simp [Builtin.len_,hts,run_underlying ht,goInt]
 ·rename_i hy
  rw [hy] at hv
  rw [Sy hv]
  cases d <;> try (cases hd;done)
  refine Ag hI (x:=.int .i64 0) (AH ?_) rfl (By _ _)
  simp [Builtin.len_,hts,run_underlying ht,goInt]
 ·rename_i s hy
  rw [hy] at hv
  rw [Yn hv]
  cases d <;> try (cases hd;done)
  refine Ag hI (x:=.int .i64 s.size) (AH ?_) rfl (By _ _)
  simp [Builtin.len_,hts,run_underlying ht,goInt]
 ·rename_i hy
  rw [hy] at hv
  rw [Abl hv]
  cases d <;> try (cases hd;done)
  refine Ag hI (x:=.int .i64 0) (AH ?_) rfl (By _ _)
  simp [Builtin.len_,hts,run_underlying ht,goInt]
 ·rename_i id hy
  rw [hy] at hv
  obtain ⟨hD,hx'⟩:=QK hv
  rw [hx']
  cases d <;> try (cases hd;done)
  split at hp
  ·rename_i m ks vs hm
   obtain ⟨_,hb,_,_⟩:=hI.blk id hp
   rw [hm] at hb
   obtain ⟨es,clock,h1,h2,_⟩:=hb
   refine Ag hI (x:=.int .i64 m) (AH ?_) rfl (By _ _)
   simp [Builtin.len_,hts,run_underlying ht,goInt,getObj,Sem.run,h1,h2]
  ·exact hp.elim
 ·exact hp.elim
end Mv
