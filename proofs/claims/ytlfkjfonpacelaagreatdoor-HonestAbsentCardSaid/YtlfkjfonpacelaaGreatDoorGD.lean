/- A part. -/
import Derived.Test.YtlfkjfonpacelaaGreatDoorGC
set_option linter.all false
namespace Mv
open Go
variable {M:Seat}
theorem AI {P:Program} {s:Sem Value} {w w':World} {x:Value} (h:s.run P w = .ok x w'):(do pure (Next.value (← s)):Sem Next).run P w = .ok (.value x) w':=by
 rw [Sem.run_bind,h];rfl
theorem F6 {t:TypeId} {x:Value} (h:(M.P.info? t).bind (·.zero)=some x) (w:World):(zeroValue t).run M.P w = .ok x w:=by
 cases hi:M.P.info? t with
 | none=>simp [hi] at h
 | some i=>simp [hi] at h;simp [zeroValue,typeInfo,hi,h]
theorem Inv.newCells {c:Ctx} {e:Env} {H:Hp} (hI:Inv M c e H) {n:Nat} (hn:¬ e.D n) (hk:c.k≤n) {cells:Array Value} {el:TypeId} {z:V} (hs:z.solid=true) (hsz:z.size≤cells.size) (hR:R e z (cells.toList.take z.size)) :
 e.le (e.new n (.cells cells el))∧Inv M c (e.new n (.cells cells el)) ((n,z) :: H)∧(e.new n (.cells cells el)).ρ n=e.w.heap.size∧(e.new n (.cells cells el)).D n∧CG (e.new n (.cells cells el)).w e.w.heap.size=cells.size:=by
 have hle:=Env.le_new (.cells cells el) hn hI.imlt
 have hρ:(e.new n (.cells cells el)).ρ n=e.w.heap.size:=Uf
 have hh:(e.new n (.cells cells el)).w.heap[e.w.heap.size]?=some (.cells cells el):=CD _ _
 refine ⟨hle,hI.new hn hk ((CA hs).2 ⟨cells,el,by rw [hρ];exact hh,hsz,Cc hle hR⟩),hρ,.inl rfl,?_⟩
 unfold CG;rw [hh]
theorem Gr {e:Env} {n:Nat} {o:Obj}:∀ id,(e.new n o).D id→e.D id ∨ id=n:=fun _ h=>h.elim .inr .inl
theorem Mh {e:Env} {n:Nat} (hD:e.D n) {b:Nat} (hρ:e.ρ n=b):RV e (.ptr n []) (.pointer (some ⟨b,0,none⟩)):=by
 subst hρ;simp [RV,RS,V.isAgg,R,As,hD]
theorem QZ {c:Ctx} {e:Env} {H:Hp} {A:List V} (hI:Inv M c e H) {n:Nat} (hn:¬ e.D n) (hk:c.k≤n) {t:TypeId} {z:Z} {x:Value} (hz:(M.P.info? t).bind (·.zero)=some x) (hzc:z.chk x=true) :
 B4 M c e n (Ac A H n (.alloc z)) (Sem.run M.P (do pure (Next.value (← Instr.alloc t true (.tuple #[])))) e.w):=by
 obtain ⟨h1,h2,h3,h4⟩:=Z.chk_R e hzc
 obtain ⟨r1,r2,r3,r4,_⟩:=hI.newCells hn hk (cells:=x.cells) (el:=t) h3 Aa (by rw [h4,List.take_of_length_le Fu];exact h2)
 refine ⟨_,_,.inl (AI ?_),r1,r2,Mh r4 r3,Gr⟩
 simp only [Instr.alloc,Fq,F6 hz,newVar,newRow,run_newObj]
 rfl
theorem VM {c:Ctx} {e:Env} {H:Hp} {A:List V} {a:Act} (hI:Inv M c e H) (hA:FR e A a.tmps) {n:Nat} (hn:¬ e.D n) (hk:c.k≤n) {t:TypeId} {x:Operand} {y:X}
 (hx:Ay M x y=true) (hg:Dj M e y) (hp:(Ac A H n (.box y)).pre) :
 B4 M c e n (Ac A H n (.box y)) (Sem.run M.P (do pure (Next.value (← Instr.box t (a.eval x)))) e.w):=by
 have hv:=Az hI.φ hA hx hg
 simp only [Ac] at hp ⊢
 rw [AR hp] at hv
 have hRy:=JU hp hv
 have hyl:=LB hp hRy
 generalize a.eval x=xv at *
 have hyl':xv.cells.size=(y.ev A).size:=by simpa using hyl
 obtain ⟨r1,r2,r3,r4,_⟩:=hI.newCells hn hk (cells:=xv.cells) (el:=t) hp Aa (by rw [List.take_of_length_le Aa];exact hRy)
 refine ⟨_,_,.inl (AI ?_),r1,r2,Mh r4 r3,Gr⟩
 simp only [Instr.box,newVar,newRow,Fq,run_newObj]
 rfl
theorem SD {c:Ctx} {e:Env} {H:Hp} {A:List V} {a:Act} (hI:Inv M c e H) (hA:FR e A a.tmps) {n:Nat} {x:Operand} {y:X} (hx:Ay M x y=true) (hg:Dj M e y) :
 B4 M c e n (Ac A H n (.mv y)) (Sem.run M.P (pure (Next.value (a.eval x))) e.w) :=
 Ai hI rfl rfl (Az hI.φ hA hx hg)
theorem EY {e:Env} {b:Bool} {x:Value} (h:RV e (.bool b) x):x = .bool b:=QN
theorem BK {e:Env} {k:IntKind} {i:Int} {x:Value} (h:RV e (.int k i) x):x = .int k i:=QN
theorem CE {e:Env} (b:Bool):RV e (.bool b) (.bool b):=by simp [RV,RS,V.isAgg,R]
theorem Bx {e:Env} (k:IntKind) (i:Int):RV e (.int k i) (.int k i):=by simp [RV,RS,V.isAgg,R]
theorem TR {c:Ctx} {e:Env} {H:Hp} {A:List V} {a:Act} (hI:Inv M c e H) (hA:FR e A a.tmps) {n:Nat} {x1 x2 x3:Operand} {y1 y2 y3:X}
 (h1:Ay M x1 y1=true) (g1:Dj M e y1) (h2:Ay M x2 y2=true) (g2:Dj M e y2) (h3:Ay M x3 y3=true) (g3:Dj M e y3) (hp:(Ac A H n (.pick y1 y2 y3)).pre) :
 B4 M c e n (Ac A H n (.pick y1 y2 y3)) (Sem.run M.P (do pure (.value (if ← asBool (a.eval x1) then a.eval x2 else a.eval x3))) e.w):=by
 have v1:=Az hI.φ hA h1 g1
 have v2:=Az hI.φ hA h2 g2
 have v3:=Az hI.φ hA h3 g3
 simp only [Ac] at hp ⊢
 split at hp
 ·rename_i t hy
  simp only [hy] at *
  have e1:=EY v1
  refine Ai hI (x:=if t then a.eval x2 else a.eval x3) ?_ rfl ?_
  ·rw [e1]
   simp only [asBool,Fq]
  ·simp only [F4]
   split
   ·rename_i p q hp' hq'
    rw [hp'] at v2
    rw [hq'] at v3
    rw [EY v2,EY v3]
    cases t <;> simp [CE]
   ·cases t
    ·exact v3
    ·exact v2
 ·exact hp.elim
theorem IX {P:Program} {w:World} (op:BinOp) (t:TypeId) (x y:Operand) (k k':IntKind) (i j:Int):(eqGuard op t x y (.int k i) (.int k' j)).run P w = .ok () w:=by
 unfold eqGuard
 cases op <;> rfl
theorem Y1 {c:Ctx} {e:Env} {H:Hp} {A:List V} {a:Act} (hI:Inv M c e H) (hA:FR e A a.tmps) {n:Nat} {t:TypeId} {op:BinOp} {x1 x2:Operand} {y1 y2:X}
 (h1:Ay M x1 y1=true) (g1:Dj M e y1) (h2:Ay M x2 y2=true) (g2:Dj M e y2) (hp:(Ac A H n (.ari op y1 y2)).pre) :
 B4 M c e n (Ac A H n (.ari op y1 y2)) (Sem.run M.P (do pure (Next.value (← (do eqGuard op t x1 x2 (a.eval x1) (a.eval x2);binOp op t (a.eval x1) (a.eval x2))))) e.w):=by
 have v1:=Az hI.φ hA h1 g1
 have v2:=Az hI.φ hA h2 g2
 simp only [Ac,AV] at hp ⊢
 split at hp
 ·rename_i k i k' j hy1 hy2
  rw [hy1] at v1
  rw [hy2] at v2
  have e1:=BK v1
  have e2:=BK v2
  rw [e1,e2]
  have hguard:=IX (P:=M.P) (w:=e.w) op t x1 x2 k k' i j
  cases op <;> simp only at hp ⊢
  case shl =>
   refine Ai hI (x:=.int k (k.wrap (i * 2 ^ min j.toNat k.bits))) (AI ?_) rfl (Bx _ _)
   rw [Sem.run_bind,hguard]
   have:¬ j < 0:=Aa
   simp [binOp,Op.shift,this]
  case shr =>
   refine Ai hI (x:=.int k (i.fdiv (2 ^ min j.toNat k.bits))) (AI ?_) rfl (Bx _ _)
   rw [Sem.run_bind,hguard]
   have:¬ j < 0:=Aa
   simp [binOp,Op.shift,this]
  case quo =>
   obtain ⟨rfl,hj⟩:=hp
   refine Ai hI (x:=.int k (k.wrap (i.tdiv j))) (AI ?_) rfl (Bx _ _)
   rw [Sem.run_bind,hguard]
   simp [binOp,Op.intDiv,hj]
  case rem =>
   obtain ⟨rfl,hj⟩:=hp
   refine Ai hI (x:=.int k (i.tmod j)) (AI ?_) rfl (Bx _ _)
   rw [Sem.run_bind,hguard]
   simp [binOp,Op.intDiv,hj]
  case lss=>subst hp;exact Ai hI (x:=.bool (decide (i < j))) (AI zq8) rfl (CE _)
  case leq=>subst hp;exact Ai hI (x:=.bool (decide (i≤j))) (AI zq8) rfl (CE _)
  case gtr=>subst hp;exact Ai hI (x:=.bool (decide (j < i))) (AI zq8) rfl (CE _)
  case geq=>subst hp;exact Ai hI (x:=.bool (decide (j≤i))) (AI zq8) rfl (CE _)
  case eql=>subst hp;exact Ai hI (x:=.bool (decide (i=j))) (AI (by rw [Sem.run_bind,hguard];simp [binOp,Op.intCmp,BEq.beq])) rfl (CE _)
  case neq=>subst hp;exact Ai hI (x:=.bool (!decide (i=j))) (AI (by rw [Sem.run_bind,hguard];simp [binOp,Op.intCmp,bne,BEq.beq])) rfl (CE _)
  all_goals
   subst hp
   refine Ai hI (AI ?_) rfl (Bx _ _)
   rw [Sem.run_bind,hguard]
   simp [binOp,Op.intArith,Op.intBits]
   try rfl
 ·exact hp.elim
theorem Ab6 {c:Ctx} {e:Env} {H:Hp} {A:List V} {a:Act} (hI:Inv M c e H) (hA:FR e A a.tmps) {n:Nat} {op:UnOp} {x1:Operand} {y1:X}
 (h1:Ay M x1 y1=true) (g1:Dj M e y1) (hp:(Ac A H n (.un op y1)).pre) :
 B4 M c e n (Ac A H n (.un op y1)) (Sem.run M.P (do pure (Next.value (← Op.unary op (a.eval x1)))) e.w):=by
 have v1:=Az hI.φ hA h1 g1
 simp only [Ac,Vb] at hp ⊢
 split at hp
 ·rename_i b hy
  rw [hy] at v1
  rw [EY v1]
  exact Ai hI (x:=.bool (!b)) (AI rfl) rfl (CE _)
 ·rename_i k i hy
  rw [hy] at v1
  rw [BK v1]
  exact Ai hI (x:=.int k (k.wrap (0 - i))) (AI rfl) rfl (Bx _ _)
 ·rename_i k i hy
  rw [hy] at v1
  rw [BK v1]
  refine Ai hI (AI ?_) rfl (Bx _ _)
  simp [Op.unary,Op.intBits]
  try rfl
 ·exact hp.elim
theorem T7 {c:Ctx} {e:Env} {H:Hp} {A:List V} {a:Act} (hI:Inv M c e H) (hA:FR e A a.tmps) {n:Nat} {s d:TypeId} {k:IntKind} {ds:TypeDesc} {x1:Operand} {y1:X}
 (hd:M.P.underlying d=some (.int k)) (hs:M.P.underlying s=some ds) (h1:Ay M x1 y1=true) (g1:Dj M e y1) (hp:(Ac A H n (.conv k y1)).pre) :
 B4 M c e n (Ac A H n (.conv k y1)) (Sem.run M.P (do pure (Next.value (← convert s d (a.eval x1)))) e.w):=by
 have v1:=Az hI.φ hA h1 g1
 simp only [Ac] at hp ⊢
 split at hp
 ·rename_i k' i hy
  rw [hy] at v1
  rw [BK v1]
  refine Ai hI (x:=.int k (k.wrap i)) (AI ?_) rfl (Bx _ _)
  simp only [convert,Sa,run_underlying hs,run_underlying hd]
  cases ds <;> rfl
 ·exact hp.elim
variable {M:Seat}
theorem D7 (b o n:Nat):(⟨b,o,none⟩:Addr).add n=⟨b,o + n,none⟩:=by
 unfold Addr.add;split
 ·rename_i h;subst h;rfl
 ·rfl
theorem MS {e:Env} {id:Nat} {p:List Stp} {x:Value} (h:RV e (.ptr id p) x):e.D id∧x = .pointer (some ⟨e.ρ id,As p,none⟩):=QN
theorem HC {e:Env} {id:Nat} {p:List Stp} {b o:Nat} (hD:e.D id) (hb:b=e.ρ id) (ho:o=As p):RV e (.ptr id p) (.pointer (some ⟨b,o,none⟩)):=by
 subst hb;subst ho;simp [RV,RS,V.isAgg,R,hD]
theorem Nm {e:Env} {v:V} {x:Value} (h:RV e (.imm v) x):∃ b o c el fz,x = .pointer (some ⟨b,o,none⟩)∧e.im b∧e.w.heap[b]?=some (.cells c el fz)∧o + v.size≤c.size∧R e v ((c.toList.drop o).take v.size):=by
 simpa [RV,RS,V.isAgg,R] using h
theorem H8 {e:Env} {v:V} {b o:Nat} {c:Array Value} {el:TypeId} {fz:Nat × Nat} (hi:e.im b) (hb:e.w.heap[b]?=some (.cells c el fz)) (hl:o + v.size≤c.size) (hR:R e v ((c.toList.drop o).take v.size)) :
 RV e (.imm v) (.pointer (some ⟨b,o,none⟩)):=by
 simp only [RV,RS,V.isAgg,R]
 exact ⟨b,o,c,el,fz,rfl,hi,hb,hl,hR⟩
theorem Te {e:Env} {v:V} {p:List Stp} {c:Array Value} {o:Nat} (hk:v.ok p) (hl:o + v.size≤c.size) (hR:R e v ((c.toList.drop o).take v.size)) :
 o + As p + (v.get p).size≤c.size∧R e (v.get p) ((c.toList.drop (o + As p)).take (v.get p).size):=by
 have hlen:((c.toList.drop o).take v.size).length=v.size:=Fu
 obtain ⟨h1,h2⟩:=DT hR hlen hk
 rw [hlen] at h1
 rw [AS _ _ _ _ _ h1] at h2
 exact ⟨by omega,h2⟩
theorem TN {c:Ctx} {e:Env} {H:Hp} {A:List V} {a:Act} (hI:Inv M c e H) (hA:FR e A a.tmps) {n:Nat} {o:Oper} {x:Operand} {y:X} (ho:o.op = .nilCheck x)
 (hx:Ay M x y=true) (hg:Dj M e y) (hp:(Ac A H n (.nilc y)).pre) :
 B4 M c e n (Ac A H n (.nilc y)) (Sem.run M.P (execOp a.eval o) e.w):=by
 have hv:=Az hI.φ hA hx hg
 simp only [execOp,ho]
 simp only [Ac] at hp ⊢
 split at hp
 ·rename_i id p hy
  rw [hy] at hv
  refine Ai hI (x:=a.eval x) ?_ rfl hv
  rw [(MS hv).2];rfl
 ·rename_i v hy
  rw [hy] at hv
  refine Ai hI (x:=a.eval x) ?_ rfl hv
  obtain ⟨b,o,_,_,_,hx',_⟩:=Nm hv
  rw [hx'];rfl
 ·rename_i f cp hy
  rw [hy] at hv
  refine Ai hI (x:=a.eval x) ?_ rfl hv
  simp only [RV,RS,V.isAgg,R,Fw] at hv
  obtain ⟨xs,hx',_⟩:=hv
  rw [hx',PT,if_pos hp];rfl
 ·rename_i t v hy
  rw [hy] at hv
  refine Ai hI (x:=a.eval x) ?_ rfl hv
  simp only [RV,RS,V.isAgg,R,Fw] at hv
  obtain ⟨xs,hx',_⟩:=hv
  rw [hx'];rfl
 ·exact hp.elim
theorem U0 {c:Ctx} {e:Env} {H:Hp} {A:List V} {a:Act} (hI:Inv M c e H) (hA:FR e A a.tmps) {n:Nat} {s:TypeId} {fs:Array Field} {i:Nat} {f:Field} {sz:Nat} {x:Operand} {y:X}
 (hs:M.P.underlying s=some (.struct fs)) (hf:fs[i]?=some f) (hz:Fx M f.type=some sz) (hz0:sz ≠ 0) (hx:Ay M x y=true) (hg:Dj M e y) (hp:(Ac A H n (.fadr f.offset y)).pre) :
 B4 M c e n (Ac A H n (.fadr f.offset y)) (Sem.run M.P (do pure (Next.value (← Instr.fieldAt s (a.eval x) i))) e.w):=by
 have hv:=Az hI.φ hA hx hg
 have hrun:∀ b o,(Instr.fieldAt s (.pointer (some ⟨b,o,none⟩)) i).run M.P e.w = .ok (.pointer (some ⟨b,o + f.offset,none⟩)) e.w:=by
  intro b o
  simp only [Instr.fieldAt,Fq,run_underlying hs,hf,Instr.sureAddr,fieldPlace,BE hz,hz0,if_false,D7]
 simp only [Ac] at hp ⊢
 split at hp
 ·rename_i id p hy
  rw [hy] at hv
  obtain ⟨hD,hx'⟩:=MS hv
  rw [hx']
  exact Ai hI (AI (hrun _ _)) rfl (HC hD rfl (by rw [CT];rfl))
 ·rename_i v hy
  rw [hy] at hv
  obtain ⟨b,o,cc,el,fz,hx',hi,hb,hl,hR⟩:=Nm hv
  rw [hx']
  obtain ⟨k1,k2⟩:=Te hp.2 hl hR
  simp only [As,Stp.off,Nat.add_zero] at k1 k2
  exact Ai hI (AI (hrun _ _)) rfl (H8 hi hb k1 k2)
 ·exact hp.elim
theorem T3 {c:Ctx} {e:Env} {H:Hp} {A:List V} {a:Act} (hI:Inv M c e H) (hA:FR e A a.tmps) {n:Nat} {t el:TypeId} {m sz:Nat} {x x2:Operand} {y y2:X}
 (ht:M.P.underlying t=some (.array m el)) (hz:Fx M el=some sz) (hx:Ay M x y=true) (hg:Dj M e y) (hx2:Ay M x2 y2=true) (hg2:Dj M e y2) (hp:(Ac A H n (.iarr m sz y y2)).pre) :
 B4 M c e n (Ac A H n (.iarr m sz y y2)) (Sem.run M.P (do pure (Next.value (← Instr.indexAt t (a.eval x) (a.eval x2)))) e.w):=by
 have hv:=Az hI.φ hA hx hg
 have hv2:=Az hI.φ hA hx2 hg2
 have hrun:∀ b o k (i:Int),0≤i→i < m→(Instr.indexAt t (.pointer (some ⟨b,o,none⟩)) (.int k i)).run M.P e.w = .ok (.pointer (some ⟨b,o + i.toNat * sz,none⟩)) e.w:=by
  intro b o k i h0 h1
  simp only [Instr.indexAt,asIntOf,Instr.sureAddr,Fq,run_underlying ht]
  simp [h0,h1,BE hz,D7]
 simp only [Ac] at hp ⊢
 split at hp
 ·rename_i id p k i hy hy2
  rw [hy] at hv;rw [hy2] at hv2
  obtain ⟨hD,hx'⟩:=MS hv
  rw [hx',BK hv2]
  exact Ai hI (AI (hrun _ _ _ _ hp.1 hp.2)) rfl (HC hD rfl (by rw [CT];rfl))
 ·rename_i v k i hy hy2
  rw [hy] at hv;rw [hy2] at hv2
  obtain ⟨b,o,cc,el',fz,hx',hi,hb,hl,hR⟩:=Nm hv
  rw [hx',BK hv2]
  obtain ⟨k1,k2⟩:=Te hp.2.2 hl hR
  simp only [As,Stp.off,Nat.add_zero] at k1 k2
  exact Ai hI (AI (hrun _ _ _ _ hp.1.1 hp.1.2)) rfl (H8 hi hb k1 k2)
 ·exact hp.elim
theorem H3 {e:Env} {id:Nat} {p:List Stp} {o len sz:Nat} {x:Value} (h:RV e (.sl id p o len sz) x):e.D id∧∃ b cap,x = .slice b len cap∧(cap=0 ∨ b=some ⟨e.ρ id,As p + o * sz,none⟩)∧len≤cap∧As p + (o + cap) * sz≤CG e.w (e.ρ id):=by
 simp only [RV,RS,V.isAgg,R] at h
 obtain ⟨h1,b,cap,h2,h3⟩:=h
 simp only [Fw] at h2
 exact ⟨h1,b,cap,h2,h3⟩
theorem EQ {e:Env} {id:Nat} {p:List Stp} {o len sz cap:Nat} {b:Option Addr} (hD:e.D id) (hb:cap=0 ∨ b=some ⟨e.ρ id,As p + o * sz,none⟩) (hl:len≤cap) (hs:As p + (o + cap) * sz≤CG e.w (e.ρ id)):RV e (.sl id p o len sz) (.slice b len cap):=by
 simp only [RV,RS,V.isAgg,R]
 exact ⟨hD,b,cap,rfl,hb,hl,hs⟩
theorem Ii {e:Env} {sz n:Nat} {f:Nat→V} {x:Value} (h:RV e (.lst sz n f) x):∃ a cap,x = .slice a n cap∧n≤cap∧(0 < n→∃ b o c el fz,a=some ⟨b,o,none⟩∧e.im b∧e.w.heap[b]?=some (.cells c el fz)∧o + n * sz≤c.size ∧
 ∀ i,i < n→((f i).solid=true∧(f i).size=sz)∧R e (f i) ((c.toList.drop (o + i * sz)).take sz)):=by
 simp only [RV,RS,V.isAgg,R] at h
 obtain ⟨a,cap,h2,h3⟩:=h
 simp only [Fw] at h2
 exact ⟨a,cap,h2,h3⟩
theorem OX {e:Env} {sz n:Nat} {f:Nat→V} {a:Option Addr} {cap:Nat} (h:n≤cap) (h2:0 < n→∃ b o c el fz,a=some ⟨b,o,none⟩∧e.im b∧e.w.heap[b]?=some (.cells c el fz)∧o + n * sz≤c.size ∧
 ∀ i,i < n→((f i).solid=true∧(f i).size=sz)∧R e (f i) ((c.toList.drop (o + i * sz)).take sz)):RV e (.lst sz n f) (.slice a n cap):=by
 simp only [RV,RS,V.isAgg,R]
 exact ⟨a,cap,rfl,h,h2⟩
theorem Vl {c:Ctx} {e:Env} {H:Hp} {A:List V} {a:Act} (hI:Inv M c e H) (hA:FR e A a.tmps) {n:Nat} {t el:TypeId} {sz:Nat} {x x2:Operand} {y y2:X}
 (ht:M.P.underlying t=some (.slice el)) (hz:Fx M el=some sz) (hx:Ay M x y=true) (hg:Dj M e y) (hx2:Ay M x2 y2=true) (hg2:Dj M e y2) (hp:(Ac A H n (.isl sz y y2)).pre) :
 B4 M c e n (Ac A H n (.isl sz y y2)) (Sem.run M.P (do pure (Next.value (← Instr.indexAt t (a.eval x) (a.eval x2)))) e.w):=by
 have hv:=Az hI.φ hA hx hg
 have hv2:=Az hI.φ hA hx2 hg2
 have hrun:∀ (b:Addr) (len cap:Nat) k (i:Int),0≤i→i < len→(Instr.indexAt t (.slice (some b) len cap) (.int k i)).run M.P e.w = .ok (.pointer (some (b.add (i.toNat * sz)))) e.w:=by
  intro b len cap k i h0 h1
  simp only [Instr.indexAt,asIntOf,Fq,run_underlying ht]
  simp [h0,h1,BE hz]
 simp only [Ac] at hp ⊢
 split at hp
 ·rename_i id p o m sz' k i hy hy2
  rw [hy] at hv;rw [hy2] at hv2
  obtain ⟨⟨h0,h1⟩,rfl⟩:=hp
  obtain ⟨hD,b,cap,hx',hb,hl,_⟩:=H3 hv
  have hcap:cap ≠ 0:=Aa
  have hb':=hb.resolve_left hcap
  rw [hx',BK hv2,hb']
  refine Ai hI (AI (hrun _ _ _ _ _ h0 h1)) rfl ?_
  rw [D7]
  exact HC hD rfl (by rw [CT];simp only [Stp.off,Nat.add_mul];omega)
 ·rename_i sz' m f k i hy hy2
  rw [hy] at hv;rw [hy2] at hv2
  obtain ⟨⟨h0,h1⟩,rfl⟩:=hp
  obtain ⟨b,cap,hx',hl,hh⟩:=Ii hv
  obtain ⟨bb,o,cc,el',fz,rfl,hi,hb,hsz,hR⟩:=hh Aa
  rw [hx',BK hv2]
  refine Ai hI (AI (hrun _ _ _ _ _ h0 h1)) rfl ?_
  rw [D7]
  have hlt:i.toNat < m:=Aa
  obtain ⟨⟨_,h3⟩,h4⟩:=hR i.toNat hlt
  have hm:i.toNat * sz' + sz'≤m * sz':=by
   have:(i.toNat + 1) * sz'≤m * sz':=Nat.mul_le_mul_right _ hlt
   rw [Nat.add_mul] at this;omega
  exact H8 hi hb (by rw [h3];omega) (by rw [h3];exact h4)
 ·exact hp.elim
theorem Ke {t:TypeId} {agg:Bool} {sz:Nat} (hs:Fx M t=some sz) (ha:HF M t=some agg) (w:World) {cs:Array Value} {o:Nat} (hl:o + sz≤cs.size) (h1:agg=false→sz=1) :
 (part t cs o).run M.P w = .ok (if agg then .agg ((cs.toList.drop o).take sz).toArray else cs.getD o undef) w:=by
 unfold part
 simp only [Sa,O5 ha]
 cases agg with
 | true =>
   simp only [if_true,Fq,BE hs]
   congr 2
   apply Array.ext'
   simp [Array.toList_extract,List.extract_eq_take_drop]
 | false =>
   have:=h1 rfl
   subst this
   have hlt:o < cs.size:=Aa
   simp [hlt]
theorem W0 {c:Ctx} {e:Env} {H:Hp} {A:List V} {a:Act} (hI:Inv M c e H) (hA:FR e A a.tmps) {n:Nat} {t el:TypeId} {m sz:Nat} {agg:Bool} {x x2:Operand} {y y2:X}
 (ht:M.P.underlying t=some (.array m el)) (hz:Fx M el=some sz) (ha:HF M el=some agg) (hx:Ay M x y=true) (hg:Dj M e y) (hx2:Ay M x2 y2=true) (hg2:Dj M e y2) (hp:(Ac A H n (.idx m sz agg y y2)).pre) :
 B4 M c e n (Ac A H n (.idx m sz agg y y2)) (Sem.run M.P (do pure (Next.value (← Instr.index t (a.eval x) (a.eval x2)))) e.w):=by
 have hv:=Az hI.φ hA hx hg
 have hv2:=Az hI.φ hA hx2 hg2
 simp only [Ac] at hp ⊢
 split at hp
 ·rename_i sz' m' f k i hy hy2
  rw [hy] at hv;rw [hy2] at hv2
  obtain ⟨⟨h0,h1⟩,rfl,rfl,hagg⟩:=hp
  simp only [RV,RS,V.isAgg,R] at hv
  obtain ⟨cs,hx',hlen,hR⟩:=hv
  have hlt:i.toNat < m':=Aa
  obtain ⟨⟨h3,h4⟩,h5⟩:=hR i.toNat hlt
  have hm:i.toNat * sz' + sz'≤m' * sz':=by
   have:(i.toNat + 1) * sz'≤m' * sz':=Nat.mul_le_mul_right _ hlt
   rw [Nat.add_mul] at this;omega
  obtain ⟨k1,k2⟩:=DP (c:=cs.toArray) (o:=i.toNat * sz') h3 h4 hagg Fu (by simpa using h5)
  refine Ai hI (AI ?_) rfl k2
  rw [hx',BK hv2]
  simp only [Instr.index,asIntOf,Fq,run_underlying ht]
  simp only [h0,h1,and_self,if_true,Sa,BE hz]
  exact Ke hz ha e.w Fu k1
 ·exact hp.elim
theorem VR {c:Ctx} {e:Env} {H:Hp} {A:List V} {a:Act} (hI:Inv M c e H) (hA:FR e A a.tmps) {n:Nat} {t:TypeId} {fs:Array Field} {i:Nat} {f:Field} {sz:Nat} {agg:Bool} {x:Operand} {y:X}
 (ht:M.P.underlying t=some (.struct fs)) (hf:fs[i]?=some f) (hz:Fx M f.type=some sz) (ha:HF M f.type=some agg) (hx:Ay M x y=true) (hg:Dj M e y) (hp:(Ac A H n (.fld f.offset sz agg y)).pre) :
 B4 M c e n (Ac A H n (.fld f.offset sz agg y)) (Sem.run M.P (do pure (Next.value (← Instr.field t (a.eval x) i))) e.w):=by
 have hv:=Az hI.φ hA hx hg
 simp only [Ac] at hp ⊢
 split at hp
 ·rename_i m chn hy
  rw [hy] at hv
  obtain ⟨hh,hsol,hsz,hagg⟩:=hp
  simp only [RV,RS,V.isAgg,R] at hv
  obtain ⟨cs,hx',hlen,_,hR⟩:=hv
  obtain ⟨h1,h2⟩:=GO hR hh
  rw [hsz] at h1 h2
  obtain ⟨k1,k2⟩:=DP (c:=cs.toArray) (o:=f.offset) hsol hsz hagg (by simpa using h1) (by simpa using h2)
  refine Ai hI (AI ?_) rfl k2
  rw [hx']
  simp only [Instr.field,Fq,run_underlying ht,hf,asAgg]
  exact Ke hz ha e.w (by simpa using h1) k1
 ·exact hp.elim
end Mv
