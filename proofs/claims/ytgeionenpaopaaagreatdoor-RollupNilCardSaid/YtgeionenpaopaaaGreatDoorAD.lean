/- A part. -/
import Derived.Test.YtgeionenpaopaaaGreatDoorAC
set_option linter.all false
namespace Mv
open Go
variable {M:Seat}
theorem AB {P:Program} {s:Sem Value} {w w':World} {x:Value} (h:s.run P w = .ok x w'):(do pure (Next.value (← s)):Sem Next).run P w = .ok (.value x) w':=by
 rw [Sem.run_bind,h];rfl
theorem Gh {t:TypeId} {x:Value} (h:(M.P.info? t).bind (·.zero)=some x) (w:World):(zeroValue t).run M.P w = .ok x w:=by
 cases hi:M.P.info? t with
 | none=>simp [hi] at h
 | some i=>simp [hi] at h;simp [zeroValue,typeInfo,hi,h]
theorem Inv.newCells {c:Ctx} {e:Env} {H:Hp} (hI:Inv M c e H) {n:Nat} (hn:¬ e.D n) (hk:c.k≤n) {cells:Array Value} {el:TypeId} {z:V} (hs:z.solid=true) (hsz:z.size≤cells.size) (hR:R e z (cells.toList.take z.size)) :
 e.le (e.new n (.cells cells el))∧Inv M c (e.new n (.cells cells el)) ((n,z) :: H)∧(e.new n (.cells cells el)).ρ n=e.w.heap.size∧(e.new n (.cells cells el)).D n∧BM (e.new n (.cells cells el)).w e.w.heap.size=cells.size:=by
 have hle:=Env.le_new (.cells cells el) hn hI.imlt;have hρ:(e.new n (.cells cells el)).ρ n=e.w.heap.size:=QQ;have hh:(e.new n (.cells cells el)).w.heap[e.w.heap.size]?=some (.cells cells el):=BG _ _;refine ⟨hle,hI.new hn hk ((Cn hs).2 ⟨cells,el,by rw [hρ];exact hh,hsz,Bx hle hR⟩),hρ,.inl rfl,?_⟩;unfold BM;rw [hh]
theorem FT {e:Env} {n:Nat} {o:Obj}:∀ id,(e.new n o).D id→e.D id ∨ id=n:=fun _ h=>h.elim .inr .inl
theorem Mf {e:Env} {n:Nat} (hD:e.D n) {b:Nat} (hρ:e.ρ n=b):RV e (.ptr n []) (.pointer (some ⟨b,0,none⟩)):=by
 subst hρ;simp [RV,RS,V.isAgg,R,At,hD]
theorem Qz {c:Ctx} {e:Env} {H:Hp} {A:List V} (hI:Inv M c e H) {n:Nat} (hn:¬ e.D n) (hk:c.k≤n) {t:TypeId} {z:Z} {x:Value} (hz:(M.P.info? t).bind (·.zero)=some x) (hzc:z.chk x=true) :
 Bm M c e n (Ag A H n (.alloc z)) (Sem.run M.P (do pure (Next.value (← Instr.alloc t true (.tuple #[])))) e.w):=by
 obtain ⟨h1,h2,h3,h4⟩:=Z.chk_R e hzc;obtain ⟨r1,r2,r3,r4,_⟩:=hI.newCells hn hk (cells:=x.cells) (el:=t) h3 Aa (by rw [h4,List.take_of_length_le F6];exact h2);refine ⟨_,_,.inl (AB ?_),r1,r2,Mf r4 r3,FT⟩;simp only [Instr.alloc,EP,Gh hz,newVar,newRow,run_newObj];rfl
theorem Wr {c:Ctx} {e:Env} {H:Hp} {A:List V} {a:Act} (hI:Inv M c e H) (hA:FR e A a.tmps) {n:Nat} (hn:¬ e.D n) (hk:c.k≤n) {t:TypeId} {x:Operand} {y:X}
 (hx:A3 M x y=true) (hg:CJ M e y) (hp:(Ag A H n (.box y)).pre) :
 Bm M c e n (Ag A H n (.box y)) (Sem.run M.P (do pure (Next.value (← Instr.box t (a.eval x)))) e.w):=by
 have hv:=Az hI.φ hA hx hg;simp only [Ag] at hp ⊢;rw [Bb hp] at hv;have hRy:=Jx hp hv;have hyl:=Mm hp hRy;generalize a.eval x=xv at *
 have hyl':xv.cells.size=(y.ev A).size:=by simpa using hyl
 obtain ⟨r1,r2,r3,r4,_⟩:=hI.newCells hn hk (cells:=xv.cells) (el:=t) hp Aa (by rw [List.take_of_length_le Aa];exact hRy);refine ⟨_,_,.inl (AB ?_),r1,r2,Mf r4 r3,FT⟩;simp only [Instr.box,newVar,newRow,EP,run_newObj];rfl
theorem SR {c:Ctx} {e:Env} {H:Hp} {A:List V} {a:Act} (hI:Inv M c e H) (hA:FR e A a.tmps) {n:Nat} {x:Operand} {y:X} (hx:A3 M x y=true) (hg:CJ M e y) :
 Bm M c e n (Ag A H n (.mv y)) (Sem.run M.P (pure (Next.value (a.eval x))) e.w) :=
 Ao hI rfl rfl (Az hI.φ hA hx hg)
theorem Fk {e:Env} {b:Bool} {x:Value} (h:RV e (.bool b) x):x = .bool b:=PU
theorem B2 {e:Env} {k:IntKind} {i:Int} {x:Value} (h:RV e (.int k i) x):x = .int k i:=PU
theorem Cu {e:Env} (b:Bool):RV e (.bool b) (.bool b):=by simp [RV,RS,V.isAgg,R]
theorem Br {e:Env} (k:IntKind) (i:Int):RV e (.int k i) (.int k i):=by simp [RV,RS,V.isAgg,R]
theorem Tm {c:Ctx} {e:Env} {H:Hp} {A:List V} {a:Act} (hI:Inv M c e H) (hA:FR e A a.tmps) {n:Nat} {x1 x2 x3:Operand} {y1 y2 y3:X}
 (h1:A3 M x1 y1=true) (g1:CJ M e y1) (h2:A3 M x2 y2=true) (g2:CJ M e y2) (h3:A3 M x3 y3=true) (g3:CJ M e y3) (hp:(Ag A H n (.pick y1 y2 y3)).pre) :
 Bm M c e n (Ag A H n (.pick y1 y2 y3)) (Sem.run M.P (do pure (.value (if ← asBool (a.eval x1) then a.eval x2 else a.eval x3))) e.w):=by
 have v1:=Az hI.φ hA h1 g1;have v2:=Az hI.φ hA h2 g2;have v3:=Az hI.φ hA h3 g3;simp only [Ag] at hp ⊢;split at hp
 ·rename_i t hy;simp only [hy] at *
  have e1:=Fk v1;refine Ao hI (x:=if t then a.eval x2 else a.eval x3) ?_ rfl ?_
  ·rw [e1];simp only [asBool,EP]
  ·simp only [Gd];split
   ·rename_i p q hp' hq';rw [hp'] at v2;rw [hq'] at v3;rw [Fk v2,Fk v3];cases t <;> simp [Cu]
   ·cases t
    ·exact v3
    ·exact v2
 ·exact hp.elim
theorem IX {P:Program} {w:World} (op:BinOp) (t:TypeId) (x y:Operand) (k k':IntKind) (i j:Int):(eqGuard op t x y (.int k i) (.int k' j)).run P w = .ok () w:=by
 unfold eqGuard;cases op <;> rfl
theorem Xp {c:Ctx} {e:Env} {H:Hp} {A:List V} {a:Act} (hI:Inv M c e H) (hA:FR e A a.tmps) {n:Nat} {t:TypeId} {op:BinOp} {x1 x2:Operand} {y1 y2:X}
 (h1:A3 M x1 y1=true) (g1:CJ M e y1) (h2:A3 M x2 y2=true) (g2:CJ M e y2) (hp:(Ag A H n (.ari op y1 y2)).pre) :
 Bm M c e n (Ag A H n (.ari op y1 y2)) (Sem.run M.P (do pure (Next.value (← (do eqGuard op t x1 x2 (a.eval x1) (a.eval x2);binOp op t (a.eval x1) (a.eval x2))))) e.w):=by
 have v1:=Az hI.φ hA h1 g1;have v2:=Az hI.φ hA h2 g2;simp only [Ag,AT] at hp ⊢;split at hp
 ·rename_i k i k' j hy1 hy2;rw [hy1] at v1;rw [hy2] at v2;have e1:=B2 v1;have e2:=B2 v2;rw [e1,e2];have hguard:=IX (P:=M.P) (w:=e.w) op t x1 x2 k k' i j;cases op <;> simp only at hp ⊢;case shl =>
   refine Ao hI (x:=.int k (k.wrap (i * 2 ^ min j.toNat k.bits))) (AB ?_) rfl (Br _ _);rw [Sem.run_bind,hguard];have:¬ j < 0:=Aa;simp [binOp,Op.shift,this]
  case shr =>
   refine Ao hI (x:=.int k (i.fdiv (2 ^ min j.toNat k.bits))) (AB ?_) rfl (Br _ _);rw [Sem.run_bind,hguard];have:¬ j < 0:=Aa;simp [binOp,Op.shift,this]
  case quo =>
   obtain ⟨rfl,hj⟩:=hp;refine Ao hI (x:=.int k (k.wrap (i.tdiv j))) (AB ?_) rfl (Br _ _);rw [Sem.run_bind,hguard];simp [binOp,Op.intDiv,hj]
  case rem =>
   obtain ⟨rfl,hj⟩:=hp;refine Ao hI (x:=.int k (i.tmod j)) (AB ?_) rfl (Br _ _);rw [Sem.run_bind,hguard];simp [binOp,Op.intDiv,hj]
  case lss=>subst hp;exact Ao hI (x:=.bool (decide (i < j))) (AB zq8) rfl (Cu _)
  case leq=>subst hp;exact Ao hI (x:=.bool (decide (i≤j))) (AB zq8) rfl (Cu _)
  case gtr=>subst hp;exact Ao hI (x:=.bool (decide (j < i))) (AB zq8) rfl (Cu _)
  case geq=>subst hp;exact Ao hI (x:=.bool (decide (j≤i))) (AB zq8) rfl (Cu _)
  case eql=>subst hp;exact Ao hI (x:=.bool (decide (i=j))) (AB (by rw [Sem.run_bind,hguard];simp [binOp,Op.intCmp,BEq.beq])) rfl (Cu _)
  case neq=>subst hp;exact Ao hI (x:=.bool (!decide (i=j))) (AB (by rw [Sem.run_bind,hguard];simp [binOp,Op.intCmp,bne,BEq.beq])) rfl (Cu _)
  all_goals
   subst hp;refine Ao hI (AB ?_) rfl (Br _ _);rw [Sem.run_bind,hguard];simp [binOp,Op.intArith,Op.intBits];try rfl
 ·exact hp.elim
theorem Aes {c:Ctx} {e:Env} {H:Hp} {A:List V} {a:Act} (hI:Inv M c e H) (hA:FR e A a.tmps) {n:Nat} {op:UnOp} {x1:Operand} {y1:X}
 (h1:A3 M x1 y1=true) (g1:CJ M e y1) (hp:(Ag A H n (.un op y1)).pre) :
 Bm M c e n (Ag A H n (.un op y1)) (Sem.run M.P (do pure (Next.value (← Op.unary op (a.eval x1)))) e.w):=by
 have v1:=Az hI.φ hA h1 g1;simp only [Ag,V8] at hp ⊢;split at hp
 ·rename_i b hy;rw [hy] at v1;rw [Fk v1];exact Ao hI (x:=.bool (!b)) (AB rfl) rfl (Cu _)
 ·rename_i k i hy;rw [hy] at v1;rw [B2 v1];exact Ao hI (x:=.int k (k.wrap (0 - i))) (AB rfl) rfl (Br _ _)
 ·rename_i k i hy;rw [hy] at v1;rw [B2 v1];refine Ao hI (AB ?_) rfl (Br _ _);simp [Op.unary,Op.intBits];try rfl
 ·exact hp.elim
theorem UB {c:Ctx} {e:Env} {H:Hp} {A:List V} {a:Act} (hI:Inv M c e H) (hA:FR e A a.tmps) {n:Nat} {s d:TypeId} {k:IntKind} {ds:TypeDesc} {x1:Operand} {y1:X}
 (hd:M.P.underlying d=some (.int k)) (hs:M.P.underlying s=some ds) (h1:A3 M x1 y1=true) (g1:CJ M e y1) (hp:(Ag A H n (.conv k y1)).pre) :
 Bm M c e n (Ag A H n (.conv k y1)) (Sem.run M.P (do pure (Next.value (← convert s d (a.eval x1)))) e.w):=by
 have v1:=Az hI.φ hA h1 g1;simp only [Ag] at hp ⊢;split at hp
 ·rename_i k' i hy;rw [hy] at v1;rw [B2 v1];refine Ao hI (x:=.int k (k.wrap i)) (AB ?_) rfl (Br _ _);simp only [convert,QP,run_underlying hs,run_underlying hd];cases ds <;> rfl
 ·exact hp.elim
end Mv
namespace Mv
open Go
variable {M:Seat}
theorem Ds (b o n:Nat):(⟨b,o,none⟩:Addr).add n=⟨b,o + n,none⟩:=by
 unfold Addr.add;split
 ·rename_i h;subst h;rfl
 ·rfl
theorem MP {e:Env} {id:Nat} {p:List Stp} {x:Value} (h:RV e (.ptr id p) x):e.D id∧x = .pointer (some ⟨e.ρ id,At p,none⟩):=PU
theorem HO {e:Env} {id:Nat} {p:List Stp} {b o:Nat} (hD:e.D id) (hb:b=e.ρ id) (ho:o=At p):RV e (.ptr id p) (.pointer (some ⟨b,o,none⟩)):=by
 subst hb;subst ho;simp [RV,RS,V.isAgg,R,hD]
theorem MV {e:Env} {v:V} {x:Value} (h:RV e (.imm v) x):∃ b o c el fz,x = .pointer (some ⟨b,o,none⟩)∧e.im b∧e.w.heap[b]?=some (.cells c el fz)∧o + v.size≤c.size∧R e v ((c.toList.drop o).take v.size):=by
 simpa [RV,RS,V.isAgg,R] using h
theorem Hs {e:Env} {v:V} {b o:Nat} {c:Array Value} {el:TypeId} {fz:Nat × Nat} (hi:e.im b) (hb:e.w.heap[b]?=some (.cells c el fz)) (hl:o + v.size≤c.size) (hR:R e v ((c.toList.drop o).take v.size)) :
 RV e (.imm v) (.pointer (some ⟨b,o,none⟩)):=by
 simp only [RV,RS,V.isAgg,R];exact ⟨b,o,c,el,fz,rfl,hi,hb,hl,hR⟩
theorem SE {e:Env} {v:V} {p:List Stp} {c:Array Value} {o:Nat} (hk:v.ok p) (hl:o + v.size≤c.size) (hR:R e v ((c.toList.drop o).take v.size)) :
 o + At p + (v.get p).size≤c.size∧R e (v.get p) ((c.toList.drop (o + At p)).take (v.get p).size):=by
 have hlen:((c.toList.drop o).take v.size).length=v.size:=F6;obtain ⟨h1,h2⟩:=DP hR hlen hk;rw [hlen] at h1;rw [AS _ _ _ _ _ h1] at h2;exact ⟨by omega,h2⟩
theorem Uk {c:Ctx} {e:Env} {H:Hp} {A:List V} {a:Act} (hI:Inv M c e H) (hA:FR e A a.tmps) {n:Nat} {o:Oper} {x:Operand} {y:X} (ho:o.op = .nilCheck x)
 (hx:A3 M x y=true) (hg:CJ M e y) (hp:(Ag A H n (.nilc y)).pre) :
 Bm M c e n (Ag A H n (.nilc y)) (Sem.run M.P (execOp a.eval o) e.w):=by
 have hv:=Az hI.φ hA hx hg;simp only [execOp,ho];simp only [Ag] at hp ⊢;split at hp
 ·rename_i id p hy;rw [hy] at hv;refine Ao hI (x:=a.eval x) ?_ rfl hv;rw [(MP hv).2];rfl
 ·rename_i v hy;rw [hy] at hv;refine Ao hI (x:=a.eval x) ?_ rfl hv;obtain ⟨b,o,_,_,_,hx',_⟩:=MV hv;rw [hx'];rfl
 ·rename_i f cp hy;rw [hy] at hv;refine Ao hI (x:=a.eval x) ?_ rfl hv;simp only [RV,RS,V.isAgg,R,E0] at hv;obtain ⟨xs,hx',_⟩:=hv;rw [hx',P7,if_pos hp];rfl
 ·rename_i t v hy;rw [hy] at hv;refine Ao hI (x:=a.eval x) ?_ rfl hv;simp only [RV,RS,V.isAgg,R,E0] at hv;obtain ⟨xs,hx',_⟩:=hv;rw [hx'];rfl
 ·exact hp.elim
theorem UQ {c:Ctx} {e:Env} {H:Hp} {A:List V} {a:Act} (hI:Inv M c e H) (hA:FR e A a.tmps) {n:Nat} {s:TypeId} {fs:Array Field} {i:Nat} {f:Field} {sz:Nat} {x:Operand} {y:X}
 (hs:M.P.underlying s=some (.struct fs)) (hf:fs[i]?=some f) (hz:FD M f.type=some sz) (hz0:sz ≠ 0) (hx:A3 M x y=true) (hg:CJ M e y) (hp:(Ag A H n (.fadr f.offset y)).pre) :
 Bm M c e n (Ag A H n (.fadr f.offset y)) (Sem.run M.P (do pure (Next.value (← Instr.fieldAt s (a.eval x) i))) e.w):=by
 have hv:=Az hI.φ hA hx hg;have hrun:∀ b o,(Instr.fieldAt s (.pointer (some ⟨b,o,none⟩)) i).run M.P e.w = .ok (.pointer (some ⟨b,o + f.offset,none⟩)) e.w:=by
  intro b o;simp only [Instr.fieldAt,EP,run_underlying hs,hf,Instr.sureAddr,fieldPlace,Bv hz,hz0,if_false,Ds]
 simp only [Ag] at hp ⊢;split at hp
 ·rename_i id p hy;rw [hy] at hv;obtain ⟨hD,hx'⟩:=MP hv;rw [hx'];exact Ao hI (AB (hrun _ _)) rfl (HO hD rfl (by rw [CA];rfl))
 ·rename_i v hy;rw [hy] at hv;obtain ⟨b,o,cc,el,fz,hx',hi,hb,hl,hR⟩:=MV hv;rw [hx'];obtain ⟨k1,k2⟩:=SE hp.2 hl hR;simp only [At,Stp.off,Nat.add_zero] at k1 k2;exact Ao hI (AB (hrun _ _)) rfl (Hs hi hb k1 k2)
 ·exact hp.elim
theorem TD {c:Ctx} {e:Env} {H:Hp} {A:List V} {a:Act} (hI:Inv M c e H) (hA:FR e A a.tmps) {n:Nat} {t el:TypeId} {m sz:Nat} {x x2:Operand} {y y2:X}
 (ht:M.P.underlying t=some (.array m el)) (hz:FD M el=some sz) (hx:A3 M x y=true) (hg:CJ M e y) (hx2:A3 M x2 y2=true) (hg2:CJ M e y2) (hp:(Ag A H n (.iarr m sz y y2)).pre) :
 Bm M c e n (Ag A H n (.iarr m sz y y2)) (Sem.run M.P (do pure (Next.value (← Instr.indexAt t (a.eval x) (a.eval x2)))) e.w):=by
 have hv:=Az hI.φ hA hx hg;have hv2:=Az hI.φ hA hx2 hg2;have hrun:∀ b o k (i:Int),0≤i→i < m→(Instr.indexAt t (.pointer (some ⟨b,o,none⟩)) (.int k i)).run M.P e.w = .ok (.pointer (some ⟨b,o + i.toNat * sz,none⟩)) e.w:=by
  intro b o k i h0 h1;simp only [Instr.indexAt,asIntOf,Instr.sureAddr,EP,run_underlying ht];simp [h0,h1,Bv hz,Ds]
 simp only [Ag] at hp ⊢;split at hp
 ·rename_i id p k i hy hy2;rw [hy] at hv;rw [hy2] at hv2;obtain ⟨hD,hx'⟩:=MP hv;rw [hx',B2 hv2];exact Ao hI (AB (hrun _ _ _ _ hp.1 hp.2)) rfl (HO hD rfl (by rw [CA];rfl))
 ·rename_i v k i hy hy2;rw [hy] at hv;rw [hy2] at hv2;obtain ⟨b,o,cc,el',fz,hx',hi,hb,hl,hR⟩:=MV hv;rw [hx',B2 hv2];obtain ⟨k1,k2⟩:=SE hp.2.2 hl hR;simp only [At,Stp.off,Nat.add_zero] at k1 k2;exact Ao hI (AB (hrun _ _ _ _ hp.1.1 hp.1.2)) rfl (Hs hi hb k1 k2)
 ·exact hp.elim
theorem Hj {e:Env} {id:Nat} {p:List Stp} {o len sz:Nat} {x:Value} (h:RV e (.sl id p o len sz) x):e.D id∧∃ b cap,x = .slice b len cap∧(cap=0 ∨ b=some ⟨e.ρ id,At p + o * sz,none⟩)∧len≤cap∧At p + (o + cap) * sz≤BM e.w (e.ρ id):=by
 simp only [RV,RS,V.isAgg,R] at h;obtain ⟨h1,b,cap,h2,h3⟩:=h;simp only [E0] at h2;exact ⟨h1,b,cap,h2,h3⟩
theorem Ff {e:Env} {id:Nat} {p:List Stp} {o len sz cap:Nat} {b:Option Addr} (hD:e.D id) (hb:cap=0 ∨ b=some ⟨e.ρ id,At p + o * sz,none⟩) (hl:len≤cap) (hs:At p + (o + cap) * sz≤BM e.w (e.ρ id)):RV e (.sl id p o len sz) (.slice b len cap):=by
 simp only [RV,RS,V.isAgg,R];exact ⟨hD,b,cap,rfl,hb,hl,hs⟩
theorem Io {e:Env} {sz n:Nat} {f:Nat→V} {x:Value} (h:RV e (.lst sz n f) x):∃ a cap,x = .slice a n cap∧n≤cap∧(0 < n→∃ b o c el fz,a=some ⟨b,o,none⟩∧e.im b∧e.w.heap[b]?=some (.cells c el fz)∧o + n * sz≤c.size ∧
 ∀ i,i < n→((f i).solid=true∧(f i).size=sz)∧R e (f i) ((c.toList.drop (o + i * sz)).take sz)):=by
 simp only [RV,RS,V.isAgg,R] at h;obtain ⟨a,cap,h2,h3⟩:=h;simp only [E0] at h2;exact ⟨a,cap,h2,h3⟩
theorem Oo {e:Env} {sz n:Nat} {f:Nat→V} {a:Option Addr} {cap:Nat} (h:n≤cap) (h2:0 < n→∃ b o c el fz,a=some ⟨b,o,none⟩∧e.im b∧e.w.heap[b]?=some (.cells c el fz)∧o + n * sz≤c.size ∧
 ∀ i,i < n→((f i).solid=true∧(f i).size=sz)∧R e (f i) ((c.toList.drop (o + i * sz)).take sz)):RV e (.lst sz n f) (.slice a n cap):=by
 simp only [RV,RS,V.isAgg,R];exact ⟨a,cap,rfl,h,h2⟩
theorem W6 {c:Ctx} {e:Env} {H:Hp} {A:List V} {a:Act} (hI:Inv M c e H) (hA:FR e A a.tmps) {n:Nat} {t el:TypeId} {sz:Nat} {x x2:Operand} {y y2:X}
 (ht:M.P.underlying t=some (.slice el)) (hz:FD M el=some sz) (hx:A3 M x y=true) (hg:CJ M e y) (hx2:A3 M x2 y2=true) (hg2:CJ M e y2) (hp:(Ag A H n (.isl sz y y2)).pre) :
 Bm M c e n (Ag A H n (.isl sz y y2)) (Sem.run M.P (do pure (Next.value (← Instr.indexAt t (a.eval x) (a.eval x2)))) e.w):=by
 have hv:=Az hI.φ hA hx hg;have hv2:=Az hI.φ hA hx2 hg2;have hrun:∀ (b:Addr) (len cap:Nat) k (i:Int),0≤i→i < len→(Instr.indexAt t (.slice (some b) len cap) (.int k i)).run M.P e.w = .ok (.pointer (some (b.add (i.toNat * sz)))) e.w:=by
  intro b len cap k i h0 h1;simp only [Instr.indexAt,asIntOf,EP,run_underlying ht];simp [h0,h1,Bv hz]
 simp only [Ag] at hp ⊢;split at hp
 ·rename_i id p o m sz' k i hy hy2;rw [hy] at hv;rw [hy2] at hv2;obtain ⟨⟨h0,h1⟩,rfl⟩:=hp;obtain ⟨hD,b,cap,hx',hb,hl,_⟩:=Hj hv;have hcap:cap ≠ 0:=Aa;have hb':=hb.resolve_left hcap;rw [hx',B2 hv2,hb'];refine Ao hI (AB (hrun _ _ _ _ _ h0 h1)) rfl ?_;rw [Ds];exact HO hD rfl (by rw [CA];simp only [Stp.off,Nat.add_mul];omega)
 ·rename_i sz' m f k i hy hy2;rw [hy] at hv;rw [hy2] at hv2;obtain ⟨⟨h0,h1⟩,rfl⟩:=hp;obtain ⟨b,cap,hx',hl,hh⟩:=Io hv;obtain ⟨bb,o,cc,el',fz,rfl,hi,hb,hsz,hR⟩:=hh Aa;rw [hx',B2 hv2];refine Ao hI (AB (hrun _ _ _ _ _ h0 h1)) rfl ?_;rw [Ds];have hlt:i.toNat < m:=Aa;obtain ⟨⟨_,h3⟩,h4⟩:=hR i.toNat hlt;have hm:i.toNat * sz' + sz'≤m * sz':=by
   have:(i.toNat + 1) * sz'≤m * sz':=Nat.mul_le_mul_right _ hlt;rw [Nat.add_mul] at this;omega
  exact Hs hi hb (by rw [h3];omega) (by rw [h3];exact h4)
 ·exact hp.elim
theorem Ko {t:TypeId} {agg:Bool} {sz:Nat} (hs:FD M t=some sz) (ha:H3 M t=some agg) (w:World) {cs:Array Value} {o:Nat} (hl:o + sz≤cs.size) (h1:agg=false→sz=1) :
 (part t cs o).run M.P w = .ok (if agg then .agg ((cs.toList.drop o).take sz).toArray else cs.getD o undef) w:=by
 unfold part;simp only [QP,OD ha];cases agg with
 | true =>
   simp only [if_true,EP,Bv hs]
   congr 2
   apply Array.ext';simp [Array.toList_extract,List.extract_eq_take_drop]
 | false =>
   have:=h1 rfl;subst this;have hlt:o < cs.size:=Aa;simp [hlt]
theorem X4 {c:Ctx} {e:Env} {H:Hp} {A:List V} {a:Act} (hI:Inv M c e H) (hA:FR e A a.tmps) {n:Nat} {t el:TypeId} {m sz:Nat} {agg:Bool} {x x2:Operand} {y y2:X}
 (ht:M.P.underlying t=some (.array m el)) (hz:FD M el=some sz) (ha:H3 M el=some agg) (hx:A3 M x y=true) (hg:CJ M e y) (hx2:A3 M x2 y2=true) (hg2:CJ M e y2) (hp:(Ag A H n (.idx m sz agg y y2)).pre) :
 Bm M c e n (Ag A H n (.idx m sz agg y y2)) (Sem.run M.P (do pure (Next.value (← Instr.index t (a.eval x) (a.eval x2)))) e.w):=by
 have hv:=Az hI.φ hA hx hg;have hv2:=Az hI.φ hA hx2 hg2;simp only [Ag] at hp ⊢;split at hp
 ·rename_i sz' m' f k i hy hy2;rw [hy] at hv;rw [hy2] at hv2;obtain ⟨⟨h0,h1⟩,rfl,rfl,hagg⟩:=hp;simp only [RV,RS,V.isAgg,R] at hv;obtain ⟨cs,hx',hlen,hR⟩:=hv;have hlt:i.toNat < m':=Aa;obtain ⟨⟨h3,h4⟩,h5⟩:=hR i.toNat hlt;have hm:i.toNat * sz' + sz'≤m' * sz':=by
   have:(i.toNat + 1) * sz'≤m' * sz':=Nat.mul_le_mul_right _ hlt;rw [Nat.add_mul] at this;omega
  obtain ⟨k1,k2⟩:=DH (c:=cs.toArray) (o:=i.toNat * sz') h3 h4 hagg F6 (by simpa using h5);refine Ao hI (AB ?_) rfl k2;rw [hx',B2 hv2];simp only [Instr.index,asIntOf,EP,run_underlying ht];simp only [h0,h1,and_self,if_true,QP,Bv hz];exact Ko hz ha e.w F6 k1
 ·exact hp.elim
theorem XM {c:Ctx} {e:Env} {H:Hp} {A:List V} {a:Act} (hI:Inv M c e H) (hA:FR e A a.tmps) {n:Nat} {t:TypeId} {fs:Array Field} {i:Nat} {f:Field} {sz:Nat} {agg:Bool} {x:Operand} {y:X}
 (ht:M.P.underlying t=some (.struct fs)) (hf:fs[i]?=some f) (hz:FD M f.type=some sz) (ha:H3 M f.type=some agg) (hx:A3 M x y=true) (hg:CJ M e y) (hp:(Ag A H n (.fld f.offset sz agg y)).pre) :
 Bm M c e n (Ag A H n (.fld f.offset sz agg y)) (Sem.run M.P (do pure (Next.value (← Instr.field t (a.eval x) i))) e.w):=by
 have hv:=Az hI.φ hA hx hg;simp only [Ag] at hp ⊢;split at hp
 ·rename_i m chn hy;rw [hy] at hv;obtain ⟨hh,hsol,hsz,hagg⟩:=hp;simp only [RV,RS,V.isAgg,R] at hv;obtain ⟨cs,hx',hlen,_,hR⟩:=hv;obtain ⟨h1,h2⟩:=GW hR hh;rw [hsz] at h1 h2;obtain ⟨k1,k2⟩:=DH (c:=cs.toArray) (o:=f.offset) hsol hsz hagg Uz (by simpa using h2);refine Ao hI (AB ?_) rfl k2;rw [hx'];simp only [Instr.field,EP,run_underlying ht,hf,asAgg];exact Ko hz ha e.w Uz k1
 ·exact hp.elim
end Mv
