/- A part. -/
import Derived.Test.YtfljfijnobocoaaDoorCD
set_option linter.all false
namespace Mv
open Go
variable {M:Seat}
def Aai (_M:Seat) (v:Value) (u:V):Bool :=
 match v,u with
 | .int k n,.int k' n'=>decide (k=k') && decide (n=n')
 | .bool b,.bool b'=>b == b'
 | .string s,.str s'=>s.data == s'.data
 | .pointer none,.nilp=>true
 | .slice none 0 0,.nils=>true
 | .map none,.nilm=>true
 | .nilFunc,.nilf=>true
 | .nilIface,.nili=>true
 | _,_=>false
def Ay (M:Seat) (x:Operand) (y:X):Bool :=
 match x,y with
 | .tmp t,.t t'=>t == t'
 | .const v,.c u=>Aai M v u
 | .global g,.g g'=>M.γ g' == g && M.gl.contains g'
 | .func f,.fn f'=>M.φ f' == f && decide (f' < 1000000)
 | _,_=>false
theorem Abp {e:Env} {v:Value} {u:V} (h:Aai M v u=true):RV e u v:=by
 unfold Aai at h
 split at h
 ·simp only [Bool.and_eq_true,decide_eq_true_eq] at h
  obtain ⟨rfl,rfl⟩:=h
  simp [RV,RS,V.isAgg,R]
 ·simp only [beq_iff_eq] at h
  subst h
  simp [RV,RS,V.isAgg,R]
 ·rename_i s s'
  have:s=s':=by
   cases s;cases s';simp only [beq_iff_eq] at h;simp_all
  subst this
  simp [RV,RS,V.isAgg,R]
 all_goals first
  | (cases h;done)
  | simp [RV,RS,V.isAgg,R]
structure FR (e:Env) (A:List V) (tmps:Array Value):Prop where
 len:tmps.size=A.length
 val:∀ t,RV e (A.getD t .junk) (tmps.getD t undef)
def C5 (M:Seat) (e:Env):X→Prop
 | .g g=>R e (.imm (Sa g)) [.pointer (some ⟨M.γ g,0,none⟩)]
 | _=>True
theorem Ax {e:Env} (hφ:e.φ=M.φ) {A:List V} {a:Act} (hA:FR e A a.tmps) {x:Operand} {y:X} (h:Ay M x y=true) (hg:C5 M e y):RV e (y.ev A) (a.eval x):=by
 unfold Ay at h
 split at h
 ·simp only [beq_iff_eq] at h;subst h;exact hA.val _
 ·exact Abp h
 ·simp only [Bool.and_eq_true,beq_iff_eq] at h
  obtain ⟨rfl,_⟩:=h
  simpa [X.ev,RV,RS,V.isAgg,Act.eval,C5] using hg
 ·simp only [Bool.and_eq_true,beq_iff_eq,decide_eq_true_eq] at h
  obtain ⟨rfl,hlt⟩:=h
  simp only [X.ev,RV,RS,V.isAgg,Act.eval,R]
  exact ⟨[],by rw [hφ,Qv,if_pos hlt],by simp [V.chain]⟩
 ·cases h
theorem Co {c:Ctx} {e:Env} {H:Hp} (hI:Inv M c e H) {x:Operand} {y:X} (h:Ay M x y=true):C5 M e y:=by
 cases y <;> try trivial
 cases x <;> simp only [Ay,Bool.false_eq_true,Bool.and_eq_true,List.contains_iff_mem] at h
 exact hI.gs.1 _ h.2
def EG (M:Seat) (t:TypeId):Option Nat:=(M.P.info? t).map (·.size)
def Gu (M:Seat) (t:TypeId):Option Bool:=(M.P.underlying t).map (fun d=>match d with | .struct _ | .array _ _=>true | _=>false)
theorem Bz {t:TypeId} {n:Nat} (h:EG M t=some n) (w:World):(Go.sizeOf t).run M.P w=Result.ok n w:=by
 unfold EG at h
 cases hi:M.P.info? t with
 | none=>simp [hi] at h
 | some i=>simp [hi] at h;subst h;simp [Go.sizeOf,typeInfo,hi]
theorem Nz {t:TypeId} {b:Bool} (h:Gu M t=some b) (w:World):(Go.isAgg t).run M.P w=Result.ok b w:=by
 unfold Gu at h
 cases hu:M.P.underlying t with
 | none=>simp [hu] at h
 | some d =>
   simp only [hu,Option.map_some,Option.some.injEq] at h
   unfold Go.isAgg
   rw [Sem.run_bind,run_underlying hu]
   simp only [Result.andThen_ok]
   subst h
   cases d <;> rfl
def By (M:Seat) (c:Ctx) (e:Env) (n:Nat) (out:Out) (r:Result Next):Prop :=
 ∃ x e',(r = .ok (.value x) e'.w ∨ (r = .ok .skip e'.w∧x=undef))∧e.le e'∧Inv M c e' out.H∧RV e' out.v x∧(∀ id,e'.D id→e.D id ∨ id=n)
theorem Aj {c:Ctx} {e:Env} {H:Hp} {n:Nat} {out:Out} {r:Result Next} {x:Value} (hI:Inv M c e H) (hr:r = .ok (.value x) e.w) (hH:out.H=H) (hv:RV e out.v x):By M c e n out r :=
 ⟨x,e,.inl hr,Env.le_refl e,hH ▸ hI,hv,fun _ h=>.inl h⟩
theorem Jh {w:World} {b o n:Nat} {c:Array Value} {el:TypeId} {fz:Nat × Nat} (hb:w.heap[b]?=some (.cells c el fz)) (_hl:o + n≤c.size) :
 ∀ j v,((c.toList.drop o).take n)[j]?=some v→w.cell? ((⟨b,o,none⟩:Addr).add j)=some v:=by
 intro j v hj
 rw [List.getElem?_take] at hj
 split at hj
 ·rw [List.getElem?_drop] at hj
  unfold Addr.add
  split
  ·rename_i h0;subst h0
   simpa [World.cell?,hb] using hj
  ·simpa [World.cell?,hb] using hj
 ·cases hj
theorem EP {t:TypeId} {agg:Bool} {n:Nat} (hs:EG M t=some n) (ha:Gu M t=some agg) {w:World} {b o:Nat} {c:Array Value} {el:TypeId} {fz:Nat × Nat} (hb:w.heap[b]?=some (.cells c el fz)) (hl:o + n≤c.size) (h1:agg=false→n=1) :
 (Instr.loadAt t (.pointer (some ⟨b,o,none⟩))).run M.P w = .ok (if agg then .agg ((c.toList.drop o).take n).toArray else c.getD o undef) w:=by
 have hlen:((c.toList.drop o).take n).length=n:=DI
 unfold Instr.loadAt Instr.sureAddr loadVar
 simp only [ED,Nz ha,Bz hs]
 cases agg with
 | true =>
   simp only [if_true,QW,Bz hs]
   have:=run_loadCells_list (P:=M.P) w ⟨b,o,none⟩ _ (Jh hb hl)
   rw [hlen] at this
   simp [this]
 | false =>
   have hn:=h1 rfl
   subst hn
   have hc:w.cell? ⟨b,o,none⟩=some (c.getD o undef):=by
    have:o < c.size:=Aa
    simp [World.cell?,hb,this]
   simp [hc]
theorem UQ {c:Array Value} {o:Nat} (h:o < c.size):(c.toList.drop o).take 1=[c.getD o undef]:=by
 apply List.ext_getElem?
 intro i
 rw [List.getElem?_take]
 cases i with
 | zero=>simp [h]
 | succ i=>simp
theorem Di {e:Env} {v:V} {agg:Bool} {c:Array Value} {o n:Nat} (hs:v.solid=true) (hsz:v.size=n) (ha:v.isAgg=agg) (hl:o + n≤c.size) (h:R e v ((c.toList.drop o).take n)) :
 (agg=false→n=1)∧RV e v (if agg then .agg ((c.toList.drop o).take n).toArray else c.getD o undef):=by
 have h1:agg=false→n=1:=fun hf=>by
  subst hf
  cases v <;> simp_all [V.isAgg,V.size]
 refine ⟨h1,?_⟩
 rw [AI hs]
 unfold RS
 rw [ha]
 cases agg with
 | true=>exact ⟨_,rfl,h⟩
 | false =>
   have hn:=h1 rfl
   subst hn
   rw [UQ Aa] at h
   simpa using h
theorem Se {c:Ctx} {e:Env} {H:Hp} {A:List V} {a:Act} (hI:Inv M c e H) (hA:FR e A a.tmps) (n:Nat) {t:TypeId} {x:Operand} {agg:Bool} {sz:Nat} {y:X}
 (hs:EG M t=some sz) (ha:Gu M t=some agg) (hx:Ay M x y=true) (hg:C5 M e y) (hp:(Ae A H n (.load agg sz y)).pre) :
 By M c e n (Ae A H n (.load agg sz y)) (Sem.run M.P (do pure (Next.value (← Instr.loadAt t (a.eval x)))) e.w):=by
 have hv:=Ax hI.φ hA hx hg
 simp only [Ae] at hp ⊢
 split at hp
 ·rename_i id p hy
  simp only [hy] at *
  obtain ⟨⟨h1,h2,h3⟩,h4,h5,h6⟩:=hp
  obtain ⟨cells,el,hc,hsz,hR⟩:=hI.cells h1 h2
  have hlen:(cells.toList.take (hget H id).size).length=(hget H id).size:=DI
  obtain ⟨g1,g2⟩:=Ds hR hlen h3
  rw [hlen] at g1
  have g3:R e ((hget H id).get p) ((cells.toList.drop (As p)).take sz):=by
   rw [List.drop_take,List.take_take,Nat.min_eq_left Aa,h5] at g2
   exact g2
  have hle:As p + sz≤cells.size:=Aa
  obtain ⟨k1,k2⟩:=Di (o:=As p) h4 h5 h6 hle g3
  simp only [RV,RS,V.isAgg,R,EF] at hv
  refine Aj hI ?_ rfl k2
  rw [hv.2]
  rw [Sem.run_bind,EP hs ha hc hle k1]
  rfl
 ·rename_i v hy
  simp only [hy] at *
  obtain ⟨h4,h5,h6⟩:=hp
  simp only [RV,RS,V.isAgg,R,EF] at hv
  obtain ⟨b,o,cells,el,fz,hc,hi,hb,hl,hR⟩:=hv
  rw [h5] at hl hR
  obtain ⟨k1,k2⟩:=Di h4 h5 h6 hl hR
  refine Aj hI ?_ rfl k2
  rw [hc]
  rw [Sem.run_bind,EP hs ha hb hl k1]
  rfl
 ·exact hp.elim
theorem PM {c:Ctx} {e:Env} {H:Hp} {A:List V} {a:Act} (hI:Inv M c e H) (hA:FR e A a.tmps) (n:Nat) {t:TypeId} {x x':Operand} {sz:Nat} {y y':X}
 (hs:EG M t=some sz) (hx:Ay M x y=true) (hg:C5 M e y) (hx':Ay M x' y'=true) (hg':C5 M e y') (hp:(Ae A H n (.store sz y y')).pre) :
 By M c e n (Ae A H n (.store sz y y')) (Sem.run M.P (do Instr.storeAt t (a.eval x) (a.eval x');pure Next.skip) e.w):=by
 have hv:=Ax hI.φ hA hx hg
 have hv':=Ax hI.φ hA hx' hg'
 simp only [Ae] at hp ⊢
 split at hp
 ·rename_i id p hy
  simp only [hy] at *
  obtain ⟨⟨h1,h2,h3,h4⟩,h5,h6,h7⟩:=hp
  obtain ⟨cells,el,hc,hsz,hR⟩:=hI.cells h1 h2
  have hlen:(cells.toList.take (hget H id).size).length=(hget H id).size:=DI
  obtain ⟨g1,g2⟩:=Ds hR hlen h3
  rw [hlen] at g1
  rw [AI h5] at hv'
  have hRy:=IT h5 hv'
  have hyl:=K2 h5 hRy
  have h1c:=IP h5 hRy
  generalize a.eval x'=xv at *
  simp only [RV,RS,V.isAgg,R,EF] at hv
  have hoff:As p + xv.cells.toList.length≤cells.size:=Aa
  have hst:=run_storeCells_at M.P (e.ρ id) (As p) el xv.cells.toList 0 cells e.w hc (by simpa using hoff) h1c
  simp only [Nat.add_zero] at hst
  have hnew:(cells.toList.take (As p) ++ xv.cells.toList ++ cells.toList.drop (As p + xv.cells.toList.length))=Av cells.toList (As p) xv.cells.toList:=rfl
  rw [hnew] at hst
  have hsp:(Av cells.toList (As p) xv.cells.toList).length=cells.toList.length:=AF (by simpa using hoff)
  have hszn:(Av cells.toList (As p) xv.cells.toList).toArray.size=cells.size:=by simpa using hsp
  have BU:=M5 h5 hRy hyl hR hlen h4 h3 Aa
  have hzz:=V.set_size (y'.ev A) p (hget H id) h4 h3 Aa
  have hzs:=V.set_solid h5 p (hget H id) h4 h3 h2
  have hRn:R e (V.set (y'.ev A) p (hget H id)) ((Av cells.toList (As p) xv.cells.toList).toArray.toList.take (V.set (y'.ev A) p (hget H id)).size):=by
   rw [hzz]
   have:(Av cells.toList (As p) xv.cells.toList).take (hget H id).size=Av (cells.toList.take (hget H id).size) (As p) xv.cells.toList:=by
    have:=DK (cs:=cells.toList) (ys:=xv.cells.toList) (o:=As p) (a:=0) (n:=(hget H id).size) (b:=As p) (by simpa using hoff) Aa Aa DI
    simpa using this
   simp only [this]
   exact BU
  obtain ⟨r1,r2⟩:=hI.row h1 hc hszn hzs (by rw [hzz,hszn];exact hsz) hRn
  refine ⟨undef,_,.inr ⟨?_,rfl⟩,r1,r2,?_,fun _ h=>.inl h⟩
  ·rw [hv.2]
   have hcs:¬ (xv.cells.size ≠ sz):=by
    have:xv.cells.toList.length=xv.cells.size:=B5
    omega
   simp only [Instr.storeAt,Instr.sureAddr,storeVar,ED,Bz hs,hcs,if_false,hst]
  ·exact ⟨#[],rfl,trivial⟩
 ·exact hp.elim
variable {M:Seat}
theorem AA {P:Program} {s:Sem Value} {w w':World} {x:Value} (h:s.run P w = .ok x w'):(do pure (Next.value (← s)):Sem Next).run P w = .ok (.value x) w':=by
 rw [Sem.run_bind,h];rfl
theorem Fd {t:TypeId} {x:Value} (h:(M.P.info? t).bind (·.zero)=some x) (w:World):(zeroValue t).run M.P w = .ok x w:=by
 cases hi:M.P.info? t with
 | none=>simp [hi] at h
 | some i=>simp [hi] at h;simp [zeroValue,typeInfo,hi,h]
theorem Inv.newCells {c:Ctx} {e:Env} {H:Hp} (hI:Inv M c e H) {n:Nat} (hn:¬ e.D n) (hk:c.k≤n) {cells:Array Value} {el:TypeId} {z:V} (hs:z.solid=true) (hsz:z.size≤cells.size) (hR:R e z (cells.toList.take z.size)) :
 e.le (e.new n (.cells cells el))∧Inv M c (e.new n (.cells cells el)) ((n,z) :: H)∧(e.new n (.cells cells el)).ρ n=e.w.heap.size∧(e.new n (.cells cells el)).D n∧Cf (e.new n (.cells cells el)).w e.w.heap.size=cells.size:=by
 have hle:=Env.le_new (.cells cells el) hn hI.imlt
 have hρ:(e.new n (.cells cells el)).ρ n=e.w.heap.size:=by simp [Env.new]
 have hh:(e.new n (.cells cells el)).w.heap[e.w.heap.size]?=some (.cells cells el):=Dt _ _
 refine ⟨hle,hI.new hn hk ((BZ hs).2 ⟨cells,el,by rw [hρ];exact hh,hsz,BX hle hR⟩),hρ,.inl rfl,?_⟩
 unfold Cf;rw [hh]
theorem H7 {e:Env} {n:Nat} {o:Obj}:∀ id,(e.new n o).D id→e.D id ∨ id=n:=fun _ h=>h.elim .inr .inl
theorem K7 {e:Env} {n:Nat} (hD:e.D n) {b:Nat} (hρ:e.ρ n=b):RV e (.ptr n []) (.pointer (some ⟨b,0,none⟩)):=by
 subst hρ;simp [RV,RS,V.isAgg,R,As,hD]
theorem PV {c:Ctx} {e:Env} {H:Hp} {A:List V} (hI:Inv M c e H) {n:Nat} (hn:¬ e.D n) (hk:c.k≤n) {t:TypeId} {z:Z} {x:Value} (hz:(M.P.info? t).bind (·.zero)=some x) (hzc:z.chk x=true) :
 By M c e n (Ae A H n (.alloc z)) (Sem.run M.P (do pure (Next.value (← Instr.alloc t true (.tuple #[])))) e.w):=by
 obtain ⟨h1,h2,h3,h4⟩:=Z.chk_R e hzc
 obtain ⟨r1,r2,r3,r4,_⟩:=hI.newCells hn hk (cells:=x.cells) (el:=t) h3 Aa (by rw [h4,List.take_of_length_le DI];exact h2)
 refine ⟨_,_,.inl (AA ?_),r1,r2,K7 r4 r3,H7⟩
 simp only [Instr.alloc,ED,Fd hz,newVar,newRow,run_newObj]
 rfl
theorem Wo {c:Ctx} {e:Env} {H:Hp} {A:List V} {a:Act} (hI:Inv M c e H) (hA:FR e A a.tmps) {n:Nat} (hn:¬ e.D n) (hk:c.k≤n) {t:TypeId} {x:Operand} {y:X}
 (hx:Ay M x y=true) (hg:C5 M e y) (hp:(Ae A H n (.box y)).pre) :
 By M c e n (Ae A H n (.box y)) (Sem.run M.P (do pure (Next.value (← Instr.box t (a.eval x)))) e.w):=by
 have hv:=Ax hI.φ hA hx hg
 simp only [Ae] at hp ⊢
 rw [AI hp] at hv
 have hRy:=IT hp hv
 have hyl:=K2 hp hRy
 generalize a.eval x=xv at *
 have hyl':xv.cells.size=(y.ev A).size:=by simpa using hyl
 obtain ⟨r1,r2,r3,r4,_⟩:=hI.newCells hn hk (cells:=xv.cells) (el:=t) hp Aa (by rw [List.take_of_length_le Aa];exact hRy)
 refine ⟨_,_,.inl (AA ?_),r1,r2,K7 r4 r3,H7⟩
 simp only [Instr.box,newVar,newRow,ED,run_newObj]
 rfl
theorem Q4 {c:Ctx} {e:Env} {H:Hp} {A:List V} {a:Act} (hI:Inv M c e H) (hA:FR e A a.tmps) {n:Nat} {x:Operand} {y:X} (hx:Ay M x y=true) (hg:C5 M e y) :
 By M c e n (Ae A H n (.mv y)) (Sem.run M.P (pure (Next.value (a.eval x))) e.w) :=
 Aj hI rfl rfl (Ax hI.φ hA hx hg)
theorem Ee {e:Env} {b:Bool} {x:Value} (h:RV e (.bool b) x):x = .bool b:=OH
theorem B2 {e:Env} {k:IntKind} {i:Int} {x:Value} (h:RV e (.int k i) x):x = .int k i:=OH
theorem Cd {e:Env} (b:Bool):RV e (.bool b) (.bool b):=by simp [RV,RS,V.isAgg,R]
theorem Bp {e:Env} (k:IntKind) (i:Int):RV e (.int k i) (.int k i):=by simp [RV,RS,V.isAgg,R]
theorem S9 {c:Ctx} {e:Env} {H:Hp} {A:List V} {a:Act} (hI:Inv M c e H) (hA:FR e A a.tmps) {n:Nat} {x1 x2 x3:Operand} {y1 y2 y3:X}
 (h1:Ay M x1 y1=true) (g1:C5 M e y1) (h2:Ay M x2 y2=true) (g2:C5 M e y2) (h3:Ay M x3 y3=true) (g3:C5 M e y3) (hp:(Ae A H n (.pick y1 y2 y3)).pre) :
 By M c e n (Ae A H n (.pick y1 y2 y3)) (Sem.run M.P (do pure (.value (if ← asBool (a.eval x1) then a.eval x2 else a.eval x3))) e.w):=by
 have v1:=Ax hI.φ hA h1 g1
 have v2:=Ax hI.φ hA h2 g2
 have v3:=Ax hI.φ hA h3 g3
 simp only [Ae] at hp ⊢
 split at hp
 ·rename_i t hy
  simp only [hy] at *
  have e1:=Ee v1
  refine Aj hI (x:=if t then a.eval x2 else a.eval x3) ?_ rfl ?_
  ·rw [e1]
   simp only [asBool,ED]
  ·simp only [EV]
   split
   ·rename_i p q hp' hq'
    rw [hp'] at v2
    rw [hq'] at v3
    rw [Ee v2,Ee v3]
    cases t <;> simp [Cd]
   ·cases t
    ·exact v3
    ·exact v2
 ·exact hp.elim
theorem HR {P:Program} {w:World} (op:BinOp) (t:TypeId) (x y:Operand) (k k':IntKind) (i j:Int):(eqGuard op t x y (.int k i) (.int k' j)).run P w = .ok () w:=by
 unfold eqGuard
 cases op <;> rfl
theorem VT {c:Ctx} {e:Env} {H:Hp} {A:List V} {a:Act} (hI:Inv M c e H) (hA:FR e A a.tmps) {n:Nat} {t:TypeId} {op:BinOp} {x1 x2:Operand} {y1 y2:X}
 (h1:Ay M x1 y1=true) (g1:C5 M e y1) (h2:Ay M x2 y2=true) (g2:C5 M e y2) (hp:(Ae A H n (.ari op y1 y2)).pre) :
 By M c e n (Ae A H n (.ari op y1 y2)) (Sem.run M.P (do pure (Next.value (← (do eqGuard op t x1 x2 (a.eval x1) (a.eval x2);binOp op t (a.eval x1) (a.eval x2))))) e.w):=by
 have v1:=Ax hI.φ hA h1 g1
 have v2:=Ax hI.φ hA h2 g2
 simp only [Ae,AP] at hp ⊢
 split at hp
 ·rename_i k i k' j hy1 hy2
  rw [hy1] at v1
  rw [hy2] at v2
  have e1:=B2 v1
  have e2:=B2 v2
  rw [e1,e2]
  have hguard:=HR (P:=M.P) (w:=e.w) op t x1 x2 k k' i j
  cases op <;> simp only at hp ⊢
  case shl =>
   refine Aj hI (x:=.int k (k.wrap (i * 2 ^ min j.toNat k.bits))) (AA ?_) rfl (Bp _ _)
   rw [Sem.run_bind,hguard]
   have:¬ j < 0:=Aa
   simp [binOp,Op.shift,this]
  case shr =>
   refine Aj hI (x:=.int k (i.fdiv (2 ^ min j.toNat k.bits))) (AA ?_) rfl (Bp _ _)
   rw [Sem.run_bind,hguard]
   have:¬ j < 0:=Aa
   simp [binOp,Op.shift,this]
  case quo =>
   obtain ⟨rfl,hj⟩:=hp
   refine Aj hI (x:=.int k (k.wrap (i.tdiv j))) (AA ?_) rfl (Bp _ _)
   rw [Sem.run_bind,hguard]
   simp [binOp,Op.intDiv,hj]
  case rem =>
   obtain ⟨rfl,hj⟩:=hp
   refine Aj hI (x:=.int k (i.tmod j)) (AA ?_) rfl (Bp _ _)
   rw [Sem.run_bind,hguard]
   simp [binOp,Op.intDiv,hj]
  case lss=>subst hp;exact Aj hI (x:=.bool (decide (i < j))) (AA zq8) rfl (Cd _)
  case leq=>subst hp;exact Aj hI (x:=.bool (decide (i≤j))) (AA zq8) rfl (Cd _)
  case gtr=>subst hp;exact Aj hI (x:=.bool (decide (j < i))) (AA zq8) rfl (Cd _)
  case geq=>subst hp;exact Aj hI (x:=.bool (decide (j≤i))) (AA zq8) rfl (Cd _)
  case eql=>subst hp;exact Aj hI (x:=.bool (decide (i=j))) (AA (by rw [Sem.run_bind,hguard];simp [binOp,Op.intCmp,BEq.beq])) rfl (Cd _)
  case neq=>subst hp;exact Aj hI (x:=.bool (!decide (i=j))) (AA (by rw [Sem.run_bind,hguard];simp [binOp,Op.intCmp,bne,BEq.beq])) rfl (Cd _)
  all_goals
   subst hp
   refine Aj hI (AA ?_) rfl (Bp _ _)
   rw [Sem.run_bind,hguard]
   simp [binOp,Op.intArith,Op.intBits]
   try rfl
 ·exact hp.elim
theorem XL {c:Ctx} {e:Env} {H:Hp} {A:List V} {a:Act} (hI:Inv M c e H) (hA:FR e A a.tmps) {n:Nat} {op:UnOp} {x1:Operand} {y1:X}
 (h1:Ay M x1 y1=true) (g1:C5 M e y1) (hp:(Ae A H n (.un op y1)).pre) :
 By M c e n (Ae A H n (.un op y1)) (Sem.run M.P (do pure (Next.value (← Op.unary op (a.eval x1)))) e.w):=by
 have v1:=Ax hI.φ hA h1 g1
 simp only [Ae,ST] at hp ⊢
 split at hp
 ·rename_i b hy
  rw [hy] at v1
  rw [Ee v1]
  exact Aj hI (x:=.bool (!b)) (AA rfl) rfl (Cd _)
 ·rename_i k i hy
  rw [hy] at v1
  rw [B2 v1]
  exact Aj hI (x:=.int k (k.wrap (0 - i))) (AA rfl) rfl (Bp _ _)
 ·rename_i k i hy
  rw [hy] at v1
  rw [B2 v1]
  refine Aj hI (AA ?_) rfl (Bp _ _)
  simp [Op.unary,Op.intBits]
  try rfl
 ·exact hp.elim
theorem Sp {c:Ctx} {e:Env} {H:Hp} {A:List V} {a:Act} (hI:Inv M c e H) (hA:FR e A a.tmps) {n:Nat} {s d:TypeId} {k:IntKind} {ds:TypeDesc} {x1:Operand} {y1:X}
 (hd:M.P.underlying d=some (.int k)) (hs:M.P.underlying s=some ds) (h1:Ay M x1 y1=true) (g1:C5 M e y1) (hp:(Ae A H n (.conv k y1)).pre) :
 By M c e n (Ae A H n (.conv k y1)) (Sem.run M.P (do pure (Next.value (← convert s d (a.eval x1)))) e.w):=by
 have v1:=Ax hI.φ hA h1 g1
 simp only [Ae] at hp ⊢
 split at hp
 ·rename_i k' i hy
  rw [hy] at v1
  rw [B2 v1]
  refine Aj hI (x:=.int k (k.wrap i)) (AA ?_) rfl (Bp _ _)
  simp only [convert,QW,run_underlying hs,run_underlying hd]
  cases ds <;> rfl
 ·exact hp.elim
end Mv
