/- A part. -/
import Derived.Test.YtpcgkiecjakknaaGreatDoorAC
set_option linter.all false
namespace Mv
open Go

theorem run_v {P : Program} {s : Sem Value} {w w' : World} {x : Value} (h : s.run P w = .ok x w') : (do pure (Next.value (← s)) : Sem Next).run P w = .ok (.value x) w' := by
  rw [Sem.run_bind, h]; rfl

theorem run_zero {M : Seat} {t : TypeId} {x : Value} (h : (M.P.info? t).bind (·.zero) = some x) (w : World) : (zeroValue t).run M.P w = .ok x w := by
  cases hi : M.P.info? t with
  | none => simp [hi] at h
  | some i => simp [hi] at h; simp [zeroValue, typeInfo, hi, h]

/-- A new block of cells. -/
theorem Inv.newCells {M : Seat} {c : Ctx} {e : Env} {H : Hp} (hI : Inv M c e H) {n : Nat} (hn : ¬ e.D n) (hk : c.k ≤ n) {cells : Array Value} {el : TypeId} {z : V} (hs : z.solid = true) (hsz : z.size ≤ cells.size) (hR : R e z (cells.toList.take z.size)) :
    e.le (e.new n (.cells cells el)) ∧ Inv M c (e.new n (.cells cells el)) ((n, z) :: H) ∧ (e.new n (.cells cells el)).ρ n = e.w.heap.size ∧ (e.new n (.cells cells el)).D n ∧ bsize (e.new n (.cells cells el)).w e.w.heap.size = cells.size := by
  have hle := Env.le_new (.cells cells el) hn hI.imlt
  have hρ : (e.new n (.cells cells el)).ρ n = e.w.heap.size := by simp [Env.new]
  have hh : (e.new n (.cells cells el)).w.heap[e.w.heap.size]? = some (.cells cells el) := heap_alloc_new _ _
  refine ⟨hle, hI.new hn hk ((BlkOK_solid hs).2 ⟨cells, el, by rw [hρ]; exact hh, hsz, R_mono hle hR⟩), hρ, .inl rfl, ?_⟩
  unfold bsize; rw [hh]

theorem new_D {e : Env} {n : Nat} {o : Obj} : ∀ id, (e.new n o).D id → e.D id ∨ id = n := fun _ h => h.elim .inr .inl

theorem RV_newptr {e : Env} {n : Nat} (hD : e.D n) {b : Nat} (hρ : e.ρ n = b) : RV e (.ptr n []) (.pointer (some ⟨b, 0, none⟩)) := by
  subst hρ; simp [RV, RS, V.isAgg, R, offOf, hD]

theorem good_alloc {M : Seat} {c : Ctx} {e : Env} {H : Hp} {A : List V} (hI : Inv M c e H) {n : Nat} (hn : ¬ e.D n) (hk : c.k ≤ n) {t : TypeId} {z : Z} {x : Value} (hz : (M.P.info? t).bind (·.zero) = some x) (hzc : z.chk x = true) :
    Good M c e n (step A H n (.alloc z)) (Sem.run M.P (do pure (Next.value (← Instr.alloc t true (.tuple #[])))) e.w) := by
  obtain ⟨h1, h2, h3, h4⟩ := Z.chk_R e hzc
  obtain ⟨r1, r2, r3, r4, _⟩ := hI.newCells hn hk (cells := x.cells) (el := t) h3 (by omega) (by rw [h4, List.take_of_length_le (by simp; omega)]; exact h2)
  refine ⟨_, _, .inl (run_v ?_), r1, r2, RV_newptr r4 r3, new_D⟩
  simp only [Instr.alloc, Sem.run_bind, run_zero hz, Result.andThen_ok, newVar, newRow, run_newObj, Sem.run_pure]
  rfl

theorem good_box {M : Seat} {c : Ctx} {e : Env} {H : Hp} {A : List V} {a : Act} (hI : Inv M c e H) (hA : FR e A a.tmps) {n : Nat} (hn : ¬ e.D n) (hk : c.k ≤ n) {t : TypeId} {x : Operand} {y : X}
    (hx : chkX M x y = true) (hg : GOK M e y) (hp : (step A H n (.box y)).pre) :
    Good M c e n (step A H n (.box y)) (Sem.run M.P (do pure (Next.value (← Instr.box t (a.eval x)))) e.w) := by
  have hv := chkX_R hI.φ hA hx hg
  simp only [step] at hp ⊢
  rw [RV_solid hp] at hv
  have hRy := RS_cells hp hv
  have hyl := R_len hp hRy
  generalize a.eval x = xv at *
  have hyl' : xv.cells.size = (y.ev A).size := by simpa using hyl
  obtain ⟨r1, r2, r3, r4, _⟩ := hI.newCells hn hk (cells := xv.cells) (el := t) hp (by omega) (by rw [List.take_of_length_le (by omega)]; exact hRy)
  refine ⟨_, _, .inl (run_v ?_), r1, r2, RV_newptr r4 r3, new_D⟩
  simp only [Instr.box, newVar, newRow, Sem.run_bind, run_newObj, Result.andThen_ok, Sem.run_pure]
  rfl

theorem good_mv {M : Seat} {c : Ctx} {e : Env} {H : Hp} {A : List V} {a : Act} (hI : Inv M c e H) (hA : FR e A a.tmps) {n : Nat} {x : Operand} {y : X} (hx : chkX M x y = true) (hg : GOK M e y) :
    Good M c e n (step A H n (.mv y)) (Sem.run M.P (pure (Next.value (a.eval x))) e.w) :=
  good_pure hI rfl rfl (chkX_R hI.φ hA hx hg)

theorem RV_bool {e : Env} {b : Bool} {x : Value} (h : RV e (.bool b) x) : x = .bool b := by simpa [RV, RS, V.isAgg, R] using h
theorem RV_int {e : Env} {k : IntKind} {i : Int} {x : Value} (h : RV e (.int k i) x) : x = .int k i := by simpa [RV, RS, V.isAgg, R] using h
theorem RV_mkbool {e : Env} (b : Bool) : RV e (.bool b) (.bool b) := by simp [RV, RS, V.isAgg, R]
theorem RV_mkint {e : Env} (k : IntKind) (i : Int) : RV e (.int k i) (.int k i) := by simp [RV, RS, V.isAgg, R]

theorem good_pick {M : Seat} {c : Ctx} {e : Env} {H : Hp} {A : List V} {a : Act} (hI : Inv M c e H) (hA : FR e A a.tmps) {n : Nat} {x1 x2 x3 : Operand} {y1 y2 y3 : X}
    (h1 : chkX M x1 y1 = true) (g1 : GOK M e y1) (h2 : chkX M x2 y2 = true) (g2 : GOK M e y2) (h3 : chkX M x3 y3 = true) (g3 : GOK M e y3) (hp : (step A H n (.pick y1 y2 y3)).pre) :
    Good M c e n (step A H n (.pick y1 y2 y3)) (Sem.run M.P (do pure (.value (if ← asBool (a.eval x1) then a.eval x2 else a.eval x3))) e.w) := by
  have v1 := chkX_R hI.φ hA h1 g1
  have v2 := chkX_R hI.φ hA h2 g2
  have v3 := chkX_R hI.φ hA h3 g3
  simp only [step] at hp ⊢
  split at hp
  · rename_i t hy
    simp only [hy] at *
    have e1 := RV_bool v1
    refine good_pure hI (x := if t then a.eval x2 else a.eval x3) ?_ rfl ?_
    · rw [e1]
      simp only [asBool, Sem.run_bind, Sem.run_pure, Result.andThen_ok]
    · simp only [vpick]
      split
      · rename_i p q hp' hq'
        rw [hp'] at v2
        rw [hq'] at v3
        rw [RV_bool v2, RV_bool v3]
        cases t <;> simp [RV_mkbool]
      · cases t
        · exact v3
        · exact v2
  · exact hp.elim

theorem run_eqGuard_int {P : Program} {w : World} (op : BinOp) (t : TypeId) (x y : Operand) (k k' : IntKind) (i j : Int) : (eqGuard op t x y (.int k i) (.int k' j)).run P w = .ok () w := by
  unfold eqGuard
  cases op <;> rfl

theorem good_ari {M : Seat} {c : Ctx} {e : Env} {H : Hp} {A : List V} {a : Act} (hI : Inv M c e H) (hA : FR e A a.tmps) {n : Nat} {t : TypeId} {op : BinOp} {x1 x2 : Operand} {y1 y2 : X}
    (h1 : chkX M x1 y1 = true) (g1 : GOK M e y1) (h2 : chkX M x2 y2 = true) (g2 : GOK M e y2) (hp : (step A H n (.ari op y1 y2)).pre) :
    Good M c e n (step A H n (.ari op y1 y2)) (Sem.run M.P (do pure (Next.value (← (do eqGuard op t x1 x2 (a.eval x1) (a.eval x2); binOp op t (a.eval x1) (a.eval x2))))) e.w) := by
  have v1 := chkX_R hI.φ hA h1 g1
  have v2 := chkX_R hI.φ hA h2 g2
  simp only [step, vari] at hp ⊢
  split at hp
  · rename_i k i k' j hy1 hy2
    rw [hy1] at v1
    rw [hy2] at v2
    have e1 := RV_int v1
    have e2 := RV_int v2
    rw [e1, e2]
    have hguard := run_eqGuard_int (P := M.P) (w := e.w) op t x1 x2 k k' i j
    cases op <;> simp only at hp ⊢
    case shl =>
      refine good_pure hI (x := .int k (k.wrap (i * 2 ^ min j.toNat k.bits))) (run_v ?_) rfl (RV_mkint _ _)
      rw [Sem.run_bind, hguard]
      have : ¬ j < 0 := by omega
      simp [binOp, Op.shift, this]
    case shr =>
      refine good_pure hI (x := .int k (i.fdiv (2 ^ min j.toNat k.bits))) (run_v ?_) rfl (RV_mkint _ _)
      rw [Sem.run_bind, hguard]
      have : ¬ j < 0 := by omega
      simp [binOp, Op.shift, this]
    case quo =>
      obtain ⟨rfl, hj⟩ := hp
      refine good_pure hI (x := .int k (k.wrap (i.tdiv j))) (run_v ?_) rfl (RV_mkint _ _)
      rw [Sem.run_bind, hguard]
      simp [binOp, Op.intDiv, hj]
    case rem =>
      obtain ⟨rfl, hj⟩ := hp
      refine good_pure hI (x := .int k (i.tmod j)) (run_v ?_) rfl (RV_mkint _ _)
      rw [Sem.run_bind, hguard]
      simp [binOp, Op.intDiv, hj]
    case lss => subst hp; exact good_pure hI (x := .bool (decide (i < j))) (run_v (by rw [Sem.run_bind, hguard]; simp [binOp, Op.intCmp])) rfl (RV_mkbool _)
    case leq => subst hp; exact good_pure hI (x := .bool (decide (i ≤ j))) (run_v (by rw [Sem.run_bind, hguard]; simp [binOp, Op.intCmp])) rfl (RV_mkbool _)
    case gtr => subst hp; exact good_pure hI (x := .bool (decide (j < i))) (run_v (by rw [Sem.run_bind, hguard]; simp [binOp, Op.intCmp])) rfl (RV_mkbool _)
    case geq => subst hp; exact good_pure hI (x := .bool (decide (j ≤ i))) (run_v (by rw [Sem.run_bind, hguard]; simp [binOp, Op.intCmp])) rfl (RV_mkbool _)
    case eql => subst hp; exact good_pure hI (x := .bool (decide (i = j))) (run_v (by rw [Sem.run_bind, hguard]; simp [binOp, Op.intCmp, BEq.beq])) rfl (RV_mkbool _)
    case neq => subst hp; exact good_pure hI (x := .bool (!decide (i = j))) (run_v (by rw [Sem.run_bind, hguard]; simp [binOp, Op.intCmp, bne, BEq.beq])) rfl (RV_mkbool _)
    all_goals
      subst hp
      refine good_pure hI (run_v ?_) rfl (RV_mkint _ _)
      rw [Sem.run_bind, hguard]
      simp [binOp, Op.intArith, Op.intBits]
      try rfl
  · exact hp.elim

theorem good_un {M : Seat} {c : Ctx} {e : Env} {H : Hp} {A : List V} {a : Act} (hI : Inv M c e H) (hA : FR e A a.tmps) {n : Nat} {op : UnOp} {x1 : Operand} {y1 : X}
    (h1 : chkX M x1 y1 = true) (g1 : GOK M e y1) (hp : (step A H n (.un op y1)).pre) :
    Good M c e n (step A H n (.un op y1)) (Sem.run M.P (do pure (Next.value (← Op.unary op (a.eval x1)))) e.w) := by
  have v1 := chkX_R hI.φ hA h1 g1
  simp only [step, vun] at hp ⊢
  split at hp
  · rename_i b hy
    rw [hy] at v1
    rw [RV_bool v1]
    exact good_pure hI (x := .bool (!b)) (run_v rfl) rfl (RV_mkbool _)
  · rename_i k i hy
    rw [hy] at v1
    rw [RV_int v1]
    exact good_pure hI (x := .int k (k.wrap (0 - i))) (run_v rfl) rfl (RV_mkint _ _)
  · rename_i k i hy
    rw [hy] at v1
    rw [RV_int v1]
    refine good_pure hI (run_v ?_) rfl (RV_mkint _ _)
    simp [Op.unary, Op.intBits]
    try rfl
  · exact hp.elim

theorem good_conv {M : Seat} {c : Ctx} {e : Env} {H : Hp} {A : List V} {a : Act} (hI : Inv M c e H) (hA : FR e A a.tmps) {n : Nat} {s d : TypeId} {k : IntKind} {ds : TypeDesc} {x1 : Operand} {y1 : X}
    (hd : M.P.underlying d = some (.int k)) (hs : M.P.underlying s = some ds) (h1 : chkX M x1 y1 = true) (g1 : GOK M e y1) (hp : (step A H n (.conv k y1)).pre) :
    Good M c e n (step A H n (.conv k y1)) (Sem.run M.P (do pure (Next.value (← convert s d (a.eval x1)))) e.w) := by
  have v1 := chkX_R hI.φ hA h1 g1
  simp only [step] at hp ⊢
  split at hp
  · rename_i k' i hy
    rw [hy] at v1
    rw [RV_int v1]
    refine good_pure hI (x := .int k (k.wrap i)) (run_v ?_) rfl (RV_mkint _ _)
    simp only [convert, Sem.run_bind, run_underlying hs, run_underlying hd, Result.andThen_ok]
    cases ds <;> rfl
  · exact hp.elim

theorem Addr_add (b o n : Nat) : (⟨b, o, none⟩ : Addr).add n = ⟨b, o + n, none⟩ := by
  unfold Addr.add; split
  · rename_i h; subst h; rfl
  · rfl

theorem RV_ptr {e : Env} {id : Nat} {p : List Stp} {x : Value} (h : RV e (.ptr id p) x) : e.D id ∧ x = .pointer (some ⟨e.ρ id, offOf p, none⟩) := by simpa [RV, RS, V.isAgg, R] using h
theorem RV_mkptr {e : Env} {id : Nat} {p : List Stp} {b o : Nat} (hD : e.D id) (hb : b = e.ρ id) (ho : o = offOf p) : RV e (.ptr id p) (.pointer (some ⟨b, o, none⟩)) := by
  subst hb; subst ho; simp [RV, RS, V.isAgg, R, hD]

theorem RV_imm {e : Env} {v : V} {x : Value} (h : RV e (.imm v) x) : ∃ b o c el fz, x = .pointer (some ⟨b, o, none⟩) ∧ e.im b ∧ e.w.heap[b]? = some (.cells c el fz) ∧ o + v.size ≤ c.size ∧ R e v ((c.toList.drop o).take v.size) := by
  simpa [RV, RS, V.isAgg, R] using h
theorem RV_mkimm {e : Env} {v : V} {b o : Nat} {c : Array Value} {el : TypeId} {fz : Nat × Nat} (hi : e.im b) (hb : e.w.heap[b]? = some (.cells c el fz)) (hl : o + v.size ≤ c.size) (hR : R e v ((c.toList.drop o).take v.size)) :
    RV e (.imm v) (.pointer (some ⟨b, o, none⟩)) := by
  simp only [RV, RS, V.isAgg, R]
  exact ⟨b, o, c, el, fz, rfl, hi, hb, hl, hR⟩

theorem imm_get {e : Env} {v : V} {p : List Stp} {c : Array Value} {o : Nat} (hk : v.ok p) (hl : o + v.size ≤ c.size) (hR : R e v ((c.toList.drop o).take v.size)) :
    o + offOf p + (v.get p).size ≤ c.size ∧ R e (v.get p) ((c.toList.drop (o + offOf p)).take (v.get p).size) := by
  have hlen : ((c.toList.drop o).take v.size).length = v.size := by simp; omega
  obtain ⟨h1, h2⟩ := R_get hR hlen hk
  rw [hlen] at h1
  rw [drop_take_drop _ _ _ _ _ h1] at h2
  exact ⟨by omega, h2⟩

theorem good_nilc {M : Seat} {c : Ctx} {e : Env} {H : Hp} {A : List V} {a : Act} (hI : Inv M c e H) (hA : FR e A a.tmps) {n : Nat} {o : Oper} {x : Operand} {y : X} (ho : o.op = .nilCheck x)
    (hx : chkX M x y = true) (hg : GOK M e y) (hp : (step A H n (.nilc y)).pre) :
    Good M c e n (step A H n (.nilc y)) (Sem.run M.P (execOp a.eval o) e.w) := by
  have hv := chkX_R hI.φ hA hx hg
  simp only [execOp, ho]
  simp only [step] at hp ⊢
  split at hp
  · rename_i id p hy
    rw [hy] at hv
    refine good_pure hI (x := a.eval x) ?_ rfl hv
    rw [(RV_ptr hv).2]; rfl
  · rename_i v hy
    rw [hy] at hv
    refine good_pure hI (x := a.eval x) ?_ rfl hv
    obtain ⟨b, o, _, _, _, hx', _⟩ := RV_imm hv
    rw [hx']; rfl
  · rename_i f cp hy
    rw [hy] at hv
    refine good_pure hI (x := a.eval x) ?_ rfl hv
    simp only [RV, RS, V.isAgg, R, List.cons.injEq, and_true] at hv
    obtain ⟨xs, hx', _⟩ := hv
    rw [hx', fnV, if_pos hp]; rfl
  · rename_i t v hy
    rw [hy] at hv
    refine good_pure hI (x := a.eval x) ?_ rfl hv
    simp only [RV, RS, V.isAgg, R, List.cons.injEq, and_true] at hv
    obtain ⟨xs, hx', _⟩ := hv
    rw [hx']; rfl
  · exact hp.elim

theorem good_fadr {M : Seat} {c : Ctx} {e : Env} {H : Hp} {A : List V} {a : Act} (hI : Inv M c e H) (hA : FR e A a.tmps) {n : Nat} {s : TypeId} {fs : Array Field} {i : Nat} {f : Field} {sz : Nat} {x : Operand} {y : X}
    (hs : M.P.underlying s = some (.struct fs)) (hf : fs[i]? = some f) (hz : tsz M f.type = some sz) (hz0 : sz ≠ 0) (hx : chkX M x y = true) (hg : GOK M e y) (hp : (step A H n (.fadr f.offset y)).pre) :
    Good M c e n (step A H n (.fadr f.offset y)) (Sem.run M.P (do pure (Next.value (← Instr.fieldAt s (a.eval x) i))) e.w) := by
  have hv := chkX_R hI.φ hA hx hg
  have hrun : ∀ b o, (Instr.fieldAt s (.pointer (some ⟨b, o, none⟩)) i).run M.P e.w = .ok (.pointer (some ⟨b, o + f.offset, none⟩)) e.w := by
    intro b o
    simp only [Instr.fieldAt, Sem.run_bind, run_underlying hs, Result.andThen_ok, hf, Instr.sureAddr, Sem.run_pure, fieldPlace, run_tsz hz, hz0, if_false, Addr_add]
  simp only [step] at hp ⊢
  split at hp
  · rename_i id p hy
    rw [hy] at hv
    obtain ⟨hD, hx'⟩ := RV_ptr hv
    rw [hx']
    exact good_pure hI (run_v (hrun _ _)) rfl (RV_mkptr hD rfl (by rw [offOf_padd]; rfl))
  · rename_i v hy
    rw [hy] at hv
    obtain ⟨b, o, cc, el, fz, hx', hi, hb, hl, hR⟩ := RV_imm hv
    rw [hx']
    obtain ⟨k1, k2⟩ := imm_get hp.2 hl hR
    simp only [offOf, Stp.off, Nat.add_zero] at k1 k2
    exact good_pure hI (run_v (hrun _ _)) rfl (RV_mkimm hi hb k1 k2)
  · exact hp.elim

theorem good_iarr {M : Seat} {c : Ctx} {e : Env} {H : Hp} {A : List V} {a : Act} (hI : Inv M c e H) (hA : FR e A a.tmps) {n : Nat} {t el : TypeId} {m sz : Nat} {x x2 : Operand} {y y2 : X}
    (ht : M.P.underlying t = some (.array m el)) (hz : tsz M el = some sz) (hx : chkX M x y = true) (hg : GOK M e y) (hx2 : chkX M x2 y2 = true) (hg2 : GOK M e y2) (hp : (step A H n (.iarr m sz y y2)).pre) :
    Good M c e n (step A H n (.iarr m sz y y2)) (Sem.run M.P (do pure (Next.value (← Instr.indexAt t (a.eval x) (a.eval x2)))) e.w) := by
  have hv := chkX_R hI.φ hA hx hg
  have hv2 := chkX_R hI.φ hA hx2 hg2
  have hrun : ∀ b o k (i : Int), 0 ≤ i → i < m → (Instr.indexAt t (.pointer (some ⟨b, o, none⟩)) (.int k i)).run M.P e.w = .ok (.pointer (some ⟨b, o + i.toNat * sz, none⟩)) e.w := by
    intro b o k i h0 h1
    simp only [Instr.indexAt, asIntOf, Instr.sureAddr, Sem.run_bind, Sem.run_pure, run_underlying ht, Result.andThen_ok]
    simp [h0, h1, run_tsz hz, Addr_add]
  simp only [step] at hp ⊢
  split at hp
  · rename_i id p k i hy hy2
    rw [hy] at hv; rw [hy2] at hv2
    obtain ⟨hD, hx'⟩ := RV_ptr hv
    rw [hx', RV_int hv2]
    exact good_pure hI (run_v (hrun _ _ _ _ hp.1 hp.2)) rfl (RV_mkptr hD rfl (by rw [offOf_padd]; rfl))
  · rename_i v k i hy hy2
    rw [hy] at hv; rw [hy2] at hv2
    obtain ⟨b, o, cc, el', fz, hx', hi, hb, hl, hR⟩ := RV_imm hv
    rw [hx', RV_int hv2]
    obtain ⟨k1, k2⟩ := imm_get hp.2.2 hl hR
    simp only [offOf, Stp.off, Nat.add_zero] at k1 k2
    exact good_pure hI (run_v (hrun _ _ _ _ hp.1.1 hp.1.2)) rfl (RV_mkimm hi hb k1 k2)
  · exact hp.elim

theorem RV_sl {e : Env} {id : Nat} {p : List Stp} {o len sz : Nat} {x : Value} (h : RV e (.sl id p o len sz) x) : e.D id ∧ ∃ b cap, x = .slice b len cap ∧ (cap = 0 ∨ b = some ⟨e.ρ id, offOf p + o * sz, none⟩) ∧ len ≤ cap ∧ offOf p + (o + cap) * sz ≤ bsize e.w (e.ρ id) := by
  simp only [RV, RS, V.isAgg, R] at h
  obtain ⟨h1, b, cap, h2, h3⟩ := h
  simp only [List.cons.injEq, and_true] at h2
  exact ⟨h1, b, cap, h2, h3⟩
theorem RV_mksl {e : Env} {id : Nat} {p : List Stp} {o len sz cap : Nat} {b : Option Addr} (hD : e.D id) (hb : cap = 0 ∨ b = some ⟨e.ρ id, offOf p + o * sz, none⟩) (hl : len ≤ cap) (hs : offOf p + (o + cap) * sz ≤ bsize e.w (e.ρ id)) : RV e (.sl id p o len sz) (.slice b len cap) := by
  simp only [RV, RS, V.isAgg, R]
  exact ⟨hD, b, cap, rfl, hb, hl, hs⟩
theorem RV_lst {e : Env} {sz n : Nat} {f : Nat → V} {x : Value} (h : RV e (.lst sz n f) x) : ∃ a cap, x = .slice a n cap ∧ n ≤ cap ∧ (0 < n → ∃ b o c el fz, a = some ⟨b, o, none⟩ ∧ e.im b ∧ e.w.heap[b]? = some (.cells c el fz) ∧ o + n * sz ≤ c.size ∧
      ∀ i, i < n → ((f i).solid = true ∧ (f i).size = sz) ∧ R e (f i) ((c.toList.drop (o + i * sz)).take sz)) := by
  simp only [RV, RS, V.isAgg, R] at h
  obtain ⟨a, cap, h2, h3⟩ := h
  simp only [List.cons.injEq, and_true] at h2
  exact ⟨a, cap, h2, h3⟩
theorem RV_mklst {e : Env} {sz n : Nat} {f : Nat → V} {a : Option Addr} {cap : Nat} (h : n ≤ cap) (h2 : 0 < n → ∃ b o c el fz, a = some ⟨b, o, none⟩ ∧ e.im b ∧ e.w.heap[b]? = some (.cells c el fz) ∧ o + n * sz ≤ c.size ∧
      ∀ i, i < n → ((f i).solid = true ∧ (f i).size = sz) ∧ R e (f i) ((c.toList.drop (o + i * sz)).take sz)) : RV e (.lst sz n f) (.slice a n cap) := by
  simp only [RV, RS, V.isAgg, R]
  exact ⟨a, cap, rfl, h, h2⟩

theorem good_isl {M : Seat} {c : Ctx} {e : Env} {H : Hp} {A : List V} {a : Act} (hI : Inv M c e H) (hA : FR e A a.tmps) {n : Nat} {t el : TypeId} {sz : Nat} {x x2 : Operand} {y y2 : X}
    (ht : M.P.underlying t = some (.slice el)) (hz : tsz M el = some sz) (hx : chkX M x y = true) (hg : GOK M e y) (hx2 : chkX M x2 y2 = true) (hg2 : GOK M e y2) (hp : (step A H n (.isl sz y y2)).pre) :
    Good M c e n (step A H n (.isl sz y y2)) (Sem.run M.P (do pure (Next.value (← Instr.indexAt t (a.eval x) (a.eval x2)))) e.w) := by
  have hv := chkX_R hI.φ hA hx hg
  have hv2 := chkX_R hI.φ hA hx2 hg2
  have hrun : ∀ (b : Addr) (len cap : Nat) k (i : Int), 0 ≤ i → i < len → (Instr.indexAt t (.slice (some b) len cap) (.int k i)).run M.P e.w = .ok (.pointer (some (b.add (i.toNat * sz)))) e.w := by
    intro b len cap k i h0 h1
    simp only [Instr.indexAt, asIntOf, Sem.run_bind, Sem.run_pure, run_underlying ht, Result.andThen_ok]
    simp [h0, h1, run_tsz hz]
  simp only [step] at hp ⊢
  split at hp
  · rename_i id p o m sz' k i hy hy2
    rw [hy] at hv; rw [hy2] at hv2
    obtain ⟨⟨h0, h1⟩, rfl⟩ := hp
    obtain ⟨hD, b, cap, hx', hb, hl, _⟩ := RV_sl hv
    have hcap : cap ≠ 0 := by omega
    have hb' := hb.resolve_left hcap
    rw [hx', RV_int hv2, hb']
    refine good_pure hI (run_v (hrun _ _ _ _ _ h0 h1)) rfl ?_
    rw [Addr_add]
    exact RV_mkptr hD rfl (by rw [offOf_padd]; simp only [Stp.off, Nat.add_mul]; omega)
  · rename_i sz' m f k i hy hy2
    rw [hy] at hv; rw [hy2] at hv2
    obtain ⟨⟨h0, h1⟩, rfl⟩ := hp
    obtain ⟨b, cap, hx', hl, hh⟩ := RV_lst hv
    obtain ⟨bb, o, cc, el', fz, rfl, hi, hb, hsz, hR⟩ := hh (by omega)
    rw [hx', RV_int hv2]
    refine good_pure hI (run_v (hrun _ _ _ _ _ h0 h1)) rfl ?_
    rw [Addr_add]
    have hlt : i.toNat < m := by omega
    obtain ⟨⟨_, h3⟩, h4⟩ := hR i.toNat hlt
    have hm : i.toNat * sz' + sz' ≤ m * sz' := by
      have : (i.toNat + 1) * sz' ≤ m * sz' := Nat.mul_le_mul_right _ hlt
      rw [Nat.add_mul] at this; omega
    exact RV_mkimm hi hb (by rw [h3]; omega) (by rw [h3]; exact h4)
  · exact hp.elim

theorem run_part {M : Seat} {t : TypeId} {agg : Bool} {sz : Nat} (hs : tsz M t = some sz) (ha : tagg M t = some agg) (w : World) {cs : Array Value} {o : Nat} (hl : o + sz ≤ cs.size) (h1 : agg = false → sz = 1) :
    (part t cs o).run M.P w = .ok (if agg then .agg ((cs.toList.drop o).take sz).toArray else cs.getD o undef) w := by
  unfold part
  simp only [Sem.run_bind, run_tagg ha, Result.andThen_ok]
  cases agg with
  | true =>
    simp only [if_true, Sem.run_bind, run_tsz hs, Result.andThen_ok, Sem.run_pure]
    congr 2
    apply Array.ext'
    simp [Array.toList_extract, List.extract_eq_take_drop]
  | false =>
    have := h1 rfl
    subst this
    have hlt : o < cs.size := by omega
    simp [hlt]

theorem good_idx {M : Seat} {c : Ctx} {e : Env} {H : Hp} {A : List V} {a : Act} (hI : Inv M c e H) (hA : FR e A a.tmps) {n : Nat} {t el : TypeId} {m sz : Nat} {agg : Bool} {x x2 : Operand} {y y2 : X}
    (ht : M.P.underlying t = some (.array m el)) (hz : tsz M el = some sz) (ha : tagg M el = some agg) (hx : chkX M x y = true) (hg : GOK M e y) (hx2 : chkX M x2 y2 = true) (hg2 : GOK M e y2) (hp : (step A H n (.idx m sz agg y y2)).pre) :
    Good M c e n (step A H n (.idx m sz agg y y2)) (Sem.run M.P (do pure (Next.value (← Instr.index t (a.eval x) (a.eval x2)))) e.w) := by
  have hv := chkX_R hI.φ hA hx hg
  have hv2 := chkX_R hI.φ hA hx2 hg2
  simp only [step] at hp ⊢
  split at hp
  · rename_i sz' m' f k i hy hy2
    rw [hy] at hv; rw [hy2] at hv2
    obtain ⟨⟨h0, h1⟩, rfl, rfl, hagg⟩ := hp
    simp only [RV, RS, V.isAgg, R] at hv
    obtain ⟨cs, hx', hlen, hR⟩ := hv
    have hlt : i.toNat < m' := by omega
    obtain ⟨⟨h3, h4⟩, h5⟩ := hR i.toNat hlt
    have hm : i.toNat * sz' + sz' ≤ m' * sz' := by
      have : (i.toNat + 1) * sz' ≤ m' * sz' := Nat.mul_le_mul_right _ hlt
      rw [Nat.add_mul] at this; omega
    obtain ⟨k1, k2⟩ := RV_loaded (c := cs.toArray) (o := i.toNat * sz') h3 h4 hagg (by simp; omega) (by simpa using h5)
    refine good_pure hI (run_v ?_) rfl k2
    rw [hx', RV_int hv2]
    simp only [Instr.index, asIntOf, Sem.run_bind, Sem.run_pure, run_underlying ht, Result.andThen_ok]
    simp only [h0, h1, and_self, if_true, Sem.run_bind, run_tsz hz, Result.andThen_ok]
    exact run_part hz ha e.w (by simp; omega) k1
  · exact hp.elim

theorem good_fld {M : Seat} {c : Ctx} {e : Env} {H : Hp} {A : List V} {a : Act} (hI : Inv M c e H) (hA : FR e A a.tmps) {n : Nat} {t : TypeId} {fs : Array Field} {i : Nat} {f : Field} {sz : Nat} {agg : Bool} {x : Operand} {y : X}
    (ht : M.P.underlying t = some (.struct fs)) (hf : fs[i]? = some f) (hz : tsz M f.type = some sz) (ha : tagg M f.type = some agg) (hx : chkX M x y = true) (hg : GOK M e y) (hp : (step A H n (.fld f.offset sz agg y)).pre) :
    Good M c e n (step A H n (.fld f.offset sz agg y)) (Sem.run M.P (do pure (Next.value (← Instr.field t (a.eval x) i))) e.w) := by
  have hv := chkX_R hI.φ hA hx hg
  simp only [step] at hp ⊢
  split at hp
  · rename_i m chn hy
    rw [hy] at hv
    obtain ⟨hh, hsol, hsz, hagg⟩ := hp
    simp only [RV, RS, V.isAgg, R] at hv
    obtain ⟨cs, hx', hlen, _, hR⟩ := hv
    obtain ⟨h1, h2⟩ := R_fget hR hh
    rw [hsz] at h1 h2
    obtain ⟨k1, k2⟩ := RV_loaded (c := cs.toArray) (o := f.offset) hsol hsz hagg (by simpa using h1) (by simpa using h2)
    refine good_pure hI (run_v ?_) rfl k2
    rw [hx']
    simp only [Instr.field, Sem.run_bind, run_underlying ht, Result.andThen_ok, hf, asAgg, Sem.run_pure]
    exact run_part hz ha e.w (by simpa using h1) k1
  · exact hp.elim
end Mv
