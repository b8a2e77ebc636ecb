/- The check that an operation of the model is one of ours, and that ours says what it does. -/
import Derived.Test.YtncipgmjhaiagaaDoorB
set_option linter.unusedSimpArgs false
set_option linter.unusedVariables false
namespace Mv
open Go

def chkC (_M : Seat) (v : Value) (u : V) : Bool :=
  match v, u with
  | .int k n, .int k' n' => decide (k = k') && decide (n = n')
  | .bool b, .bool b' => b == b'
  | .string s, .str s' => s.data == s'.data
  | .pointer none, .nilp => true
  | .slice none 0 0, .nils => true
  | .map none, .nilm => true
  | .nilFunc, .nilf => true
  | .nilIface, .nili => true
  | _, _ => false

def chkX (M : Seat) (x : Operand) (y : X) : Bool :=
  match x, y with
  | .tmp t, .t t' => t == t'
  | .const v, .c u => chkC M v u
  | .global g, .g g' => M.γ g' == g && M.gl.contains g'
  | .func f, .fn f' => M.φ f' == f && decide (f' < 1000000)
  | _, _ => false

theorem chkC_R {M : Seat} {e : Env} {v : Value} {u : V} (h : chkC M v u = true) : RV e u v := by
  unfold chkC at h
  split at h
  · simp only [Bool.and_eq_true, decide_eq_true_eq] at h
    obtain ⟨rfl, rfl⟩ := h
    simp [RV, RS, V.isAgg, R]
  · simp only [beq_iff_eq] at h
    subst h
    simp [RV, RS, V.isAgg, R]
  · rename_i s s'
    have : s = s' := by
      cases s; cases s'; simp only [beq_iff_eq] at h; simp_all
    subst this
    simp [RV, RS, V.isAgg, R]
  all_goals first
    | (cases h; done)
    | simp [RV, RS, V.isAgg, R]

/-- The frame. -/
structure FR (e : Env) (A : List V) (tmps : Array Value) : Prop where
  len : tmps.size = A.length
  val : ∀ t, RV e (A.getD t .junk) (tmps.getD t undef)

/-- What is said of globals. -/
def GOK (M : Seat) (e : Env) : X → Prop
  | .g g => R e (.imm (GLv g)) [.pointer (some ⟨M.γ g, 0, none⟩)]
  | _ => True

theorem chkX_R {M : Seat} {e : Env} (hφ : e.φ = M.φ) {A : List V} {a : Act} (hA : FR e A a.tmps) {x : Operand} {y : X} (h : chkX M x y = true) (hg : GOK M e y) : RV e (y.ev A) (a.eval x) := by
  unfold chkX at h
  split at h
  · simp only [beq_iff_eq] at h; subst h; exact hA.val _
  · exact chkC_R h
  · simp only [Bool.and_eq_true, beq_iff_eq] at h
    obtain ⟨rfl, _⟩ := h
    simpa [X.ev, RV, RS, V.isAgg, Act.eval, GOK] using hg
  · simp only [Bool.and_eq_true, beq_iff_eq, decide_eq_true_eq] at h
    obtain ⟨rfl, hlt⟩ := h
    simp only [X.ev, RV, RS, V.isAgg, Act.eval, R]
    exact ⟨[], by rw [hφ, fnV, if_pos hlt], by simp [V.chain]⟩
  · cases h

theorem gok {M : Seat} {c : Ctx} {e : Env} {H : Hp} (hI : Inv M c e H) {x : Operand} {y : X} (h : chkX M x y = true) : GOK M e y := by
  cases y <;> try trivial
  cases x <;> simp only [chkX, Bool.false_eq_true, Bool.and_eq_true, List.contains_iff_mem] at h
  exact hI.gs.1 _ h.2

def tsz (M : Seat) (t : TypeId) : Option Nat := (M.P.info? t).map (·.size)
def tagg (M : Seat) (t : TypeId) : Option Bool := (M.P.underlying t).map (fun d => match d with | .struct _ | .array _ _ => true | _ => false)

theorem run_tsz {M : Seat} {t : TypeId} {n : Nat} (h : tsz M t = some n) (w : World) : (Go.sizeOf t).run M.P w = Result.ok n w := by
  unfold tsz at h
  cases hi : M.P.info? t with
  | none => simp [hi] at h
  | some i => simp [hi] at h; subst h; simp [Go.sizeOf, typeInfo, hi]

theorem run_tagg {M : Seat} {t : TypeId} {b : Bool} (h : tagg M t = some b) (w : World) : (Go.isAgg t).run M.P w = Result.ok b w := by
  unfold tagg at h
  cases hu : M.P.underlying t with
  | none => simp [hu] at h
  | some d =>
    simp only [hu, Option.map_some, Option.some.injEq] at h
    unfold Go.isAgg
    rw [Sem.run_bind, run_underlying hu]
    simp only [Result.andThen_ok]
    subst h
    cases d <;> rfl

/-- What an operation comes to, as it should. -/
def Good (M : Seat) (c : Ctx) (e : Env) (n : Nat) (out : Out) (r : Result Next) : Prop :=
  ∃ x e', (r = .ok (.value x) e'.w ∨ (r = .ok .skip e'.w ∧ x = undef)) ∧ e.le e' ∧ Inv M c e' out.H ∧ RV e' out.v x ∧ (∀ id, e'.D id → e.D id ∨ id = n)

theorem good_pure {M : Seat} {c : Ctx} {e : Env} {H : Hp} {n : Nat} {out : Out} {r : Result Next} {x : Value} (hI : Inv M c e H) (hr : r = .ok (.value x) e.w) (hH : out.H = H) (hv : RV e out.v x) : Good M c e n out r :=
  ⟨x, e, .inl hr, Env.le_refl e, hH ▸ hI, hv, fun _ h => .inl h⟩

/-! ### Loads and stores -/

theorem cells_at {w : World} {b o n : Nat} {c : Array Value} {el : TypeId} {fz : Nat × Nat} (hb : w.heap[b]? = some (.cells c el fz)) (_hl : o + n ≤ c.size) :
    ∀ j v, ((c.toList.drop o).take n)[j]? = some v → w.cell? ((⟨b, o, none⟩ : Addr).add j) = some v := by
  intro j v hj
  rw [List.getElem?_take] at hj
  split at hj
  · rw [List.getElem?_drop] at hj
    unfold Addr.add
    split
    · rename_i h0; subst h0
      simpa [World.cell?, hb] using hj
    · simpa [World.cell?, hb] using hj
  · cases hj

theorem run_loadVar {M : Seat} {t : TypeId} {agg : Bool} {n : Nat} (hs : tsz M t = some n) (ha : tagg M t = some agg) {w : World} {b o : Nat} {c : Array Value} {el : TypeId} {fz : Nat × Nat} (hb : w.heap[b]? = some (.cells c el fz)) (hl : o + n ≤ c.size) (h1 : agg = false → n = 1) :
    (Instr.loadAt t (.pointer (some ⟨b, o, none⟩))).run M.P w = .ok (if agg then .agg ((c.toList.drop o).take n).toArray else c.getD o undef) w := by
  have hlen : ((c.toList.drop o).take n).length = n := by simp; omega
  unfold Instr.loadAt Instr.sureAddr loadVar
  simp only [Sem.run_bind, Sem.run_pure, Result.andThen_ok, run_tagg ha, run_tsz hs]
  cases agg with
  | true =>
    simp only [if_true, Sem.run_bind, run_tsz hs, Result.andThen_ok]
    have := run_loadCells_list (P := M.P) w ⟨b, o, none⟩ _ (cells_at hb hl)
    rw [hlen] at this
    simp [this]
  | false =>
    have hn := h1 rfl
    subst hn
    have hc : w.cell? ⟨b, o, none⟩ = some (c.getD o undef) := by
      have : o < c.size := by omega
      simp [World.cell?, hb, this]
    simp [hc]

theorem take_one {c : Array Value} {o : Nat} (h : o < c.size) : (c.toList.drop o).take 1 = [c.getD o undef] := by
  apply List.ext_getElem?
  intro i
  rw [List.getElem?_take]
  cases i with
  | zero => simp [h]
  | succ i => simp

/-- What is loaded from a place that holds a value. -/
theorem RV_loaded {e : Env} {v : V} {agg : Bool} {c : Array Value} {o n : Nat} (hs : v.solid = true) (hsz : v.size = n) (ha : v.isAgg = agg) (hl : o + n ≤ c.size) (h : R e v ((c.toList.drop o).take n)) :
    (agg = false → n = 1) ∧ RV e v (if agg then .agg ((c.toList.drop o).take n).toArray else c.getD o undef) := by
  have h1 : agg = false → n = 1 := fun hf => by
    subst hf
    cases v <;> simp_all [V.isAgg, V.size]
  refine ⟨h1, ?_⟩
  rw [RV_solid hs]
  unfold RS
  rw [ha]
  cases agg with
  | true => exact ⟨_, rfl, h⟩
  | false =>
    have hn := h1 rfl
    subst hn
    rw [take_one (by omega)] at h
    simpa using h

theorem good_load {M : Seat} {c : Ctx} {e : Env} {H : Hp} {A : List V} {a : Act} (hI : Inv M c e H) (hA : FR e A a.tmps) (n : Nat) {t : TypeId} {x : Operand} {agg : Bool} {sz : Nat} {y : X}
    (hs : tsz M t = some sz) (ha : tagg M t = some agg) (hx : chkX M x y = true) (hg : GOK M e y) (hp : (step A H n (.load agg sz y)).pre) :
    Good M c e n (step A H n (.load agg sz y)) (Sem.run M.P (do pure (Next.value (← Instr.loadAt t (a.eval x)))) e.w) := by
  have hv := chkX_R hI.φ hA hx hg
  simp only [step] at hp ⊢
  split at hp
  · rename_i id p hy
    simp only [hy] at *
    obtain ⟨⟨h1, h2, h3⟩, h4, h5, h6⟩ := hp
    obtain ⟨cells, el, hc, hsz, hR⟩ := hI.cells h1 h2
    have hlen : (cells.toList.take (hget H id).size).length = (hget H id).size := by simp; omega
    obtain ⟨g1, g2⟩ := R_get hR hlen h3
    rw [hlen] at g1
    have g3 : R e ((hget H id).get p) ((cells.toList.drop (offOf p)).take sz) := by
      rw [List.drop_take, List.take_take, Nat.min_eq_left (by omega), h5] at g2
      exact g2
    have hle : offOf p + sz ≤ cells.size := by omega
    obtain ⟨k1, k2⟩ := RV_loaded (o := offOf p) h4 h5 h6 hle g3
    simp only [RV, RS, V.isAgg, R, List.cons.injEq, and_true] at hv
    refine good_pure hI ?_ rfl k2
    rw [hv.2]
    rw [Sem.run_bind, run_loadVar hs ha hc hle k1]
    rfl
  · rename_i v hy
    simp only [hy] at *
    obtain ⟨h4, h5, h6⟩ := hp
    simp only [RV, RS, V.isAgg, R, List.cons.injEq, and_true] at hv
    obtain ⟨b, o, cells, el, fz, hc, hi, hb, hl, hR⟩ := hv
    rw [h5] at hl hR
    obtain ⟨k1, k2⟩ := RV_loaded h4 h5 h6 hl hR
    refine good_pure hI ?_ rfl k2
    rw [hc]
    rw [Sem.run_bind, run_loadVar hs ha hb hl k1]
    rfl
  · exact hp.elim

theorem good_store {M : Seat} {c : Ctx} {e : Env} {H : Hp} {A : List V} {a : Act} (hI : Inv M c e H) (hA : FR e A a.tmps) (n : Nat) {t : TypeId} {x x' : Operand} {sz : Nat} {y y' : X}
    (hs : tsz M t = some sz) (hx : chkX M x y = true) (hg : GOK M e y) (hx' : chkX M x' y' = true) (hg' : GOK M e y') (hp : (step A H n (.store sz y y')).pre) :
    Good M c e n (step A H n (.store sz y y')) (Sem.run M.P (do Instr.storeAt t (a.eval x) (a.eval x'); pure Next.skip) e.w) := by
  have hv := chkX_R hI.φ hA hx hg
  have hv' := chkX_R hI.φ hA hx' hg'
  simp only [step] at hp ⊢
  split at hp
  · rename_i id p hy
    simp only [hy] at *
    obtain ⟨⟨h1, h2, h3, h4⟩, h5, h6, h7⟩ := hp
    obtain ⟨cells, el, hc, hsz, hR⟩ := hI.cells h1 h2
    have hlen : (cells.toList.take (hget H id).size).length = (hget H id).size := by simp; omega
    obtain ⟨g1, g2⟩ := R_get hR hlen h3
    rw [hlen] at g1
    rw [RV_solid h5] at hv'
    have hRy := RS_cells h5 hv'
    have hyl := R_len h5 hRy
    have h1c := R_one h5 hRy
    generalize a.eval x' = xv at *
    simp only [RV, RS, V.isAgg, R, List.cons.injEq, and_true] at hv
    have hoff : offOf p + xv.cells.toList.length ≤ cells.size := by omega
    have hst := run_storeCells_at M.P (e.ρ id) (offOf p) el xv.cells.toList 0 cells e.w hc (by simpa using hoff) h1c
    simp only [Nat.add_zero] at hst
    have hnew : (cells.toList.take (offOf p) ++ xv.cells.toList ++ cells.toList.drop (offOf p + xv.cells.toList.length)) = splice cells.toList (offOf p) xv.cells.toList := rfl
    rw [hnew] at hst
    have hsp : (splice cells.toList (offOf p) xv.cells.toList).length = cells.toList.length := splice_length (by simpa using hoff)
    have hszn : (splice cells.toList (offOf p) xv.cells.toList).toArray.size = cells.size := by simpa using hsp
    have hset := R_set h5 hRy hyl hR hlen h4 h3 (by omega)
    have hzz := V.set_size (y'.ev A) p (hget H id) h4 h3 (by omega)
    have hzs := V.set_solid h5 p (hget H id) h4 h3 h2
    have hRn : R e (V.set (y'.ev A) p (hget H id)) ((splice cells.toList (offOf p) xv.cells.toList).toArray.toList.take (V.set (y'.ev A) p (hget H id)).size) := by
      rw [hzz]
      have : (splice cells.toList (offOf p) xv.cells.toList).take (hget H id).size = splice (cells.toList.take (hget H id).size) (offOf p) xv.cells.toList := by
        have := splice_in (cs := cells.toList) (ys := xv.cells.toList) (o := offOf p) (a := 0) (n := (hget H id).size) (b := offOf p) (by simpa using hoff) (by omega) (by omega) (by simp; omega)
        simpa using this
      simp only [this]
      exact hset
    obtain ⟨r1, r2⟩ := hI.row h1 hc hszn hzs (by rw [hzz, hszn]; exact hsz) hRn
    refine ⟨undef, _, .inr ⟨?_, rfl⟩, r1, r2, ?_, fun _ h => .inl h⟩
    · rw [hv.2]
      have hcs : ¬ (xv.cells.size ≠ sz) := by
        have : xv.cells.toList.length = xv.cells.size := by simp
        omega
      simp only [Instr.storeAt, Instr.sureAddr, storeVar, Sem.run_bind, Sem.run_pure, Result.andThen_ok, run_tsz hs, hcs, if_false, hst]
    · exact ⟨#[], rfl, trivial⟩
  · exact hp.elim
end Mv
namespace Mv
open Go

theorem run_v {P : Program} {s : Sem Value} {w w' : World} {x : Value} (h : s.run P w = .ok x w') : (do pure (Next.value (← s)) : Sem Next).run P w = .ok (.value x) w' := by
  rw [Sem.run_bind, h]; rfl

theorem run_zero {M : Seat} {t : TypeId} {x : Value} (h : (M.P.info? t).bind (·.zero) = some x) (w : World) : (zeroValue t).run M.P w = .ok x w := by
  cases hi : M.P.info? t with
  | none => simp [hi] at h
  | some i => simp [hi] at h; simp [zeroValue, typeInfo, hi, h]

/-- A new block of cells. -/
theorem Inv.newCells {M : Seat} {c : Ctx} {e : Env} {H : Hp} (hI : Inv M c e H) {n : Nat} (hn : ¬ e.D n) (hk : c.k ≤ n) {cells : Array Value} {el : TypeId} {z : V} (hs : z.solid = true) (hsz : z.size ≤ cells.size) (hR : R e z (cells.toList.take z.size)) :
    e.le (e.new n (.cells cells el)) ∧ Inv M c (e.new n (.cells cells el)) ((n, z) :: H) ∧ (e.new n (.cells cells el)).ρ n = e.w.heap.size ∧ (e.new n (.cells cells el)).D n ∧ bsize (e.new n (.cells cells el)).w e.w.heap.size = cells.size := by
  have hle := Env.le_new (.cells cells el) hn hI.imlt
  have hρ : (e.new n (.cells cells el)).ρ n = e.w.heap.size := by simp [Env.new]
  have hh : (e.new n (.cells cells el)).w.heap[e.w.heap.size]? = some (.cells cells el) := heap_alloc_new _ _
  refine ⟨hle, hI.new hn hk ((BlkOK_solid hs).2 ⟨cells, el, by rw [hρ]; exact hh, hsz, R_mono hle hR⟩), hρ, .inl rfl, ?_⟩
  unfold bsize; rw [hh]

theorem new_D {e : Env} {n : Nat} {o : Obj} : ∀ id, (e.new n o).D id → e.D id ∨ id = n := fun _ h => h.elim .inr .inl

theorem RV_newptr {e : Env} {n : Nat} (hD : e.D n) {b : Nat} (hρ : e.ρ n = b) : RV e (.ptr n []) (.pointer (some ⟨b, 0, none⟩)) := by
  subst hρ; simp [RV, RS, V.isAgg, R, offOf, hD]

theorem good_alloc {M : Seat} {c : Ctx} {e : Env} {H : Hp} {A : List V} (hI : Inv M c e H) {n : Nat} (hn : ¬ e.D n) (hk : c.k ≤ n) {t : TypeId} {z : Z} {x : Value} (hz : (M.P.info? t).bind (·.zero) = some x) (hzc : z.chk x = true) :
    Good M c e n (step A H n (.alloc z)) (Sem.run M.P (do pure (Next.value (← Instr.alloc t true (.tuple #[])))) e.w) := by
  obtain ⟨h1, h2, h3, h4⟩ := Z.chk_R e hzc
  obtain ⟨r1, r2, r3, r4, _⟩ := hI.newCells hn hk (cells := x.cells) (el := t) h3 (by omega) (by rw [h4, List.take_of_length_le (by simp; omega)]; exact h2)
  refine ⟨_, _, .inl (run_v ?_), r1, r2, RV_newptr r4 r3, new_D⟩
  simp only [Instr.alloc, Sem.run_bind, run_zero hz, Result.andThen_ok, newVar, newRow, run_newObj, Sem.run_pure]
  rfl

theorem good_box {M : Seat} {c : Ctx} {e : Env} {H : Hp} {A : List V} {a : Act} (hI : Inv M c e H) (hA : FR e A a.tmps) {n : Nat} (hn : ¬ e.D n) (hk : c.k ≤ n) {t : TypeId} {x : Operand} {y : X}
    (hx : chkX M x y = true) (hg : GOK M e y) (hp : (step A H n (.box y)).pre) :
    Good M c e n (step A H n (.box y)) (Sem.run M.P (do pure (Next.value (← Instr.box t (a.eval x)))) e.w) := by
  have hv := chkX_R hI.φ hA hx hg
  simp only [step] at hp ⊢
  rw [RV_solid hp] at hv
  have hRy := RS_cells hp hv
  have hyl := R_len hp hRy
  generalize a.eval x = xv at *
  have hyl' : xv.cells.size = (y.ev A).size := by simpa using hyl
  obtain ⟨r1, r2, r3, r4, _⟩ := hI.newCells hn hk (cells := xv.cells) (el := t) hp (by omega) (by rw [List.take_of_length_le (by omega)]; exact hRy)
  refine ⟨_, _, .inl (run_v ?_), r1, r2, RV_newptr r4 r3, new_D⟩
  simp only [Instr.box, newVar, newRow, Sem.run_bind, run_newObj, Result.andThen_ok, Sem.run_pure]
  rfl

theorem good_mv {M : Seat} {c : Ctx} {e : Env} {H : Hp} {A : List V} {a : Act} (hI : Inv M c e H) (hA : FR e A a.tmps) {n : Nat} {x : Operand} {y : X} (hx : chkX M x y = true) (hg : GOK M e y) :
    Good M c e n (step A H n (.mv y)) (Sem.run M.P (pure (Next.value (a.eval x))) e.w) :=
  good_pure hI rfl rfl (chkX_R hI.φ hA hx hg)

theorem RV_bool {e : Env} {b : Bool} {x : Value} (h : RV e (.bool b) x) : x = .bool b := by simpa [RV, RS, V.isAgg, R] using h
theorem RV_int {e : Env} {k : IntKind} {i : Int} {x : Value} (h : RV e (.int k i) x) : x = .int k i := by simpa [RV, RS, V.isAgg, R] using h
theorem RV_mkbool {e : Env} (b : Bool) : RV e (.bool b) (.bool b) := by simp [RV, RS, V.isAgg, R]
theorem RV_mkint {e : Env} (k : IntKind) (i : Int) : RV e (.int k i) (.int k i) := by simp [RV, RS, V.isAgg, R]

theorem good_pick {M : Seat} {c : Ctx} {e : Env} {H : Hp} {A : List V} {a : Act} (hI : Inv M c e H) (hA : FR e A a.tmps) {n : Nat} {x1 x2 x3 : Operand} {y1 y2 y3 : X}
    (h1 : chkX M x1 y1 = true) (g1 : GOK M e y1) (h2 : chkX M x2 y2 = true) (g2 : GOK M e y2) (h3 : chkX M x3 y3 = true) (g3 : GOK M e y3) (hp : (step A H n (.pick y1 y2 y3)).pre) :
    Good M c e n (step A H n (.pick y1 y2 y3)) (Sem.run M.P (do pure (.value (if ← asBool (a.eval x1) then a.eval x2 else a.eval x3))) e.w) := by
  have v1 := chkX_R hI.φ hA h1 g1
  have v2 := chkX_R hI.φ hA h2 g2
  have v3 := chkX_R hI.φ hA h3 g3
  simp only [step] at hp ⊢
  split at hp
  · rename_i t hy
    simp only [hy] at *
    have e1 := RV_bool v1
    refine good_pure hI (x := if t then a.eval x2 else a.eval x3) ?_ rfl ?_
    · rw [e1]
      simp only [asBool, Sem.run_bind, Sem.run_pure, Result.andThen_ok]
    · simp only [vpick]
      split
      · rename_i p q hp' hq'
        rw [hp'] at v2
        rw [hq'] at v3
        rw [RV_bool v2, RV_bool v3]
        cases t <;> simp [RV_mkbool]
      · cases t
        · exact v3
        · exact v2
  · exact hp.elim

theorem run_eqGuard_int {P : Program} {w : World} (op : BinOp) (t : TypeId) (x y : Operand) (k k' : IntKind) (i j : Int) : (eqGuard op t x y (.int k i) (.int k' j)).run P w = .ok () w := by
  unfold eqGuard
  cases op <;> rfl

theorem good_ari {M : Seat} {c : Ctx} {e : Env} {H : Hp} {A : List V} {a : Act} (hI : Inv M c e H) (hA : FR e A a.tmps) {n : Nat} {t : TypeId} {op : BinOp} {x1 x2 : Operand} {y1 y2 : X}
    (h1 : chkX M x1 y1 = true) (g1 : GOK M e y1) (h2 : chkX M x2 y2 = true) (g2 : GOK M e y2) (hp : (step A H n (.ari op y1 y2)).pre) :
    Good M c e n (step A H n (.ari op y1 y2)) (Sem.run M.P (do pure (Next.value (← (do eqGuard op t x1 x2 (a.eval x1) (a.eval x2); binOp op t (a.eval x1) (a.eval x2))))) e.w) := by
  have v1 := chkX_R hI.φ hA h1 g1
  have v2 := chkX_R hI.φ hA h2 g2
  simp only [step, vari] at hp ⊢
  split at hp
  · rename_i k i k' j hy1 hy2
    rw [hy1] at v1
    rw [hy2] at v2
    have e1 := RV_int v1
    have e2 := RV_int v2
    rw [e1, e2]
    have hguard := run_eqGuard_int (P := M.P) (w := e.w) op t x1 x2 k k' i j
    cases op <;> simp only at hp ⊢
    case shl =>
      refine good_pure hI (x := .int k (k.wrap (i * 2 ^ min j.toNat k.bits))) (run_v ?_) rfl (RV_mkint _ _)
      rw [Sem.run_bind, hguard]
      have : ¬ j < 0 := by omega
      simp [binOp, Op.shift, this]
    case shr =>
      refine good_pure hI (x := .int k (i.fdiv (2 ^ min j.toNat k.bits))) (run_v ?_) rfl (RV_mkint _ _)
      rw [Sem.run_bind, hguard]
      have : ¬ j < 0 := by omega
      simp [binOp, Op.shift, this]
    case quo =>
      obtain ⟨rfl, hj⟩ := hp
      refine good_pure hI (x := .int k (k.wrap (i.tdiv j))) (run_v ?_) rfl (RV_mkint _ _)
      rw [Sem.run_bind, hguard]
      simp [binOp, Op.intDiv, hj]
    case rem =>
      obtain ⟨rfl, hj⟩ := hp
      refine good_pure hI (x := .int k (i.tmod j)) (run_v ?_) rfl (RV_mkint _ _)
      rw [Sem.run_bind, hguard]
      simp [binOp, Op.intDiv, hj]
    case lss => subst hp; exact good_pure hI (x := .bool (decide (i < j))) (run_v (by rw [Sem.run_bind, hguard]; simp [binOp, Op.intCmp])) rfl (RV_mkbool _)
    case leq => subst hp; exact good_pure hI (x := .bool (decide (i ≤ j))) (run_v (by rw [Sem.run_bind, hguard]; simp [binOp, Op.intCmp])) rfl (RV_mkbool _)
    case gtr => subst hp; exact good_pure hI (x := .bool (decide (j < i))) (run_v (by rw [Sem.run_bind, hguard]; simp [binOp, Op.intCmp])) rfl (RV_mkbool _)
    case geq => subst hp; exact good_pure hI (x := .bool (decide (j ≤ i))) (run_v (by rw [Sem.run_bind, hguard]; simp [binOp, Op.intCmp])) rfl (RV_mkbool _)
    case eql => subst hp; exact good_pure hI (x := .bool (decide (i = j))) (run_v (by rw [Sem.run_bind, hguard]; simp [binOp, Op.intCmp, BEq.beq])) rfl (RV_mkbool _)
    case neq => subst hp; exact good_pure hI (x := .bool (!decide (i = j))) (run_v (by rw [Sem.run_bind, hguard]; simp [binOp, Op.intCmp, bne, BEq.beq])) rfl (RV_mkbool _)
    all_goals
      subst hp
      refine good_pure hI (run_v ?_) rfl (RV_mkint _ _)
      rw [Sem.run_bind, hguard]
      simp [binOp, Op.intArith, Op.intBits]
      try rfl
  · exact hp.elim

theorem good_un {M : Seat} {c : Ctx} {e : Env} {H : Hp} {A : List V} {a : Act} (hI : Inv M c e H) (hA : FR e A a.tmps) {n : Nat} {op : UnOp} {x1 : Operand} {y1 : X}
    (h1 : chkX M x1 y1 = true) (g1 : GOK M e y1) (hp : (step A H n (.un op y1)).pre) :
    Good M c e n (step A H n (.un op y1)) (Sem.run M.P (do pure (Next.value (← Op.unary op (a.eval x1)))) e.w) := by
  have v1 := chkX_R hI.φ hA h1 g1
  simp only [step, vun] at hp ⊢
  split at hp
  · rename_i b hy
    rw [hy] at v1
    rw [RV_bool v1]
    exact good_pure hI (x := .bool (!b)) (run_v rfl) rfl (RV_mkbool _)
  · rename_i k i hy
    rw [hy] at v1
    rw [RV_int v1]
    exact good_pure hI (x := .int k (k.wrap (0 - i))) (run_v rfl) rfl (RV_mkint _ _)
  · rename_i k i hy
    rw [hy] at v1
    rw [RV_int v1]
    refine good_pure hI (run_v ?_) rfl (RV_mkint _ _)
    simp [Op.unary, Op.intBits]
    try rfl
  · exact hp.elim

theorem good_conv {M : Seat} {c : Ctx} {e : Env} {H : Hp} {A : List V} {a : Act} (hI : Inv M c e H) (hA : FR e A a.tmps) {n : Nat} {s d : TypeId} {k : IntKind} {ds : TypeDesc} {x1 : Operand} {y1 : X}
    (hd : M.P.underlying d = some (.int k)) (hs : M.P.underlying s = some ds) (h1 : chkX M x1 y1 = true) (g1 : GOK M e y1) (hp : (step A H n (.conv k y1)).pre) :
    Good M c e n (step A H n (.conv k y1)) (Sem.run M.P (do pure (Next.value (← convert s d (a.eval x1)))) e.w) := by
  have v1 := chkX_R hI.φ hA h1 g1
  simp only [step] at hp ⊢
  split at hp
  · rename_i k' i hy
    rw [hy] at v1
    rw [RV_int v1]
    refine good_pure hI (x := .int k (k.wrap i)) (run_v ?_) rfl (RV_mkint _ _)
    simp only [convert, Sem.run_bind, run_underlying hs, run_underlying hd, Result.andThen_ok]
    cases ds <;> rfl
  · exact hp.elim
end Mv
namespace Mv
open Go

theorem Addr_add (b o n : Nat) : (⟨b, o, none⟩ : Addr).add n = ⟨b, o + n, none⟩ := by
  unfold Addr.add; split
  · rename_i h; subst h; rfl
  · rfl

theorem RV_ptr {e : Env} {id : Nat} {p : List Stp} {x : Value} (h : RV e (.ptr id p) x) : e.D id ∧ x = .pointer (some ⟨e.ρ id, offOf p, none⟩) := by simpa [RV, RS, V.isAgg, R] using h
theorem RV_mkptr {e : Env} {id : Nat} {p : List Stp} {b o : Nat} (hD : e.D id) (hb : b = e.ρ id) (ho : o = offOf p) : RV e (.ptr id p) (.pointer (some ⟨b, o, none⟩)) := by
  subst hb; subst ho; simp [RV, RS, V.isAgg, R, hD]

theorem RV_imm {e : Env} {v : V} {x : Value} (h : RV e (.imm v) x) : ∃ b o c el fz, x = .pointer (some ⟨b, o, none⟩) ∧ e.im b ∧ e.w.heap[b]? = some (.cells c el fz) ∧ o + v.size ≤ c.size ∧ R e v ((c.toList.drop o).take v.size) := by
  simpa [RV, RS, V.isAgg, R] using h
theorem RV_mkimm {e : Env} {v : V} {b o : Nat} {c : Array Value} {el : TypeId} {fz : Nat × Nat} (hi : e.im b) (hb : e.w.heap[b]? = some (.cells c el fz)) (hl : o + v.size ≤ c.size) (hR : R e v ((c.toList.drop o).take v.size)) :
    RV e (.imm v) (.pointer (some ⟨b, o, none⟩)) := by
  simp only [RV, RS, V.isAgg, R]
  exact ⟨b, o, c, el, fz, rfl, hi, hb, hl, hR⟩

theorem imm_get {e : Env} {v : V} {p : List Stp} {c : Array Value} {o : Nat} (hk : v.ok p) (hl : o + v.size ≤ c.size) (hR : R e v ((c.toList.drop o).take v.size)) :
    o + offOf p + (v.get p).size ≤ c.size ∧ R e (v.get p) ((c.toList.drop (o + offOf p)).take (v.get p).size) := by
  have hlen : ((c.toList.drop o).take v.size).length = v.size := by simp; omega
  obtain ⟨h1, h2⟩ := R_get hR hlen hk
  rw [hlen] at h1
  rw [drop_take_drop _ _ _ _ _ h1] at h2
  exact ⟨by omega, h2⟩

theorem good_nilc {M : Seat} {c : Ctx} {e : Env} {H : Hp} {A : List V} {a : Act} (hI : Inv M c e H) (hA : FR e A a.tmps) {n : Nat} {o : Oper} {x : Operand} {y : X} (ho : o.op = .nilCheck x)
    (hx : chkX M x y = true) (hg : GOK M e y) (hp : (step A H n (.nilc y)).pre) :
    Good M c e n (step A H n (.nilc y)) (Sem.run M.P (execOp a.eval o) e.w) := by
  have hv := chkX_R hI.φ hA hx hg
  simp only [execOp, ho]
  simp only [step] at hp ⊢
  split at hp
  · rename_i id p hy
    rw [hy] at hv
    refine good_pure hI (x := a.eval x) ?_ rfl hv
    rw [(RV_ptr hv).2]; rfl
  · rename_i v hy
    rw [hy] at hv
    refine good_pure hI (x := a.eval x) ?_ rfl hv
    obtain ⟨b, o, _, _, _, hx', _⟩ := RV_imm hv
    rw [hx']; rfl
  · rename_i f cp hy
    rw [hy] at hv
    refine good_pure hI (x := a.eval x) ?_ rfl hv
    simp only [RV, RS, V.isAgg, R, List.cons.injEq, and_true] at hv
    obtain ⟨xs, hx', _⟩ := hv
    rw [hx', fnV, if_pos hp]; rfl
  · rename_i t v hy
    rw [hy] at hv
    refine good_pure hI (x := a.eval x) ?_ rfl hv
    simp only [RV, RS, V.isAgg, R, List.cons.injEq, and_true] at hv
    obtain ⟨xs, hx', _⟩ := hv
    rw [hx']; rfl
  · exact hp.elim

theorem good_fadr {M : Seat} {c : Ctx} {e : Env} {H : Hp} {A : List V} {a : Act} (hI : Inv M c e H) (hA : FR e A a.tmps) {n : Nat} {s : TypeId} {fs : Array Field} {i : Nat} {f : Field} {sz : Nat} {x : Operand} {y : X}
    (hs : M.P.underlying s = some (.struct fs)) (hf : fs[i]? = some f) (hz : tsz M f.type = some sz) (hz0 : sz ≠ 0) (hx : chkX M x y = true) (hg : GOK M e y) (hp : (step A H n (.fadr f.offset y)).pre) :
    Good M c e n (step A H n (.fadr f.offset y)) (Sem.run M.P (do pure (Next.value (← Instr.fieldAt s (a.eval x) i))) e.w) := by
  have hv := chkX_R hI.φ hA hx hg
  have hrun : ∀ b o, (Instr.fieldAt s (.pointer (some ⟨b, o, none⟩)) i).run M.P e.w = .ok (.pointer (some ⟨b, o + f.offset, none⟩)) e.w := by
    intro b o
    simp only [Instr.fieldAt, Sem.run_bind, run_underlying hs, Result.andThen_ok, hf, Instr.sureAddr, Sem.run_pure, fieldPlace, run_tsz hz, hz0, if_false, Addr_add]
  simp only [step] at hp ⊢
  split at hp
  · rename_i id p hy
    rw [hy] at hv
    obtain ⟨hD, hx'⟩ := RV_ptr hv
    rw [hx']
    exact good_pure hI (run_v (hrun _ _)) rfl (RV_mkptr hD rfl (by rw [offOf_padd]; rfl))
  · rename_i v hy
    rw [hy] at hv
    obtain ⟨b, o, cc, el, fz, hx', hi, hb, hl, hR⟩ := RV_imm hv
    rw [hx']
    obtain ⟨k1, k2⟩ := imm_get hp.2 hl hR
    simp only [offOf, Stp.off, Nat.add_zero] at k1 k2
    exact good_pure hI (run_v (hrun _ _)) rfl (RV_mkimm hi hb k1 k2)
  · exact hp.elim

theorem good_iarr {M : Seat} {c : Ctx} {e : Env} {H : Hp} {A : List V} {a : Act} (hI : Inv M c e H) (hA : FR e A a.tmps) {n : Nat} {t el : TypeId} {m sz : Nat} {x x2 : Operand} {y y2 : X}
    (ht : M.P.underlying t = some (.array m el)) (hz : tsz M el = some sz) (hx : chkX M x y = true) (hg : GOK M e y) (hx2 : chkX M x2 y2 = true) (hg2 : GOK M e y2) (hp : (step A H n (.iarr m sz y y2)).pre) :
    Good M c e n (step A H n (.iarr m sz y y2)) (Sem.run M.P (do pure (Next.value (← Instr.indexAt t (a.eval x) (a.eval x2)))) e.w) := by
  have hv := chkX_R hI.φ hA hx hg
  have hv2 := chkX_R hI.φ hA hx2 hg2
  have hrun : ∀ b o k (i : Int), 0 ≤ i → i < m → (Instr.indexAt t (.pointer (some ⟨b, o, none⟩)) (.int k i)).run M.P e.w = .ok (.pointer (some ⟨b, o + i.toNat * sz, none⟩)) e.w := by
    intro b o k i h0 h1
    simp only [Instr.indexAt, asIntOf, Instr.sureAddr, Sem.run_bind, Sem.run_pure, run_underlying ht, Result.andThen_ok]
    simp [h0, h1, run_tsz hz, Addr_add]
  simp only [step] at hp ⊢
  split at hp
  · rename_i id p k i hy hy2
    rw [hy] at hv; rw [hy2] at hv2
    obtain ⟨hD, hx'⟩ := RV_ptr hv
    rw [hx', RV_int hv2]
    exact good_pure hI (run_v (hrun _ _ _ _ hp.1 hp.2)) rfl (RV_mkptr hD rfl (by rw [offOf_padd]; rfl))
  · rename_i v k i hy hy2
    rw [hy] at hv; rw [hy2] at hv2
    obtain ⟨b, o, cc, el', fz, hx', hi, hb, hl, hR⟩ := RV_imm hv
    rw [hx', RV_int hv2]
    obtain ⟨k1, k2⟩ := imm_get hp.2.2 hl hR
    simp only [offOf, Stp.off, Nat.add_zero] at k1 k2
    exact good_pure hI (run_v (hrun _ _ _ _ hp.1.1 hp.1.2)) rfl (RV_mkimm hi hb k1 k2)
  · exact hp.elim

theorem RV_sl {e : Env} {id : Nat} {p : List Stp} {o len sz : Nat} {x : Value} (h : RV e (.sl id p o len sz) x) : e.D id ∧ ∃ b cap, x = .slice b len cap ∧ (cap = 0 ∨ b = some ⟨e.ρ id, offOf p + o * sz, none⟩) ∧ len ≤ cap ∧ offOf p + (o + cap) * sz ≤ bsize e.w (e.ρ id) := by
  simp only [RV, RS, V.isAgg, R] at h
  obtain ⟨h1, b, cap, h2, h3⟩ := h
  simp only [List.cons.injEq, and_true] at h2
  exact ⟨h1, b, cap, h2, h3⟩
theorem RV_mksl {e : Env} {id : Nat} {p : List Stp} {o len sz cap : Nat} {b : Option Addr} (hD : e.D id) (hb : cap = 0 ∨ b = some ⟨e.ρ id, offOf p + o * sz, none⟩) (hl : len ≤ cap) (hs : offOf p + (o + cap) * sz ≤ bsize e.w (e.ρ id)) : RV e (.sl id p o len sz) (.slice b len cap) := by
  simp only [RV, RS, V.isAgg, R]
  exact ⟨hD, b, cap, rfl, hb, hl, hs⟩
theorem RV_lst {e : Env} {sz n : Nat} {f : Nat → V} {x : Value} (h : RV e (.lst sz n f) x) : ∃ a cap, x = .slice a n cap ∧ n ≤ cap ∧ (0 < n → ∃ b o c el fz, a = some ⟨b, o, none⟩ ∧ e.im b ∧ e.w.heap[b]? = some (.cells c el fz) ∧ o + n * sz ≤ c.size ∧
      ∀ i, i < n → ((f i).solid = true ∧ (f i).size = sz) ∧ R e (f i) ((c.toList.drop (o + i * sz)).take sz)) := by
  simp only [RV, RS, V.isAgg, R] at h
  obtain ⟨a, cap, h2, h3⟩ := h
  simp only [List.cons.injEq, and_true] at h2
  exact ⟨a, cap, h2, h3⟩
theorem RV_mklst {e : Env} {sz n : Nat} {f : Nat → V} {a : Option Addr} {cap : Nat} (h : n ≤ cap) (h2 : 0 < n → ∃ b o c el fz, a = some ⟨b, o, none⟩ ∧ e.im b ∧ e.w.heap[b]? = some (.cells c el fz) ∧ o + n * sz ≤ c.size ∧
      ∀ i, i < n → ((f i).solid = true ∧ (f i).size = sz) ∧ R e (f i) ((c.toList.drop (o + i * sz)).take sz)) : RV e (.lst sz n f) (.slice a n cap) := by
  simp only [RV, RS, V.isAgg, R]
  exact ⟨a, cap, rfl, h, h2⟩

theorem good_isl {M : Seat} {c : Ctx} {e : Env} {H : Hp} {A : List V} {a : Act} (hI : Inv M c e H) (hA : FR e A a.tmps) {n : Nat} {t el : TypeId} {sz : Nat} {x x2 : Operand} {y y2 : X}
    (ht : M.P.underlying t = some (.slice el)) (hz : tsz M el = some sz) (hx : chkX M x y = true) (hg : GOK M e y) (hx2 : chkX M x2 y2 = true) (hg2 : GOK M e y2) (hp : (step A H n (.isl sz y y2)).pre) :
    Good M c e n (step A H n (.isl sz y y2)) (Sem.run M.P (do pure (Next.value (← Instr.indexAt t (a.eval x) (a.eval x2)))) e.w) := by
  have hv := chkX_R hI.φ hA hx hg
  have hv2 := chkX_R hI.φ hA hx2 hg2
  have hrun : ∀ (b : Addr) (len cap : Nat) k (i : Int), 0 ≤ i → i < len → (Instr.indexAt t (.slice (some b) len cap) (.int k i)).run M.P e.w = .ok (.pointer (some (b.add (i.toNat * sz)))) e.w := by
    intro b len cap k i h0 h1
    simp only [Instr.indexAt, asIntOf, Sem.run_bind, Sem.run_pure, run_underlying ht, Result.andThen_ok]
    simp [h0, h1, run_tsz hz]
  simp only [step] at hp ⊢
  split at hp
  · rename_i id p o m sz' k i hy hy2
    rw [hy] at hv; rw [hy2] at hv2
    obtain ⟨⟨h0, h1⟩, rfl⟩ := hp
    obtain ⟨hD, b, cap, hx', hb, hl, _⟩ := RV_sl hv
    have hcap : cap ≠ 0 := by omega
    have hb' := hb.resolve_left hcap
    rw [hx', RV_int hv2, hb']
    refine good_pure hI (run_v (hrun _ _ _ _ _ h0 h1)) rfl ?_
    rw [Addr_add]
    exact RV_mkptr hD rfl (by rw [offOf_padd]; simp only [Stp.off, Nat.add_mul]; omega)
  · rename_i sz' m f k i hy hy2
    rw [hy] at hv; rw [hy2] at hv2
    obtain ⟨⟨h0, h1⟩, rfl⟩ := hp
    obtain ⟨b, cap, hx', hl, hh⟩ := RV_lst hv
    obtain ⟨bb, o, cc, el', fz, rfl, hi, hb, hsz, hR⟩ := hh (by omega)
    rw [hx', RV_int hv2]
    refine good_pure hI (run_v (hrun _ _ _ _ _ h0 h1)) rfl ?_
    rw [Addr_add]
    have hlt : i.toNat < m := by omega
    obtain ⟨⟨_, h3⟩, h4⟩ := hR i.toNat hlt
    have hm : i.toNat * sz' + sz' ≤ m * sz' := by
      have : (i.toNat + 1) * sz' ≤ m * sz' := Nat.mul_le_mul_right _ hlt
      rw [Nat.add_mul] at this; omega
    exact RV_mkimm hi hb (by rw [h3]; omega) (by rw [h3]; exact h4)
  · exact hp.elim

theorem run_part {M : Seat} {t : TypeId} {agg : Bool} {sz : Nat} (hs : tsz M t = some sz) (ha : tagg M t = some agg) (w : World) {cs : Array Value} {o : Nat} (hl : o + sz ≤ cs.size) (h1 : agg = false → sz = 1) :
    (part t cs o).run M.P w = .ok (if agg then .agg ((cs.toList.drop o).take sz).toArray else cs.getD o undef) w := by
  unfold part
  simp only [Sem.run_bind, run_tagg ha, Result.andThen_ok]
  cases agg with
  | true =>
    simp only [if_true, Sem.run_bind, run_tsz hs, Result.andThen_ok, Sem.run_pure]
    congr 2
    apply Array.ext'
    simp [Array.toList_extract, List.extract_eq_take_drop]
  | false =>
    have := h1 rfl
    subst this
    have hlt : o < cs.size := by omega
    simp [hlt]

theorem good_idx {M : Seat} {c : Ctx} {e : Env} {H : Hp} {A : List V} {a : Act} (hI : Inv M c e H) (hA : FR e A a.tmps) {n : Nat} {t el : TypeId} {m sz : Nat} {agg : Bool} {x x2 : Operand} {y y2 : X}
    (ht : M.P.underlying t = some (.array m el)) (hz : tsz M el = some sz) (ha : tagg M el = some agg) (hx : chkX M x y = true) (hg : GOK M e y) (hx2 : chkX M x2 y2 = true) (hg2 : GOK M e y2) (hp : (step A H n (.idx m sz agg y y2)).pre) :
    Good M c e n (step A H n (.idx m sz agg y y2)) (Sem.run M.P (do pure (Next.value (← Instr.index t (a.eval x) (a.eval x2)))) e.w) := by
  have hv := chkX_R hI.φ hA hx hg
  have hv2 := chkX_R hI.φ hA hx2 hg2
  simp only [step] at hp ⊢
  split at hp
  · rename_i sz' m' f k i hy hy2
    rw [hy] at hv; rw [hy2] at hv2
    obtain ⟨⟨h0, h1⟩, rfl, rfl, hagg⟩ := hp
    simp only [RV, RS, V.isAgg, R] at hv
    obtain ⟨cs, hx', hlen, hR⟩ := hv
    have hlt : i.toNat < m' := by omega
    obtain ⟨⟨h3, h4⟩, h5⟩ := hR i.toNat hlt
    have hm : i.toNat * sz' + sz' ≤ m' * sz' := by
      have : (i.toNat + 1) * sz' ≤ m' * sz' := Nat.mul_le_mul_right _ hlt
      rw [Nat.add_mul] at this; omega
    obtain ⟨k1, k2⟩ := RV_loaded (c := cs.toArray) (o := i.toNat * sz') h3 h4 hagg (by simp; omega) (by simpa using h5)
    refine good_pure hI (run_v ?_) rfl k2
    rw [hx', RV_int hv2]
    simp only [Instr.index, asIntOf, Sem.run_bind, Sem.run_pure, run_underlying ht, Result.andThen_ok]
    simp only [h0, h1, and_self, if_true, Sem.run_bind, run_tsz hz, Result.andThen_ok]
    exact run_part hz ha e.w (by simp; omega) k1
  · exact hp.elim

theorem good_fld {M : Seat} {c : Ctx} {e : Env} {H : Hp} {A : List V} {a : Act} (hI : Inv M c e H) (hA : FR e A a.tmps) {n : Nat} {t : TypeId} {fs : Array Field} {i : Nat} {f : Field} {sz : Nat} {agg : Bool} {x : Operand} {y : X}
    (ht : M.P.underlying t = some (.struct fs)) (hf : fs[i]? = some f) (hz : tsz M f.type = some sz) (ha : tagg M f.type = some agg) (hx : chkX M x y = true) (hg : GOK M e y) (hp : (step A H n (.fld f.offset sz agg y)).pre) :
    Good M c e n (step A H n (.fld f.offset sz agg y)) (Sem.run M.P (do pure (Next.value (← Instr.field t (a.eval x) i))) e.w) := by
  have hv := chkX_R hI.φ hA hx hg
  simp only [step] at hp ⊢
  split at hp
  · rename_i m chn hy
    rw [hy] at hv
    obtain ⟨hh, hsol, hsz, hagg⟩ := hp
    simp only [RV, RS, V.isAgg, R] at hv
    obtain ⟨cs, hx', hlen, _, hR⟩ := hv
    obtain ⟨h1, h2⟩ := R_fget hR hh
    rw [hsz] at h1 h2
    obtain ⟨k1, k2⟩ := RV_loaded (c := cs.toArray) (o := f.offset) hsol hsz hagg (by simpa using h1) (by simpa using h2)
    refine good_pure hI (run_v ?_) rfl k2
    rw [hx']
    simp only [Instr.field, Sem.run_bind, run_underlying ht, Result.andThen_ok, hf, asAgg, Sem.run_pure]
    exact run_part hz ha e.w (by simpa using h1) k1
  · exact hp.elim
end Mv
