/- A part. -/
import Derived.Test.YtpcgkiecjakknaaGreatDoorAF
set_option linter.all false
namespace Mv
open Go

theorem splice_splice {cs ys : List Value} {a b n : Nat} (hb : b + ys.length ≤ n) (ha : a + n ≤ cs.length) : splice cs a (splice ((cs.drop a).take n) b ys) = splice cs (a + b) ys := by
  apply List.ext_getElem?
  intro i
  have hl : ((cs.drop a).take n).length = n := by simp; omega
  have hsl : (splice ((cs.drop a).take n) b ys).length = n := by rw [splice_length (by omega), hl]
  have e1 : cs.take a ++ splice ((cs.drop a).take n) b ys ++ cs.drop (a + n) = splice cs a (splice ((cs.drop a).take n) b ys) := by simp only [splice, hsl, hl]; congr 2; simp [hl]; omega
  rw [← e1]
  simp only [List.getElem?_append, List.length_append, List.length_take, hsl]
  have ma : min a cs.length = a := by omega
  rw [ma]
  by_cases h1 : i < a
  · have h2 : i < a + n := by omega
    simp only [h1, h2, if_true]
    simp only [splice, List.getElem?_append, List.length_append, List.length_take]
    have h3 : i < min (a + b) cs.length := by omega
    have h4 : i < min (a + b) cs.length + ys.length := by omega
    simp [h1, h3, h4]

  · by_cases h2 : i < a + n
    · simp only [h1, h2, if_true, if_false]
      have := splice_in (cs := cs) (ys := ys) (o := a + b) (a := a) (n := n) (b := b) (by omega) rfl hb ha
      rw [← this]
      rw [List.getElem?_take, List.getElem?_drop]
      have h5 : i - a < n := by omega
      have h6 : a + (i - a) = i := by omega
      simp [h5, h6]
    · simp only [h2, if_false]
      have := splice_out (cs := cs) (ys := ys) (o := a + b) (a := a + n) (n := cs.length) (by omega) (.inr (by omega))
      have h7 : (splice cs (a + b) ys).drop (a + n) = cs.drop (a + n) := by
        rw [List.take_of_length_le (by simp [splice_length (cs := cs) (ys := ys) (o := a + b) (by omega)]), List.take_of_length_le (by simp)] at this
        exact this
      have h8 := congrArg (fun l => l[i - (a + n)]?) h7
      simp only [List.getElem?_drop] at h8 ⊢
      have h9 : a + n + (i - (a + n)) = i := by omega
      rw [h9] at h8 ⊢
      exact h8.symm

/-- A range of a row written. -/
theorem R_range {e : Env} {sz l n o : Nat} {f g : Nat → V} {cs new : List Value} (hf : R e (.ar sz l f) cs) (hg : R e (.ar sz n g) new) (hfit : o + n ≤ l) :
    R e (.ar sz l (fun i => if o ≤ i ∧ i < o + n then g (i - o) else f i)) (splice cs (o * sz) new) := by
  simp only [R] at hf hg
  obtain ⟨hf1, hf2⟩ := hf
  obtain ⟨hg1, hg2⟩ := hg
  have hle : (o + n) * sz ≤ l * sz := Nat.mul_le_mul_right _ hfit
  rw [Nat.add_mul] at hle
  have hnew : o * sz + new.length ≤ cs.length := by omega
  refine R_ar_of (by rw [splice_length hnew]; exact hf1) (fun i hi => ?_)
  by_cases hio : o ≤ i ∧ i < o + n
  · simp only [hio, and_self, if_true]
    obtain ⟨q1, q2⟩ := hg2 (i - o) (by omega)
    refine ⟨q1, ?_⟩
    have e2 : i * sz = o * sz + (i - o) * sz := by rw [← Nat.add_mul]; congr 1; omega
    have hw := row_le (sz := sz) (show i - o < n by omega)
    have h3 := splice_self (cs := cs) (ys := new) (o := o * sz) (n := new.length) hnew rfl
    have h4 := drop_take_drop (splice cs (o * sz) new) (o * sz) new.length ((i - o) * sz) sz (by omega)
    rw [h3] at h4
    rw [e2, ← h4]; exact q2
  · simp only [hio, if_false]
    obtain ⟨q1, q2⟩ := hf2 i hi
    refine ⟨q1, ?_⟩
    have hd : i * sz + sz ≤ o * sz ∨ o * sz + new.length ≤ i * sz := by
      rcases Nat.lt_or_ge i o with h | h
      · left; exact row_le h
      · right
        have : (o + n) * sz ≤ i * sz := Nat.mul_le_mul_right _ (by omega)
        rw [Nat.add_mul] at this
        omega
    rw [splice_out hnew hd]; exact q2

theorem good_copy {M : Seat} {c : Ctx} {e : Env} {H : Hp} {A : List V} {a : Act} (hI : Inv M c e H) (hA : FR e A a.tmps) {n : Nat} {sT elT ty : TypeId} {ts : Array TypeId} {sz : Nat} {x1 x2 : Operand} {y1 y2 : X}
    (hts : ts[0]? = some sT) (hs : M.P.underlying sT = some (.slice elT)) (hz : tsz M elT = some sz)
    (hx : chkX M x1 y1 = true) (hg : GOK M e y1) (hx2 : chkX M x2 y2 = true) (hg2 : GOK M e y2) (hp : (step A H n (.copy sz y1 y2)).pre) :
    Good M c e n (step A H n (.copy sz y1 y2)) (Sem.run M.P (do pure (Next.value (← Builtin.copy_ ts ty #[a.eval x1, a.eval x2]))) e.w) := by
  have hv := chkX_R hI.φ hA hx hg
  have hv2 := chkX_R hI.φ hA hx2 hg2
  simp only [step] at hp ⊢
  split at hp
  · rename_i id p o l sz'' sz' m g hy1 hy2
    rw [hy1] at hv
    split at hp
    case h_2 => exact hp.elim
    rename_i s l' f hgt
    obtain ⟨⟨rfl, rfl, rfl⟩, ⟨k1, k2, k3, k3', k4⟩, hok⟩ := hp
    obtain ⟨hD, base, cap, hx', hbb, hlc, hbs⟩ := RV_sl hv
    rw [hx']
    obtain ⟨ax, cx, new, hxe, hR, hrun⟩ := elems_run (M := M) hI hv2 hy2 hok (n := min m l) (Nat.min_le_left _ _)
    have hRl : new.length = min m l * s := by simp only [R] at hR; exact hR.1
    obtain ⟨cells, el', hc, hsz', hRc⟩ := hI.cells k1 k2
    have hlen : (cells.toList.take (hget H id).size).length = (hget H id).size := by simp; omega
    obtain ⟨g1, g2⟩ := R_get hRc hlen k3
    rw [hlen] at g1
    rw [hgt] at g1 g2
    have g1' : offOf p + l' * s ≤ (hget H id).size := g1
    have h1c := R_one (v := .ar s (min m l) g) rfl hR
    have hol : (o + min m l) * s ≤ l' * s := Nat.mul_le_mul_right _ (by omega)
    rw [Nat.add_mul] at hol
    have hpos : offOf p + o * s + new.length ≤ cells.size := by omega
    have hst := run_storeCells_at M.P (e.ρ id) (offOf p + o * s) el' new 0 cells e.w hc (by simpa using hpos) h1c
    simp only [Nat.add_zero] at hst
    have hnew : (cells.toList.take (offOf p + o * s) ++ new ++ cells.toList.drop (offOf p + o * s + new.length)) = splice cells.toList (offOf p + o * s) new := rfl
    rw [hnew] at hst
    have hszn : (splice cells.toList (offOf p + o * s) new).toArray.size = cells.size := by simpa using splice_length (cs := cells.toList) (by simpa using hpos)
    have hrange := R_range g2 hR (o := o) (by omega)
    have hsub : (splice (((cells.toList.take (hget H id).size).drop (offOf p)).take (l' * s)) (o * s) new).length = l' * s := by
      rw [splice_length]
      · simp; omega
      · simp; omega
    have hset := R_set (p := p) (c := hget H id) (y := .ar s l' (fun i => if o ≤ i ∧ i < o + min m l then g (i - o) else f i)) rfl hrange (by simpa [V.size] using hsub) hRc hlen k3' k3 (by rw [hgt]; rfl)
    have hspl : splice (cells.toList.take (hget H id).size) (offOf p) (splice (((cells.toList.take (hget H id).size).drop (offOf p)).take (l' * s)) (o * s) new) = splice (cells.toList.take (hget H id).size) (offOf p + o * s) new :=
      splice_splice (by omega) (by omega)
    have hset' : R e (V.set (.ar s l' (fun i => if o ≤ i ∧ i < o + min m l then g (i - o) else f i)) p (hget H id)) (splice (cells.toList.take (hget H id).size) (offOf p + o * s) new) := by
      rw [← hspl]; exact hset
    have hzz := V.set_size (.ar s l' (fun i => if o ≤ i ∧ i < o + min m l then g (i - o) else f i)) p (hget H id) k3' k3 (by rw [hgt]; rfl)
    have hzs := V.set_solid (y := .ar s l' (fun i => if o ≤ i ∧ i < o + min m l then g (i - o) else f i)) rfl p (hget H id) k3' k3 k2
    have htk : (splice cells.toList (offOf p + o * s) new).take (hget H id).size = splice (cells.toList.take (hget H id).size) (offOf p + o * s) new := by
      have := splice_in (cs := cells.toList) (ys := new) (o := offOf p + o * s) (a := 0) (n := (hget H id).size) (b := offOf p + o * s) (by simpa using hpos) (by omega) (by omega) (by simp; omega)
      simpa using this
    obtain ⟨r1, r2⟩ := hI.row k1 hc hszn hzs (by rw [hzz, hszn]; exact hsz') (by rw [hzz, List.toList_toArray, htk]; exact hset')
    have hempty : cap = 0 → new = [] := fun hc0 => by
      have : min m l = 0 := by omega
      rw [this] at hRl
      exact List.eq_nil_of_length_eq_zero (by simpa using hRl)
    have hself : cap = 0 → e.w.setRow (e.ρ id) (splice cells.toList (offOf p + o * s) new).toArray = e.w := fun hc0 => by
      have : (splice cells.toList (offOf p + o * s) []).toArray = cells := by simp [splice]
      rw [hempty hc0, this]
      exact setRow_self _ _ _ _ _ hc
    refine ⟨.int .i64 (min m l : Nat), _, .inl (run_v ?_), r1, r2, RV_mkint _ _, fun _ h => .inl h⟩
    have hrun' := hrun e.w rfl
    rw [hxe] at hrun' ⊢
    have hmin : Nat.min m l = min m l := rfl
    cases base with
    | none =>
      have := hself (hbb.resolve_right (by simp))
      simp only [Builtin.copy_, hts, List.getElem?_toArray, List.getElem?_cons_zero, List.getElem?_cons_succ, Sem.run_bind, run_underlying hs, Result.andThen_ok, lenOf_slice, run_tsz hz, hmin, hrun', Sem.run_pure, goInt]
      rw [this]
    | some ad =>
      have hst1 : (storeCells ad new).run M.P e.w = .ok () (e.w.setRow (e.ρ id) (splice cells.toList (offOf p + o * s) new).toArray) := by
        by_cases hc0 : cap = 0
        · rw [hself hc0, hempty hc0]; simp [storeCells]
        · have hb := hbb.resolve_left hc0
          simp only [Option.some.injEq] at hb
          subst hb
          exact hst
      simp only [Builtin.copy_, hts, List.getElem?_toArray, List.getElem?_cons_zero, List.getElem?_cons_succ, Sem.run_bind, run_underlying hs, Result.andThen_ok, lenOf_slice, run_tsz hz, hmin, hrun', Sem.run_pure, goInt, List.toList_toArray, hst1]
  · rename_i id p o l sz'' hy1 hy2
    rw [hy1] at hv
    have hp : (match y2.ev A with | .nils => True | _ => False) := hp
    split at hp
    case h_2 => exact hp.elim
    rename_i hy3
    rw [hy3] at hv2
    obtain ⟨hD, base, cap, hx', _⟩ := RV_sl hv
    have hn : a.eval x2 = .slice none 0 0 := by simpa [RV, RS, V.isAgg, R] using hv2
    refine good_pure hI (x := .int .i64 0) (run_v ?_) rfl (RV_mkint _ _)
    rw [hx', hn]
    have h0 : Nat.min 0 l = 0 := Nat.zero_min l
    have hf : ∀ w, (Builtin.firstCells sz 0 (.slice none 0 0)).run M.P w = .ok #[] w := fun w => by simp [Builtin.firstCells]
    cases base with
    | none => simp only [Builtin.copy_, hts, List.getElem?_toArray, List.getElem?_cons_zero, List.getElem?_cons_succ, Sem.run_bind, run_underlying hs, Result.andThen_ok, lenOf_slice, run_tsz hz, h0, hf, Sem.run_pure, goInt]; rfl
    | some ad =>
      have hst1 : (storeCells ad []).run M.P e.w = .ok () e.w := by simp [storeCells]
      simp only [Builtin.copy_, hts, List.getElem?_toArray, List.getElem?_cons_zero, List.getElem?_cons_succ, Sem.run_bind, run_underlying hs, Result.andThen_ok, lenOf_slice, run_tsz hz, h0, hf, Sem.run_pure, goInt, hst1]; rfl
  · exact hp.elim

/-- The cells of a part that is laid into a literal. -/
theorem fill_splice (cs : Array Value) (v : Array Value) (off : Nat) (h : off + v.size ≤ cs.size) :
    v.zipIdx.foldl (fun cs (x, j) => cs.setIfInBounds (off + j) x) cs = (splice cs.toList off v.toList).toArray := by
  have key : ∀ (l : List Value) (k : Nat) (cs : Array Value), off + k + l.length ≤ cs.size → (l.zipIdx k).foldl (fun cs (x, j) => cs.setIfInBounds (off + j) x) cs = (splice cs.toList (off + k) l).toArray := by
    intro l
    induction l with
    | nil => intro k cs _; simp [splice]
    | cons x l ih =>
      intro k cs hk
      simp only [List.length_cons] at hk
      simp only [List.zipIdx_cons, List.foldl_cons]
      rw [ih (k + 1) _ (by simp; omega)]
      congr 1
      simp only [splice, Array.toList_setIfInBounds]
      have e1 : off + (k + 1) = off + k + 1 := by omega
      rw [e1]
      have e2 : (cs.toList.set (off + k) x).take (off + k + 1) = cs.toList.take (off + k) ++ [x] := by
        rw [List.take_set, List.take_add_one]
        have : (cs.toList.take (off + k)).length = off + k := by simp; omega
        rw [List.set_append_right _ _ (by omega)]
        have h3 : off + k < cs.toList.length := by simp; omega
        simp [this, List.getElem?_eq_getElem h3]
      have e3 : (cs.toList.set (off + k) x).drop (off + k + 1 + l.length) = cs.toList.drop (off + k + 1 + l.length) := by
        rw [List.drop_set]; simp; omega
      rw [e2, e3]
      simp [Nat.add_comm 1, Nat.add_left_comm, Nat.add_assoc]
  have := key v.toList 0 cs (by simpa using h)
  simp only [Nat.add_zero] at this
  rw [← this, ← Array.foldl_toList]
  simp [Array.toList_zipIdx]

def chkParts (M : Seat) (place : Nat → Option (Nat × Nat)) : List (Nat × Operand) → List (Stp × Nat × X) → Bool
  | [], [] => true
  | (i, o) :: r, (s, sz, x) :: r' => (match place i with | some (off, n) => off == s.off && n == sz | none => false) && chkX M o x && chkParts M place r r'
  | _, _ => false

def GOKps (M : Seat) (e : Env) : List (Stp × Nat × X) → Prop
  | [] => True
  | (_, _, x) :: r => GOK M e x ∧ GOKps M e r

theorem fill_R {M : Seat} {e : Env} (hφ : e.φ = M.φ) {A : List V} {a : Act} (hA : FR e A a.tmps) (place : Nat → Option (Nat × Nat)) : ∀ (parts : List (Nat × Operand)) (ps : List (Stp × Nat × X)) (c : V) (cs : Array Value),
    chkParts M place parts ps = true → GOKps M e ps → R e c cs.toList → cs.size = c.size → c.solid = true → (∀ q ∈ ps, noR [q.1] = true) → vbuildOK c A ps →
    ∃ cs', Instr.fill place cs (parts.map fun q => (q.1, a.eval q.2)) = some cs' ∧ R e (vbuild c A ps) cs'.toList ∧ cs'.size = (vbuild c A ps).size ∧ (vbuild c A ps).solid = true ∧ cs'.size = cs.size
  | [], [], c, cs, _, _, hR, hl, hs, _, _ => ⟨cs, rfl, hR, hl, hs, rfl⟩
  | (i, o) :: r, (s, sz, x) :: r', c, cs, hc, hg, hR, hl, hs, hn, hok => by
    simp only [chkParts, Bool.and_eq_true] at hc
    obtain ⟨⟨hp, hx⟩, hr⟩ := hc
    simp only [vbuildOK] at hok
    obtain ⟨⟨h1, h2, h3, h4⟩, hok'⟩ := hok
    split at hp
    case h_2 => cases hp
    rename_i off n hpl
    simp only [Bool.and_eq_true, beq_iff_eq] at hp
    obtain ⟨rfl, rfl⟩ := hp
    have hv := chkX_R hφ hA hx hg.1
    rw [RV_solid h1] at hv
    have hRy := RS_cells h1 hv
    have hyl := R_len h1 hRy
    have hnr := hn _ (List.mem_cons_self)
    obtain ⟨g1, _⟩ := R_get hR (by simpa using hl) h2
    simp only [offOf, Nat.add_zero] at g1
    have hsz : (a.eval o).cells.size = n := by
      have : (a.eval o).cells.toList.length = (a.eval o).cells.size := by simp
      omega
    have hfit : s.off + (a.eval o).cells.size ≤ cs.size := by
      have : cs.toList.length = cs.size := by simp
      omega
    have h34 : (x.ev A).size = (c.get [s]).size := h3.trans h4.symm
    have hset := R_set h1 hRy hyl hR (by simpa using hl) hnr h2 h34
    simp only [offOf, Nat.add_zero] at hset
    have hzz := V.set_size (x.ev A) [s] c hnr h2 h34
    have hzs := V.set_solid h1 [s] c hnr h2 hs
    have hlen : (splice cs.toList s.off (a.eval o).cells.toList).length = cs.toList.length := splice_length (by simpa using hfit)
    obtain ⟨cs', k1, k2, k3, k4, k5⟩ := fill_R hφ hA place r r' (V.set (x.ev A) [s] c) (splice cs.toList s.off (a.eval o).cells.toList).toArray hr hg.2 (by simpa using hset) (by rw [hzz]; simpa [hl] using hlen) hzs (fun q hq => hn q (List.mem_cons_of_mem _ hq)) hok'
    refine ⟨cs', ?_, k2, k3, k4, by rw [k5]; simpa using hlen⟩
    simp only [List.map_cons, Instr.fill, hpl]
    have hcond : (decide ((a.eval o).cells.size ≠ n) || decide (s.off + (a.eval o).cells.size > cs.size)) = false := by
      simp [hsz]; omega
    simp only [hcond, Bool.false_eq_true, if_false]
    rw [fill_splice _ _ _ hfit]
    exact k1
  | [], _ :: _, _, _, hc, _, _, _, _, _, _ => by simp [chkParts] at hc
  | _ :: _, [], _, _, hc, _, _, _, _, _, _ => by simp [chkParts] at hc

theorem set_agg {y : V} {s : Stp} {c : V} (hn : noR [s] = true) (hk : c.ok [s]) : (V.set y [s] c).isAgg = true := by
  cases s with
  | f o => cases c <;> simp only [V.ok] at hk; rfl
  | i sz ix => cases c <;> simp only [V.ok] at hk; rfl
  | r sz o n => simp [noR] at hn

theorem vbuild_agg (A : List V) : ∀ (l : List (Stp × Nat × X)) (c : V), c.isAgg = true → (∀ q ∈ l, noR [q.1] = true) → vbuildOK c A l → (vbuild c A l).isAgg = true
  | [], _, hc, _, _ => hc
  | (s, sz, x) :: l, c, _, hn, hok => by
    simp only [vbuildOK] at hok
    exact vbuild_agg A l _ (set_agg (hn _ List.mem_cons_self) hok.1.2.1) (fun q hq => hn q (List.mem_cons_of_mem _ hq)) hok.2

def sfs (M : Seat) : List Field → Option (List (Nat × Nat))
  | [] => some []
  | f :: r => match tsz M f.type, sfs M r with
    | some n, some l => some ((f.offset, n) :: l)
    | _, _ => none

theorem run_places {M : Seat} (w : World) : ∀ (l : List Field) (pl : List (Nat × Nat)), sfs M l = some pl → (l.mapM (m := Sem) fun f => do pure (f.offset, ← Go.sizeOf f.type)).run M.P w = .ok pl w
  | [], pl, h => by simp only [sfs, Option.some.injEq] at h; subst h; rfl
  | f :: r, pl, h => by
    simp only [sfs] at h
    split at h
    case h_2 => cases h
    rename_i n l' h1 h2
    simp only [Option.some.injEq] at h
    subst h
    have ih := run_places w r l' h2
    simp only [List.mapM_cons, Sem.run_bind, run_tsz h1, Result.andThen_ok, Sem.run_pure, ih]

theorem run_placesA {M : Seat} {w : World} {fs : Array Field} {pl : List (Nat × Nat)} (h : sfs M fs.toList = some pl) : (fs.mapM (m := Sem) fun f => do pure (f.offset, ← Go.sizeOf f.type)).run M.P w = .ok pl.toArray w := by
  rw [Array.mapM_eq_mapM_toList, Sem.run_map, run_places w _ _ h]
  rfl

theorem good_build_st {M : Seat} {c : Ctx} {e : Env} {H : Hp} {A : List V} {a : Act} (hI : Inv M c e H) (hA : FR e A a.tmps) {n : Nat} {t : TypeId} {z : Z} {x : Value} {fs : Array Field} {pl : List (Nat × Nat)} {parts : Array (Nat × Operand)} {ps : List (Stp × Nat × X)}
    (hz : (M.P.info? t).bind (·.zero) = some x) (hzc : z.chk x = true) (hagg : (z.v 0).isAgg = true) (ht : M.P.underlying t = some (.struct fs)) (hpl : sfs M fs.toList = some pl) (hps : chkParts M (fun i => pl[i]?) parts.toList ps = true) (hg : GOKps M e ps) (hn : ∀ q ∈ ps, noR [q.1] = true)
    (hp : (step A H n (.build z ps)).pre) :
    Good M c e n (step A H n (.build z ps)) (Sem.run M.P (do pure (Next.value (← Instr.build t (parts.map fun (i, x) => (i, a.eval x))))) e.w) := by
  obtain ⟨h1, h2, h3, h4⟩ := Z.chk_R e hzc
  simp only [step] at hp ⊢
  obtain ⟨cs', k1, k2, k3, k4, k5⟩ := fill_R hI.φ hA (fun i => pl[i]?) parts.toList ps (z.v 0) x.cells hps hg h2 (by rw [h1, h4]) h3 hn hp
  have haggb : (vbuild (z.v 0) A ps).isAgg = true := vbuild_agg A ps _ hagg hn hp
  refine good_pure hI (x := .agg cs') (run_v ?_) rfl ?_
  · simp only [Instr.build, Sem.run_bind, run_zero hz, Result.andThen_ok, run_underlying ht, run_placesA hpl]
    have hm : (parts.map fun (i, x) => (i, a.eval x)).toList = parts.toList.map fun q => (q.1, a.eval q.2) := by simp
    have hpf : (fun x => pl.toArray[x]?) = fun i : Nat => pl[i]? := by funext i; simp
    simp only [hm, hpf, k1, Sem.run_pure]
  · rw [RV_solid k4]
    unfold RS
    rw [haggb]
    exact ⟨cs'.toList, by simp, k2⟩

theorem good_build_ar {M : Seat} {c : Ctx} {e : Env} {H : Hp} {A : List V} {a : Act} (hI : Inv M c e H) (hA : FR e A a.tmps) {n : Nat} {t el : TypeId} {m sz : Nat} {z : Z} {x : Value} {parts : Array (Nat × Operand)} {ps : List (Stp × Nat × X)}
    (hz : (M.P.info? t).bind (·.zero) = some x) (hzc : z.chk x = true) (hagg : (z.v 0).isAgg = true) (ht : M.P.underlying t = some (.array m el)) (hsz : tsz M el = some sz) (hps : chkParts M (fun i => some (i * sz, sz)) parts.toList ps = true) (hg : GOKps M e ps) (hn : ∀ q ∈ ps, noR [q.1] = true)
    (hp : (step A H n (.build z ps)).pre) :
    Good M c e n (step A H n (.build z ps)) (Sem.run M.P (do pure (Next.value (← Instr.build t (parts.map fun (i, x) => (i, a.eval x))))) e.w) := by
  obtain ⟨h1, h2, h3, h4⟩ := Z.chk_R e hzc
  simp only [step] at hp ⊢
  obtain ⟨cs', k1, k2, k3, k4, k5⟩ := fill_R hI.φ hA (fun i => some (i * sz, sz)) parts.toList ps (z.v 0) x.cells hps hg h2 (by rw [h1, h4]) h3 hn hp
  have haggb : (vbuild (z.v 0) A ps).isAgg = true := vbuild_agg A ps _ hagg hn hp
  refine good_pure hI (x := .agg cs') (run_v ?_) rfl ?_
  · simp only [Instr.build, Sem.run_bind, run_zero hz, Result.andThen_ok, run_underlying ht, run_tsz hsz]
    have hm : (parts.map fun (i, x) => (i, a.eval x)).toList = parts.toList.map fun q => (q.1, a.eval q.2) := by simp
    simp only [hm, k1, Sem.run_pure]
  · rw [RV_solid k4]
    unfold RS
    rw [haggb]
    exact ⟨cs'.toList, by simp, k2⟩

/-- A row of zeros. -/
theorem zeros_R {e : Env} {z : Z} {x : Value} (hzc : z.chk x = true) (hpos : 0 < z.sz) (m : Nat) : R e (.ar z.sz m (fun _ => z.v 0)) ((Array.range (m * z.sz)).map (x.cells[· % x.cells.size]!)).toList := by
  obtain ⟨h1, h2, h3, h4⟩ := Z.chk_R e hzc
  refine R_ar_of (by simp) (fun i hi => ⟨⟨h3, h4⟩, ?_⟩)
  have : ((((Array.range (m * z.sz)).map (x.cells[· % x.cells.size]!)).toList.drop (i * z.sz)).take z.sz) = x.cells.toList := by
    apply List.ext_getElem?
    intro k
    rw [List.getElem?_take, List.getElem?_drop]
    by_cases hk : k < z.sz
    · have hb := row_le (sz := z.sz) hi
      have hlt : i * z.sz + k < m * z.sz := by omega
      have hmod : (i * z.sz + k) % z.sz = k := by rw [Nat.mul_comm, Nat.mul_add_mod, Nat.mod_eq_of_lt hk]
      have hkx : k < x.cells.size := by omega
      simp [hk, hlt, h1, hmod, hkx]
    · simp only [hk, if_false]
      rw [List.getElem?_eq_none]
      simp [h1]; omega
  rw [this]; exact h2

theorem good_bsl {M : Seat} {c : Ctx} {e : Env} {H : Hp} {A : List V} {a : Act} (hI : Inv M c e H) (hA : FR e A a.tmps) {n : Nat} (hnD : ¬ e.D n) (hk : c.k ≤ n) {t el : TypeId} {m : Nat} {z : Z} {x : Value} {parts : Array (Nat × Operand)} {ps : List (Stp × Nat × X)}
    (hz : (M.P.info? el).bind (·.zero) = some x) (hzc : z.chk x = true) (hpos : 0 < z.sz) (ht : M.P.underlying t = some (.slice el)) (hsz : tsz M el = some z.sz) (hlim : m * z.sz ≤ 2 ^ 24) (hps : chkParts M (fun i => some (i * z.sz, z.sz)) parts.toList ps = true) (hg : GOKps M e ps) (hn : ∀ q ∈ ps, noR [q.1] = true)
    (hp : (step A H n (.bsl z.sz m z ps)).pre) :
    Good M c e n (step A H n (.bsl z.sz m z ps)) (Sem.run M.P (do pure (Next.value (← Instr.buildSlice t m (parts.map fun (i, x) => (i, a.eval x))))) e.w) := by
  simp only [step] at hp ⊢
  have hz0 := zeros_R (e := e) hzc hpos m
  obtain ⟨h1, h2, h3, h4⟩ := Z.chk_R e hzc
  obtain ⟨cs', k1, k2, k3, k4, k5⟩ := fill_R hI.φ hA (fun i => some (i * z.sz, z.sz)) parts.toList ps (.ar z.sz m (fun _ => z.v 0)) ((Array.range (m * z.sz)).map (x.cells[· % x.cells.size]!)) hps hg hz0 (by simp [V.size]) rfl hn hp
  obtain ⟨r1, r2, r3, r4, r5⟩ := hI.newCells hnD hk (cells := cs') (el := el) k4 (by omega) (by rw [List.take_of_length_le (by simp; omega)]; exact k2)
  refine ⟨.slice (some ⟨e.w.heap.size, 0, none⟩) m m, _, .inl (run_v ?_), r1, r2, ?_, new_D⟩
  · have hnl : ¬ m * z.sz > 2 ^ 24 := by omega
    have hm : (parts.map fun (i, x) => (i, a.eval x)).toList = parts.toList.map fun q => (q.1, a.eval q.2) := by simp
    simp only [Instr.buildSlice, Sem.run_bind, run_underlying ht, Result.andThen_ok, run_tsz hsz, hnl, if_false, Sem.run_pure]
    by_cases h0 : m * z.sz = 0
    · rw [h0] at k1
      simp only [h0, if_true]
      rw [Sem.run_bind, Sem.run_pure, Result.andThen_ok]
      have e0 : (Array.range 0).map (fun i => (#[] : Array Value)[i % (#[] : Array Value).size]!) = (Array.range 0).map (fun i => x.cells[i % x.cells.size]!) := by simp
      simp only [hm]
      rw [e0, k1]
      rfl
    · simp only [h0, if_false, Sem.run_bind, run_zero hz, Result.andThen_ok, Sem.run_pure, hm, k1, newRow, run_newObj]
      rfl
  · refine RV_mksl r4 (.inr (by rw [r3]; simp [offOf])) (Nat.le_refl _) ?_
    rw [r3, r5, k5]
    simp [offOf]

theorem good_mksl {M : Seat} {c : Ctx} {e : Env} {H : Hp} {A : List V} {a : Act} (hI : Inv M c e H) (hA : FR e A a.tmps) {n : Nat} (hnD : ¬ e.D n) (hk : c.k ≤ n) {t el : TypeId} {bytes : Nat} {i : TypeInfo} {z : Z} {x : Value} {x1 x2 : Operand} {y1 y2 : X}
    (hi : M.P.info? el = some i) (hz : i.zero = some x) (hzc : z.chk x = true) (hpos : 0 < z.sz) (ht : M.P.underlying t = some (.slice el)) (hsz : i.size = z.sz) (hby : i.bytes = bytes)
    (hx : chkX M x1 y1 = true) (hg : GOK M e y1) (hx2 : chkX M x2 y2 = true) (hg2 : GOK M e y2) (hp : (step A H n (.mksl z.sz bytes z y1 y2)).pre) :
    Good M c e n (step A H n (.mksl z.sz bytes z y1 y2)) (Sem.run M.P (do pure (Next.value (← Instr.makeSlice t (a.eval x1) (a.eval x2)))) e.w) := by
  have hv := chkX_R hI.φ hA hx hg
  have hv2 := chkX_R hI.φ hA hx2 hg2
  simp only [step] at hp ⊢
  split at hp
  case h_2 => exact hp.elim
  rename_i k l k' cp hy1 hy2
  rw [hy1] at hv
  rw [hy2] at hv2
  obtain ⟨rfl, rfl, h0, hle, hroom, hlim⟩ := hp
  rw [RV_int hv, RV_int hv2]
  have hz0 := zeros_R (e := e) hzc hpos cp.toNat
  obtain ⟨h1, h2, h3, h4⟩ := Z.chk_R e hzc
  obtain ⟨r1, r2, r3, r4, r5⟩ := hI.newCells hnD hk (cells := (Array.range (cp.toNat * z.sz)).map (x.cells[· % x.cells.size]!)) (el := el) (z := .ar z.sz cp.toNat (fun _ => z.v 0)) rfl (by simp [V.size]) (by rw [List.take_of_length_le (by simp [V.size])]; exact hz0)
  refine ⟨.slice (some ⟨e.w.heap.size, 0, none⟩) l.toNat cp.toNat, _, .inl (run_v ?_), r1, r2, ?_, new_D⟩
  · have p47 : (2 : Int) ^ 47 = 140737488355328 := by decide
    have p48 : (2 : Int) ^ 48 = 281474976710656 := by decide
    have w1 : IntKind.i64.wrap l = l := by
      unfold IntKind.wrap IntKind.bits IntKind.signed
      have : (2 : Int) ^ 64 = 18446744073709551616 := by decide
      have : (2 : Int) ^ (64 - 1) = 9223372036854775808 := by decide
      simp; omega
    have w2 : IntKind.i64.wrap cp = cp := by
      unfold IntKind.wrap IntKind.bits IntKind.signed
      have : (2 : Int) ^ 64 = 18446744073709551616 := by decide
      have : (2 : Int) ^ (64 - 1) = 9223372036854775808 := by decide
      simp; omega
    have hcond : ((decide (cp < 0) || decide ((i.bytes : Int) * cp > 2 ^ 48)) || decide (l < 0) || decide (l > cp)) = false := by
      have hb : (i.bytes : Int) * cp ≤ 2 ^ 47 := by rw [hby, Int.mul_comm]; exact hroom
      simp only [Bool.or_eq_false_iff, decide_eq_false_iff_not]
      omega
    simp only [Instr.makeSlice, Sem.run_bind, run_underlying ht, Result.andThen_ok, asInt, asIntOf, Sem.run_pure, typeInfo, run_program, hi, w1, w2]
    have hcond' : ¬ ((decide (cp < 0) || decide ((i.bytes : Int) * cp > 2 ^ 48) || decide (l < 0) || decide (l > cp)) = true) := by simp only [hcond]; simp
    rw [if_neg hcond']
    have hs' : tsz M el = some z.sz := by simp [tsz, hi, hsz]
    simp only [Sem.run_bind, run_askRoom, run_tsz hs', Result.andThen_ok]
    by_cases hc0 : cp.toNat * z.sz = 0
    · simp only [hc0, if_true, Sem.run_bind, Sem.run_pure, Result.andThen_ok, newRow, run_newObj]
      have e0 : (Array.range 0).map (fun i => (#[] : Array Value)[i % (#[] : Array Value).size]!) = (Array.range 0).map (fun i => x.cells[i % x.cells.size]!) := by simp
      rw [e0]
      rfl
    · simp only [hc0, if_false, Sem.run_bind, Sem.run_pure, Result.andThen_ok, zeroValue, typeInfo, run_program, hi, hz, newRow, run_newObj]
      rfl
  · refine RV_mksl r4 (.inr (by rw [r3]; simp [offOf])) (by omega) ?_
    rw [r3, r5]
    simp [offOf]
end Mv
