/- A part. -/
import Derived.Test.YtpcgkiecjakknaaGreatDoorAI
set_option linter.all false
namespace Mv
open Go

theorem good_mm {M : Seat} {c : Ctx} {e : Env} {H : Hp} {A : List V} {a : Act} (hI : Inv M c e H) (hA : FR e A a.tmps) {n : Nat} {max : Bool} {ts : Array TypeId} {ty : TypeId} {x1 x2 : Operand} {y1 y2 : X}
    (hx : chkX M x1 y1 = true) (hx2 : chkX M x2 y2 = true) (hp : (step A H n (.mm max y1 y2)).pre) :
    Good M c e n (step A H n (.mm max y1 y2)) (Sem.run M.P (do pure (Next.value (← (if max then Builtin.max_ ts ty #[a.eval x1, a.eval x2] else Builtin.min_ ts ty #[a.eval x1, a.eval x2])))) e.w) := by
  have v1 := chkX_R hI.φ hA hx (gok hI hx)
  have v2 := chkX_R hI.φ hA hx2 (gok hI hx2)
  simp only [step] at hp ⊢
  split at hp
  · rename_i k i k' j hy1 hy2
    rw [hy1] at v1
    rw [hy2] at v2
    have hp' : k = k' := hp
    subst hp'
    rw [RV_int v1, RV_int v2]
    refine good_pure hI (x := .int k (if max then (if i < j then j else i) else (if j < i then j else i))) (run_v ?_) rfl (RV_mkint _ _)
    cases max <;> simp [Builtin.min_, Builtin.max_, Builtin.min2, Builtin.max2]
  · exact hp.elim

theorem good_mm4 {M : Seat} {c : Ctx} {e : Env} {H : Hp} {A : List V} {a : Act} (hI : Inv M c e H) (hA : FR e A a.tmps) {n : Nat} {max : Bool} {ts : Array TypeId} {ty : TypeId} {x1 x2 x3 x4 : Operand} {y1 y2 y3 y4 : X}
    (hx : chkX M x1 y1 = true) (hx2 : chkX M x2 y2 = true) (hx3 : chkX M x3 y3 = true) (hx4 : chkX M x4 y4 = true) (hp : (step A H n (.mm4 max y1 y2 y3 y4)).pre) :
    Good M c e n (step A H n (.mm4 max y1 y2 y3 y4)) (Sem.run M.P (do pure (Next.value (← (if max then Builtin.max_ ts ty #[a.eval x1, a.eval x2, a.eval x3, a.eval x4] else Builtin.min_ ts ty #[a.eval x1, a.eval x2, a.eval x3, a.eval x4])))) e.w) := by
  have v1 := chkX_R hI.φ hA hx (gok hI hx)
  have v2 := chkX_R hI.φ hA hx2 (gok hI hx2)
  have v3 := chkX_R hI.φ hA hx3 (gok hI hx3)
  have v4 := chkX_R hI.φ hA hx4 (gok hI hx4)
  simp only [step] at hp ⊢
  split at hp
  · rename_i k i k1 j k2 l k3 m hy1 hy2 hy3 hy4
    rw [hy1] at v1
    rw [hy2] at v2
    rw [hy3] at v3
    rw [hy4] at v4
    obtain ⟨rfl, rfl, rfl⟩ : k = k1 ∧ k = k2 ∧ k = k3 := hp
    rw [RV_int v1, RV_int v2, RV_int v3, RV_int v4]
    refine good_pure hI (x := .int k (mm2 max (mm2 max (mm2 max i j) l) m)) (run_v ?_) rfl (RV_mkint _ _)
    cases max <;> simp [Builtin.min_, Builtin.max_, Builtin.min2, Builtin.max2, mm2]
  · exact hp.elim

theorem caps_R {M : Seat} {e : Env} {A : List V} {a : Act} (hφ : e.φ = M.φ) (hA : FR e A a.tmps) : ∀ (xs : List Operand) (ys : List X) (front : List Value), (xs.length = ys.length ∧ ∀ q ∈ xs.zip ys, chkX M q.1 q.2 = true ∧ GOK M e q.2) → vcapsOK A ys →
    R e (vcaps A ys front.length) (front ++ xs.map a.eval) ∧ (∀ x ∈ xs.map a.eval, x.oneCell' = true)
  | [], [], front, _, _ => ⟨trivial, by simp⟩
  | x :: xs, y :: ys, front, hc, hok => by
    simp only [vcapsOK] at hok
    obtain ⟨⟨h1, h2⟩, hok'⟩ := hok
    obtain ⟨hx, hg⟩ := hc.2 (x, y) (by simp)
    have hv := chkX_R hφ hA hx hg
    rw [RV_solid h1] at hv
    unfold RS at hv
    rw [h2] at hv
    simp only at hv
    have h1c := R_one h1 hv
    have hsz : (y.ev A).size = 1 := by
      have := R_len h1 hv
      simpa using this.symm
    obtain ⟨r1, r2⟩ := caps_R hφ hA xs ys (front ++ [a.eval x]) ⟨by simpa using hc.1, fun q hq => hc.2 q (by simp [hq])⟩ hok'
    simp only [List.length_append, List.length_cons, List.length_nil, Nat.zero_add, List.append_assoc, List.singleton_append] at r1
    refine ⟨?_, fun v hv' => ?_⟩
    · simp only [vcaps, R, List.map_cons]
      have hch : (vcaps A ys (front.length + 1)).chain = true := by cases ys <;> rfl
      refine ⟨hch, ?_, ?_, ?_, r1⟩
      · rw [hsz]
        cases ys with
        | nil => simp [vcaps, V.flo]
        | cons y' ys' => simp [vcaps, V.flo]
      · rw [hsz]; simp
      · rw [hsz]; simpa using hv
    · simp only [List.map_cons, List.mem_cons] at hv'
      rcases hv' with rfl | hv'
      · exact h1c _ (by simp)
      · exact r2 v hv'
  | [], _ :: _, _, hc, _ => by simp at hc
  | _ :: _, [], _, hc, _ => by simp at hc

theorem good_mkfn {M : Seat} {c : Ctx} {e : Env} {H : Hp} {A : List V} {a : Act} (hI : Inv M c e H) (hA : FR e A a.tmps) {n : Nat} {f : Nat} {xs : Array Operand} {ys : List X}
    (hlt : f < 1000000) (hc : xs.size = ys.length ∧ ∀ q ∈ xs.toList.zip ys, chkX M q.1 q.2 = true) (hp : (step A H n (.mkfn f ys)).pre) :
    Good M c e n (step A H n (.mkfn f ys)) (Sem.run M.P (do pure (Next.value (← Instr.makeFunc (.func (M.φ f)) ((#[] : Array Operand).map a.eval) (xs.map a.eval)))) e.w) := by
  simp only [step] at hp ⊢
  obtain ⟨r1, r2⟩ := caps_R hI.φ hA xs.toList ys [] ⟨by simpa using hc.1, fun q hq => ⟨hc.2 q hq, gok hI (hc.2 q hq)⟩⟩ hp
  refine good_pure hI (x := .func (.func (M.φ f)) #[] (xs.map a.eval)) (run_v (by simp [Instr.makeFunc])) rfl ?_
  simp only [RV, RS, V.isAgg, R]
  refine ⟨xs.toList.map a.eval, by rw [hI.φ, fnV, if_pos hlt]; congr 2; apply Array.ext'; simp, by simp [hc.1], ⟨by cases ys <;> rfl, r2⟩, by simpa using r1⟩

/-- A type has this method itself, and it takes a pointer. -/
def chkMth (M : Seat) (t k : Nat) : Bool :=
  match M.P.info? (M.τ t) with
  | some i => (match i.methods.find? (·.name == mname k) with
    | some m => m.path.isEmpty && (match m.func with | some (_, true) => true | _ => false)
    | none => false)
  | none => false

theorem run_nilAhead {P : Program} {t : TypeId} {nm : String} {i : TypeInfo} {m : Method} {f : FuncId} (hi : P.info? t = some i) (hm : i.methods.find? (·.name == nm) = some m) (hp : m.path = #[]) (hf : m.func = some (f, true)) (v : Value) (w : World) (d : Nat) :
    (nilAhead (d + 1) t v nm).run P w = .ok (some false) w := by
  simp only [nilAhead, typeInfo, Sem.run_bind, hi, hm, hp, hf, followBlind, Sem.run_pure, Result.andThen_ok]
  simp [hi, hm, hp, hf, followBlind]

theorem good_mkmth {M : Seat} {c : Ctx} {e : Env} {H : Hp} {A : List V} {a : Act} (hI : Inv M c e H) (hA : FR e A a.tmps) {n : Nat} {k : Nat} {nm : String} {first xs : Array Operand} {x : Operand} {y : X}
    (hk : mname k = nm) (hf : first = #[x]) (hxs : xs = #[]) (hx : chkX M x y = true) (hg : GOK M e y) (hp : (step A H n (.mkmth k y)).pre) :
    Good M c e n (step A H n (.mkmth k y)) (Sem.run M.P (do pure (Next.value (← Instr.makeFunc (.method nm) (first.map a.eval) (xs.map a.eval)))) e.w) := by
  subst hf hxs hk
  have hv := chkX_R hI.φ hA hx hg
  simp only [step] at hp ⊢
  split at hp
  case h_2 => exact hp.elim
  rename_i t v hy
  rw [hy] at hv
  refine good_pure hI (x := .func (.method (mname k)) #[a.eval x] #[]) (run_v (by simp [Instr.makeFunc])) rfl ?_
  simp only [RV, RS, V.isAgg] at hv ⊢
  have hl := R_len (v := .ifc t v) rfl hv
  have ho := R_one (v := .ifc t v) rfl hv
  refine R.eq_def .. ▸ ⟨[a.eval x], ?_, ?_⟩
  · rw [fnV, if_neg (by omega), show 1000000 + k - 1000000 = k by omega]
  · refine R.eq_def .. ▸ ⟨rfl, ⟨rfl, fun z hz => ho z hz⟩, ?_⟩
    refine R.eq_def .. ▸ ⟨rfl, by simp [V.size, V.flo], by simp [V.size], by simpa [V.size] using hv, trivial⟩

theorem good_nilm {M : Seat} {c : Ctx} {e : Env} {H : Hp} {A : List V} {a : Act} (hI : Inv M c e H) (hA : FR e A a.tmps) {n : Nat} {o : Oper} {k : Nat} {ts : List Nat} {x : Operand} {y : X} (ho : o.op = .nilCheck x)
    (hx : chkX M x y = true) (hg : GOK M e y) (hts : ts.all (fun t => chkMth M t k) = true) (hp : (step A H n (.nilm k ts y)).pre) :
    Good M c e n (step A H n (.nilm k ts y)) (Sem.run M.P (execOp a.eval o) e.w) := by
  have hv := chkX_R hI.φ hA hx hg
  simp only [execOp, ho]
  simp only [step] at hp ⊢
  split at hp
  case h_2 => exact hp.elim
  rename_i f m j t v r hy
  rw [hy] at hv
  obtain ⟨rfl, hmem, rfl, rfl⟩ := hp
  refine good_pure hI (x := a.eval x) ?_ rfl hv
  simp only [RV, RS, V.isAgg, R, List.cons.injEq, and_true] at hv
  obtain ⟨xs, hx', hlen, _, _, _, _, ⟨z, hz, _⟩, _⟩ := hv
  have hc := List.all_eq_true.1 hts t hmem
  unfold chkMth at hc
  split at hc
  case h_2 => cases hc
  rename_i i hi
  split at hc
  case h_2 => cases hc
  rename_i mr hmr
  simp only [Bool.and_eq_true, Array.isEmpty_iff] at hc
  obtain ⟨hpath, hc⟩ := hc
  split at hc
  case h_2 => cases hc
  rename_i g hfn
  have hxs : xs = [.iface (M.τ t) z] := by
    match xs, hlen with
    | [q], _ =>
      have : [q] = [Value.iface (e.τ t) z] := by simpa [V.size] using hz
      rw [this, hI.τ]
  rw [hx', fnV, if_neg (by omega), hxs, show 1000000 + k - 1000000 = k by omega]
  have hn := run_nilAhead hi hmr hpath hfn z e.w (M.P.types.size + Made.depth - 1)
  have hd : M.P.types.size + Made.depth - 1 + 1 = M.P.types.size + Made.depth := by
    have : 0 < Made.depth := by decide
    omega
  rw [hd] at hn
  simp [Sem.run_bind, hn]

def chkZ (M : Seat) (t : TypeId) (z : Z) : Bool := match (M.P.info? t).bind (·.zero) with | some x => z.chk x | none => false
def chkArr (M : Seat) (t : TypeId) (m sz : Nat) : Bool := match M.P.underlying t with | some (.array m' el) => m == m' && tsz M el == some sz | _ => false
def chkSl (M : Seat) (t : TypeId) (sz : Nat) : Bool := match M.P.underlying t with | some (.slice el) => tsz M el == some sz | _ => false
def chkConvT (M : Seat) (s d : TypeId) (k : IntKind) : Bool := match M.P.underlying d, M.P.underlying s with | some (.int k'), some _ => decide (k = k') | _, _ => false
def chkBuildT (M : Seat) (t : TypeId) (parts : Array (Nat × Operand)) (ps : List (Stp × Nat × X)) : Bool :=
  match M.P.underlying t with
  | some (.struct fs) => (match sfs M fs.toList with | some pl => chkParts M (fun i => pl[i]?) parts.toList ps | none => false)
  | some (.array _ el) => (match tsz M el with | some sz => chkParts M (fun i => some (i * sz, sz)) parts.toList ps | none => false)
  | _ => false
def chkBslT (M : Seat) (t : TypeId) (z : Z) (parts : Array (Nat × Operand)) (ps : List (Stp × Nat × X)) : Bool :=
  match M.P.underlying t with
  | some (.slice el) => chkZ M el z && tsz M el == some z.sz && chkParts M (fun i => some (i * z.sz, z.sz)) parts.toList ps
  | _ => false
def chkFadrT (M : Seat) (s : TypeId) (i off : Nat) : Bool :=
  match M.P.underlying s with
  | some (.struct fs) => (match fs[i]? with | some f => f.offset == off && (match tsz M f.type with | some sz => sz != 0 | none => false) | none => false)
  | _ => false
def chkFldT (M : Seat) (s : TypeId) (i off sz : Nat) (agg : Bool) : Bool :=
  match M.P.underlying s with
  | some (.struct fs) => (match fs[i]? with | some f => f.offset == off && tsz M f.type == some sz && tagg M f.type == some agg | none => false)
  | _ => false
def chkIdxT (M : Seat) (t : TypeId) (m sz : Nat) (agg : Bool) : Bool := match M.P.underlying t with | some (.array m' el) => m == m' && tsz M el == some sz && tagg M el == some agg | _ => false
def chkIfT (M : Seat) (t : TypeId) : Bool := match M.P.underlying t with | some (.interface _) | none => false | _ => true
def chkLenT (M : Seat) (ts : Array TypeId) (k : Nat) : Bool := match ts[0]? with | some t => (match M.P.underlying t with | some d => lenKind k d | none => false) | none => false
def chkAppT (M : Seat) (sT xT : TypeId) (sz bytes : Nat) : Bool :=
  match M.P.underlying sT, M.P.underlying xT with
  | some (.slice el), some (.slice _) => (match M.P.info? el with | some i => i.size == sz && i.bytes == bytes && decide (0 < bytes) && (match i.zero with | some z => z.cells.size == sz | none => false) | none => false)
  | _, _ => false
def chkCopyT (M : Seat) (ts : Array TypeId) (sz : Nat) : Bool := match ts[0]? with | some sT => chkSl M sT sz | none => false
def chkMkslT (M : Seat) (t : TypeId) (sz bytes : Nat) (z : Z) : Bool :=
  match M.P.underlying t with
  | some (.slice el) => (match M.P.info? el with | some i => i.size == z.sz && i.bytes == bytes && sz == z.sz && decide (0 < z.sz) && (match i.zero with | some x => z.chk x | none => false) | none => false)
  | _ => false

def isB (b : Builtin) : Callee → Bool
  | .builtin b' => decide (b = b')
  | _ => false

def chkX2 (M : Seat) (xs : Array Operand) (y1 y2 : X) : Bool :=
  match xs.toList with
  | [x1, x2] => chkX M x1 y1 && chkX M x2 y2
  | _ => false

def chkX4 (M : Seat) (xs : Array Operand) (y1 y2 y3 y4 : X) : Bool :=
  match xs.toList with
  | [x1, x2, x3, x4] => chkX M x1 y1 && chkX M x2 y2 && chkX M x3 y3 && chkX M x4 y4
  | _ => false
def chkX3 (M : Seat) (xs : Array Operand) (y1 y2 y3 : X) : Bool :=
  match xs.toList with
  | [x1, x2, x3] => chkX M x1 y1 && chkX M x2 y2 && chkX M x3 y3
  | _ => false

/-- The check. -/
def chkMapK (M : Seat) (t : TypeId) (s : ES) : Bool := keyES s && (match M.P.underlying t with | some (.map kt _) => chkES M s kt [] | _ => false)
def chkMapT (M : Seat) (t : TypeId) (s : ES) (z : Z) : Bool := keyES s && (match M.P.underlying t with
  | some (.map kt vt) => chkES M s kt [] && (match (M.P.info? vt).bind (·.zero) with | some x => z.chk x && aggX x == (z.v 0).isAgg | none => false)
  | _ => false)
def chkOp (M : Seat) (op : Op) (lo : LO) : Bool :=
  match lo with
  | .mv y => (match op with | .move x => chkX M x y | .assign x => chkX M x y | _ => false)
  | .pick y1 y2 y3 => (match op with | .pick x1 x2 x3 => chkX M x1 y1 && chkX M x2 y2 && chkX M x3 y3 | _ => false)
  | .ari op' y1 y2 => (match op with | .binOp op _ x1 x2 _ => decide (op = op') && chkX M x1 y1 && chkX M x2 y2 | _ => false)
  | .eq neg c s y1 y2 => (match op with | .binOp op t x1 x2 _ => decide (op = if neg then .neq else .eql) && chkEq M c s t x1 x2 && (topES s || isStrES s) && chkX M x1 y1 && chkX M x2 y2 | _ => false)
  | .un op' y1 => (match op with | .unOp op _ x1 => decide (op = op') && chkX M x1 y1 | _ => false)
  | .conv k y1 => (match op with | .convert s d x1 => chkConvT M s d k && chkX M x1 y1 | _ => false)
  | .alloc z => (match op with | .alloc t => chkZ M t z | _ => false)
  | .box y1 => (match op with | .box _ x1 => chkX M x1 y1 | _ => false)
  | .build z ps => (match op with | .build t parts => chkZ M t z && (z.v 0).isAgg && ps.all (fun q => noR [q.1]) && chkBuildT M t parts ps | _ => false)
  | .bsl sz m' z ps => (match op with | .buildSlice t m parts => m == m' && ps.all (fun q => noR [q.1]) && sz == z.sz && decide (0 < z.sz) && decide (m * z.sz ≤ 2 ^ 24) && chkBslT M t z parts ps | _ => false)
  | .load agg sz y1 => (match op with | .load t x1 => tsz M t == some sz && tagg M t == some agg && chkX M x1 y1 | _ => false)
  | .store sz y1 y2 => (match op with | .store t x1 x2 => tsz M t == some sz && chkX M x1 y1 && chkX M x2 y2 | _ => false)
  | .nilc y1 => (match op with | .nilCheck x1 => chkX M x1 y1 | _ => false)
  | .fadr off y1 => (match op with | .fieldAddr s x1 i => chkFadrT M s i off && chkX M x1 y1 | _ => false)
  | .iarr m sz y1 y2 => (match op with | .indexAddr t x1 x2 => chkArr M t m sz && chkX M x1 y1 && chkX M x2 y2 | _ => false)
  | .isl sz y1 y2 => (match op with | .indexAddr t x1 x2 => chkSl M t sz && chkX M x1 y1 && chkX M x2 y2 | _ => false)
  | .idx m sz agg y1 y2 => (match op with | .index t x1 x2 => chkIdxT M t m sz agg && chkX M x1 y1 && chkX M x2 y2 | _ => false)
  | .fld off sz agg y1 => (match op with | .field t x1 i => chkFldT M t i off sz agg && chkX M x1 y1 | _ => false)
  | .slarr m sz y1 lo' hi' => (match op with | .slice t x1 lo hi mx => mx.isNone && chkArr M t m sz && chkX M x1 y1 && chkO M lo lo' && chkO M hi hi' | _ => false)
  | .slsl sz y1 lo' hi' => (match op with | .slice t x1 lo hi mx => mx.isNone && chkSl M t sz && chkX M x1 y1 && chkO M lo lo' && chkO M hi hi' | _ => false)
  | .s2a m sz y1 => (match op with | .sliceToArrayPointer t x1 => chkArr M t m sz && chkX M x1 y1 | _ => false)
  | .mkif t' y1 => (match op with | .makeInterface t x1 => M.τ t' == t && chkIfT M t && chkX M x1 y1 | _ => false)
  | .ext y1 i' => (match op with | .extract x1 i => i == i' && chkX M x1 y1 | _ => false)
  | .len k y1 => (match op with | .call c => isB .len c.callee && chkLenT M c.argTypes k && (match c.args.toList with | [x1] => chkX M x1 y1 | _ => false) | _ => false)
  | .app sz bytes y1 y2 => (match op with | .call c => isB .append c.callee && (match c.argTypes.toList with | [sT, xT] => chkAppT M sT xT sz bytes | _ => false) && chkX2 M c.args y1 y2 | _ => false)
  | .copy sz y1 y2 => (match op with | .call c => isB .copy c.callee && chkCopyT M c.argTypes sz && chkX2 M c.args y1 y2 | _ => false)
  | .mm max y1 y2 => (match op with | .call c => isB (if max then .max else .min) c.callee && chkX2 M c.args y1 y2 | _ => false)
  | .mksl sz bytes z y1 y2 => (match op with | .makeSlice t x1 x2 => chkMkslT M t sz bytes z && chkX M x1 y1 && chkX M x2 y2 | _ => false)
  | .mkfn f' ys => (match op with | .makeFunc (.func f) first xs => M.φ f' == f && decide (f' < 1000000) && first.isEmpty && xs.size == ys.length && (xs.toList.zip ys).all (fun q => chkX M q.1 q.2) | _ => false)
  | .mkmap _ _ => (match op with | .makeMap _ r => r.isNone | _ => false)
  | .mlook s z ok y1 y2 => (match op with | .lookup t x1 x2 ok' => ok' == ok && chkMapT M t s z && chkX M x1 y1 && chkX M x2 y2 | _ => false)
  | .mupd s y1 y2 y3 => (match op with | .mapUpdate t x1 x2 x3 => chkMapK M t s && chkX M x1 y1 && chkX M x2 y2 && chkX M x3 y3 | _ => false)
  | .sidx y1 y2 => (match op with | .index t x1 x2 => chkStr M t && chkX M x1 y1 && chkX M x2 y2 | _ => false)
  | .add64 y1 y2 y3 => (match op with | .call c => chkAdd64 M c.callee && chkX3 M c.args y1 y2 y3 | _ => false)
  | .mkmth k y => (match op with | .makeFunc (.method nm) first xs => mname k == nm && xs.isEmpty && (match first.toList with | [x] => chkX M x y | _ => false) | _ => false)
  | .nilm k ts y => (match op with | .nilCheck x => chkX M x y && ts.all (fun t => chkMth M t k) | _ => false)
  | .mclone y => (match op with | .call c => chkMclone M c.callee && (match c.args.toList with | [x] => chkX M x y | _ => false) | _ => false)
  | .tas t y => (match op with | .typeAssert x _ a ok => !ok && M.τ t == a && chkIfT M a && chkX M x y | _ => false)
  | .b2s y => (match op with | .convert s d x1 => chkB2s M s d && chkX M x1 y | _ => false)
  | .mm4 max y1 y2 y3 y4 => (match op with | .call c => isB (if max then .max else .min) c.callee && chkX4 M c.args y1 y2 y3 y4 | _ => false)
  | .nope => true

theorem run_builtin {M : Seat} {ρ : Operand → Value} {b : Builtin} {k : Call} {ty : TypeId} {w : World} (hb : k.callee = .builtin b) :
    Sem.run M.P (do let d ← resolve ρ k ty; invoke d.target d.args) w = (builtin b k.argTypes ty (k.args.map fun | .const _ => true | _ => false) (k.args.map ρ)).run M.P w := by
  unfold resolve
  simp only [hb]
  rfl

theorem isB_eq {b : Builtin} {k : Callee} (h : isB b k = true) : k = .builtin b := by
  cases k <;> simp_all [isB]

theorem x2_eq {M : Seat} {xs : Array Operand} {y1 y2 : X} (h : chkX2 M xs y1 y2 = true) : ∃ x1 x2, xs = #[x1, x2] ∧ chkX M x1 y1 = true ∧ chkX M x2 y2 = true := by
  unfold chkX2 at h
  split at h
  · rename_i x1 x2 hx
    simp only [Bool.and_eq_true] at h
    exact ⟨x1, x2, by apply Array.ext'; simpa using hx, h.1, h.2⟩
  · cases h

theorem goko {M : Seat} {c : Ctx} {e : Env} {H : Hp} (hI : Inv M c e H) {x : Option Operand} {y : Option X} (h : chkO M x y = true) : GOKo M e y := by
  cases x <;> cases y <;> first | trivial | (cases h; done) | exact gok hI h

section
variable {M : Seat} {c : Ctx} {e : Env} {H : Hp} {A : List V} {a : Act} (hI : Inv M c e H) (hA : FR e A a.tmps) {n : Nat}
include hI hA

theorem snd_len {k : Call} {ty : TypeId} {kk : Nat} {y1 : X} (hb : isB .len k.callee = true) (h0 : chkLenT M k.argTypes kk = true) (h1 : (match k.args.toList with | [x1] => chkX M x1 y1 | _ => false) = true) (hp : (step A H n (.len kk y1)).pre) :
    Good M c e n (step A H n (.len kk y1)) (Sem.run M.P (do let d ← resolve a.eval k ty; invoke d.target d.args) e.w) := by
  unfold chkLenT at h0
  split at h0
  case h_2 => cases h0
  rename_i t hts
  split at h0
  case h_2 => cases h0
  rename_i d ht
  split at h1
  case h_2 => cases h1
  rename_i x1 hx
  have hx' : k.args = #[x1] := by apply Array.ext'; simpa using hx
  rw [run_builtin (isB_eq hb), hx', show (#[x1] : Array Operand).map a.eval = #[a.eval x1] from by simp]
  exact good_len hI hA ht hts h0 h1 (gok hI h1) hp

theorem snd_app (hn : ¬ e.D n) (hk : c.k ≤ n) {k : Call} {ty : TypeId} {sz bytes : Nat} {y1 y2 : X} (hb : isB .append k.callee = true) (h0 : (match k.argTypes.toList with | [sT, xT] => chkAppT M sT xT sz bytes | _ => false) = true) (h1 : chkX2 M k.args y1 y2 = true) (hp : (step A H n (.app sz bytes y1 y2)).pre) :
    Good M c e n (step A H n (.app sz bytes y1 y2)) (Sem.run M.P (do let d ← resolve a.eval k ty; invoke d.target d.args) e.w) := by
  obtain ⟨x1, x2, hx, h2, h3⟩ := x2_eq h1
  split at h0
  case h_2 => cases h0
  rename_i sT xT hts
  have hts' : k.argTypes = #[sT, xT] := by apply Array.ext'; simpa using hts
  unfold chkAppT at h0
  split at h0
  case h_2 => cases h0
  rename_i el e2 hs hxT
  split at h0
  case h_2 => cases h0
  rename_i i hi
  simp only [Bool.and_eq_true, beq_iff_eq, decide_eq_true_eq] at h0
  obtain ⟨⟨⟨hsz, hby⟩, hbp⟩, h0⟩ := h0
  split at h0
  case h_2 => cases h0
  rename_i z hz
  rw [run_builtin (isB_eq hb), hx, hts', show (#[x1, x2] : Array Operand).map a.eval = #[a.eval x1, a.eval x2] from by simp]
  exact good_app hI hA hn hk hs hxT hi hsz hby hz (by simpa using h0) hbp h2 (gok hI h2) h3 (gok hI h3) hp

theorem snd_copy {k : Call} {ty : TypeId} {sz : Nat} {y1 y2 : X} (hb : isB .copy k.callee = true) (h0 : chkCopyT M k.argTypes sz = true) (h1 : chkX2 M k.args y1 y2 = true) (hp : (step A H n (.copy sz y1 y2)).pre) :
    Good M c e n (step A H n (.copy sz y1 y2)) (Sem.run M.P (do let d ← resolve a.eval k ty; invoke d.target d.args) e.w) := by
  obtain ⟨x1, x2, hx, h2, h3⟩ := x2_eq h1
  unfold chkCopyT chkSl at h0
  split at h0
  case h_2 => cases h0
  rename_i sT hts
  split at h0
  case h_2 => cases h0
  rename_i el hs
  rw [run_builtin (isB_eq hb), hx, show (#[x1, x2] : Array Operand).map a.eval = #[a.eval x1, a.eval x2] from by simp]
  exact good_copy (ty := ty) hI hA hts hs (by simpa using h0) h2 (gok hI h2) h3 (gok hI h3) hp

theorem snd_mm {k : Call} {ty : TypeId} {max : Bool} {y1 y2 : X} (hb : isB (if max then .max else .min) k.callee = true) (h1 : chkX2 M k.args y1 y2 = true) (hp : (step A H n (.mm max y1 y2)).pre) :
    Good M c e n (step A H n (.mm max y1 y2)) (Sem.run M.P (do let d ← resolve a.eval k ty; invoke d.target d.args) e.w) := by
  obtain ⟨x1, x2, hx, h2, h3⟩ := x2_eq h1
  have := good_mm (max := max) (ts := k.argTypes) (ty := ty) hI hA h2 h3 hp
  rw [run_builtin (isB_eq hb), hx, show (#[x1, x2] : Array Operand).map a.eval = #[a.eval x1, a.eval x2] from by simp]
  cases max <;> exact this

theorem snd_mm4 {k : Call} {ty : TypeId} {max : Bool} {y1 y2 y3 y4 : X} (hb : isB (if max then .max else .min) k.callee = true) (h1 : chkX4 M k.args y1 y2 y3 y4 = true) (hp : (step A H n (.mm4 max y1 y2 y3 y4)).pre) :
    Good M c e n (step A H n (.mm4 max y1 y2 y3 y4)) (Sem.run M.P (do let d ← resolve a.eval k ty; invoke d.target d.args) e.w) := by
  unfold chkX4 at h1
  split at h1
  case h_2 => cases h1
  rename_i x1 x2 x3 x4 hxs
  simp only [Bool.and_eq_true] at h1
  have hx : k.args = #[x1, x2, x3, x4] := by apply Array.ext'; simpa using hxs
  have := good_mm4 (max := max) (ts := k.argTypes) (ty := ty) hI hA h1.1.1.1 h1.1.1.2 h1.1.2 h1.2 hp
  rw [run_builtin (isB_eq hb), hx, show (#[x1, x2, x3, x4] : Array Operand).map a.eval = #[a.eval x1, a.eval x2, a.eval x3, a.eval x4] from by simp]
  cases max <;> exact this
theorem snd_mkfn {f : Nat} {first xs : Array Operand} {ys : List X} (hlt : f < 1000000) (h0 : first.isEmpty = true) (h1 : xs.size = ys.length) (h2 : ∀ q ∈ xs.toList.zip ys, chkX M q.1 q.2 = true) (hp : (step A H n (.mkfn f ys)).pre) :
    Good M c e n (step A H n (.mkfn f ys)) (Sem.run M.P (do pure (Next.value (← Instr.makeFunc (.func (M.φ f)) (first.map a.eval) (xs.map a.eval)))) e.w) := by
  have h0' : first = #[] := by simpa using h0
  subst h0'
  exact good_mkfn hI hA hlt ⟨h1, h2⟩ hp
end

theorem step_sound {M : Seat} {c : Ctx} {e : Env} {H : Hp} {A : List V} {a : Act} (hI : Inv M c e H) (hA : FR e A a.tmps) {n : Nat} (hn : ¬ e.D n) (hk : c.k ≤ n) {o : Oper} {lo : LO} (h : chkOp M o.op lo = true) (hp : (step A H n lo).pre) :
    Good M c e n (step A H n lo) (Sem.run M.P (execOp a.eval o) e.w) := by
  obtain ⟨dst, op, type, pos, after, guard⟩ := o
  simp only at h
  have hgk : ∀ (place : Nat → Option (Nat × Nat)) (l : List (Nat × Operand)) (ps : List (Stp × Nat × X)), chkParts M place l ps = true → GOKps M e ps := by
    intro place l
    induction l with
    | nil => intro ps hps; cases ps with
      | nil => trivial
      | cons q r => simp [chkParts] at hps
    | cons p l ih => intro ps hps; cases ps with
      | nil => trivial
      | cons q r =>
        obtain ⟨i, ox⟩ := p; obtain ⟨s, sz, xx⟩ := q
        simp only [chkParts, Bool.and_eq_true] at hps
        exact ⟨gok hI hps.1.2, ih r hps.2⟩
  have hzt : ∀ {t : TypeId} {z : Z}, chkZ M t z = true → ∃ x, (M.P.info? t).bind (·.zero) = some x ∧ z.chk x = true := by
    intro t z hz
    unfold chkZ at hz
    split at hz
    · rename_i x hx; exact ⟨x, hx, hz⟩
    · cases hz
  have hat : ∀ {t : TypeId} {m sz : Nat}, chkArr M t m sz = true → ∃ el, M.P.underlying t = some (.array m el) ∧ tsz M el = some sz := by
    intro t m sz hz
    unfold chkArr at hz
    split at hz
    · rename_i m' el hx; simp only [Bool.and_eq_true, beq_iff_eq] at hz; obtain ⟨rfl, hz⟩ := hz; exact ⟨el, hx, hz⟩
    · cases hz
  have hst : ∀ {t : TypeId} {sz : Nat}, chkSl M t sz = true → ∃ el, M.P.underlying t = some (.slice el) ∧ tsz M el = some sz := by
    intro t sz hz
    unfold chkSl at hz
    split at hz
    · rename_i el hx; exact ⟨el, hx, by simpa using hz⟩
    · cases hz
  by_cases hany : lo = .nope
  · subst hany; exact (show False from hp).elim
  cases lo <;> (try (exact absurd rfl hany)) <;> simp only [chkOp] at h <;> (try (cases h; done)) <;> split at h <;> (try (cases h; done)) <;> (try simp only [Bool.and_eq_true, beq_iff_eq, decide_eq_true_eq, List.all_eq_true, Option.isNone_iff_eq_none] at h)
  · exact good_mv hI hA h (gok hI h)
  · exact good_mv hI hA h (gok hI h)
  · obtain ⟨⟨h1, h2⟩, h3⟩ := h
    exact good_pick hI hA h1 (gok hI h1) h2 (gok hI h2) h3 (gok hI h3) hp
  · obtain ⟨⟨rfl, h1⟩, h2⟩ := h
    exact good_ari hI hA h1 (gok hI h1) h2 (gok hI h2) hp
  · obtain ⟨⟨⟨⟨rfl, h0⟩, ht⟩, h1⟩, h2⟩ := h
    exact good_eq hI hA h0 (top_of ht) h1 (gok hI h1) h2 (gok hI h2) hp
  · obtain ⟨rfl, h1⟩ := h
    exact good_un hI hA h1 (gok hI h1) hp
  · obtain ⟨h0, h1⟩ := h
    unfold chkConvT at h0
    split at h0
    · rename_i k' ds hd hs
      simp only [decide_eq_true_eq] at h0
      subst h0
      exact good_conv hI hA hd hs h1 (gok hI h1) hp
    · cases h0
  · obtain ⟨x, hz, hc⟩ := hzt h
    exact good_alloc hI hn hk hz hc
  · exact good_box hI hA hn hk h (gok hI h) hp
  · obtain ⟨⟨⟨h0, h1⟩, h2⟩, h3⟩ := h
    obtain ⟨x, hz, hc⟩ := hzt h0
    unfold chkBuildT at h3
    split at h3
    · rename_i fs ht
      split at h3
      · rename_i pl hpl
        exact good_build_st hI hA hz hc h1 ht hpl h3 (hgk _ _ _ h3) h2 hp
      · cases h3
    · rename_i m el ht
      split at h3
      · rename_i sz hsz
        exact good_build_ar hI hA hz hc h1 ht hsz h3 (hgk _ _ _ h3) h2 hp
      · cases h3
    · cases h3
  · obtain ⟨⟨⟨⟨⟨rfl, h2⟩, rfl⟩, h4⟩, h5⟩, h6⟩ := h
    unfold chkBslT at h6
    split at h6
    · rename_i el ht
      simp only [Bool.and_eq_true, beq_iff_eq] at h6
      obtain ⟨⟨h0, hsz⟩, h3⟩ := h6
      obtain ⟨x, hz, hc⟩ := hzt h0
      exact good_bsl hI hA hn hk hz hc h4 ht hsz h5 h3 (hgk _ _ _ h3) h2 hp
    · cases h6
  · obtain ⟨⟨h1, h2⟩, h3⟩ := h
    exact good_load hI hA n h1 h2 h3 (gok hI h3) hp
  · obtain ⟨⟨h1, h2⟩, h3⟩ := h
    exact good_store hI hA n h1 h2 (gok hI h2) h3 (gok hI h3) hp
  · exact good_nilc hI hA rfl h (gok hI h) hp
  · obtain ⟨h0, h1⟩ := h
    unfold chkFadrT at h0
    split at h0
    case h_2 => cases h0
    rename_i fs hs
    split at h0
    case h_2 => cases h0
    rename_i f hf
    simp only [Bool.and_eq_true, beq_iff_eq] at h0
    obtain ⟨rfl, h0⟩ := h0
    split at h0
    case h_2 => cases h0
    rename_i sz hz
    exact good_fadr hI hA hs hf hz (by simpa using h0) h1 (gok hI h1) hp
  · obtain ⟨⟨h0, h1⟩, h2⟩ := h
    obtain ⟨el, ht, hz⟩ := hat h0
    exact good_iarr hI hA ht hz h1 (gok hI h1) h2 (gok hI h2) hp
  · obtain ⟨⟨h0, h1⟩, h2⟩ := h
    obtain ⟨el, ht, hz⟩ := hst h0
    exact good_isl hI hA ht hz h1 (gok hI h1) h2 (gok hI h2) hp
  · obtain ⟨⟨h0, h1⟩, h2⟩ := h
    unfold chkIdxT at h0
    split at h0
    case h_2 => cases h0
    rename_i m' el ht
    simp only [Bool.and_eq_true, beq_iff_eq] at h0
    obtain ⟨⟨rfl, hz⟩, ha⟩ := h0
    exact good_idx hI hA ht hz ha h1 (gok hI h1) h2 (gok hI h2) hp
  · obtain ⟨h0, h1⟩ := h
    unfold chkFldT at h0
    split at h0
    case h_2 => cases h0
    rename_i fs ht
    split at h0
    case h_2 => cases h0
    rename_i f hf
    simp only [Bool.and_eq_true, beq_iff_eq] at h0
    obtain ⟨⟨rfl, hz⟩, ha⟩ := h0
    exact good_fld hI hA ht hf hz ha h1 (gok hI h1) hp
  · obtain ⟨⟨⟨⟨rfl, h0⟩, h1⟩, h2⟩, h3⟩ := h
    obtain ⟨el, ht, hz⟩ := hat h0
    exact good_slarr hI hA ht hz h1 (gok hI h1) h2 (goko hI h2) h3 (goko hI h3) hp
  · obtain ⟨⟨⟨⟨rfl, h0⟩, h1⟩, h2⟩, h3⟩ := h
    obtain ⟨el, ht, hz⟩ := hst h0
    exact good_slsl hI hA ht hz h1 (gok hI h1) h2 (goko hI h2) h3 (goko hI h3) hp
  · obtain ⟨h0, h1⟩ := h
    obtain ⟨el, ht, hz⟩ := hat h0
    exact good_s2a hI hA ht h1 (gok hI h1) hp
  · obtain ⟨⟨rfl, h0⟩, h1⟩ := h
    unfold chkIfT at h0
    split at h0
    · cases h0
    · cases h0
    · rename_i hd1 hd2
      cases hd : M.P.underlying (M.τ _) with
      | none => exact absurd hd hd2
      | some d => exact good_mkif hI hA hd (by cases d <;> first | rfl | exact absurd hd (hd1 _)) h1 (gok hI h1) hp
  · obtain ⟨rfl, h1⟩ := h
    exact good_ext hI hA h1 (gok hI h1) hp
  · exact snd_len hI hA h.1.1 h.1.2 h.2 hp
  · exact snd_app hI hA hn hk h.1.1 h.1.2 h.2 hp
  · exact snd_copy hI hA h.1.1 h.1.2 h.2 hp
  · exact snd_mm hI hA h.1 h.2 hp
  · obtain ⟨⟨h0, h1⟩, h2⟩ := h
    unfold chkMkslT at h0
    split at h0
    case h_2 => cases h0
    rename_i el ht
    split at h0
    case h_2 => cases h0
    rename_i i hi
    simp only [Bool.and_eq_true, beq_iff_eq, decide_eq_true_eq] at h0
    obtain ⟨⟨⟨⟨hsz, hby⟩, rfl⟩, hpos⟩, h0⟩ := h0
    split at h0
    case h_2 => cases h0
    rename_i x hz
    exact good_mksl hI hA hn hk hi hz h0 hpos ht hsz hby h1 (gok hI h1) h2 (gok hI h2) hp
  · obtain ⟨⟨⟨⟨rfl, hlt⟩, h0⟩, h1⟩, h2⟩ := h
    exact snd_mkfn hI hA hlt h0 h1 h2 hp
  · rename_i t r
    cases r <;> simp at h
    exact good_mkmap hI hn hk t _ _
  · obtain ⟨⟨⟨rfl, h0⟩, h1⟩, h2⟩ := h
    unfold chkMapT at h0
    simp only [Bool.and_eq_true] at h0
    obtain ⟨hs, h0⟩ := h0
    split at h0
    case h_2 => cases h0
    rename_i kt vt ht
    simp only [Bool.and_eq_true] at h0
    obtain ⟨hc, h0⟩ := h0
    split at h0
    case h_2 => cases h0
    rename_i x hz
    simp only [Bool.and_eq_true, beq_iff_eq] at h0
    exact good_mlook hI hA ht hs hc hz h0.1 h0.2 h1 (gok hI h1) h2 (gok hI h2) hp
  · obtain ⟨⟨⟨h0, h1⟩, h2⟩, h3⟩ := h
    unfold chkMapK at h0
    simp only [Bool.and_eq_true] at h0
    obtain ⟨hs, h0⟩ := h0
    split at h0
    case h_2 => cases h0
    rename_i kt vt ht
    exact good_mupd hI hA ht hs h0 h1 (gok hI h1) h2 (gok hI h2) h3 (gok hI h3) hp
  · obtain ⟨⟨h0, h1⟩, h2⟩ := h
    exact good_sidx hI hA h0 h1 (gok hI h1) h2 (gok hI h2) hp
  · obtain ⟨h0, h1⟩ := h
    unfold chkX3 at h1
    split at h1
    case h_2 => cases h1
    rename_i kc _ x1 x2 x3 hxs
    simp only [Bool.and_eq_true] at h1
    exact good_add64 hI hA h0 (by apply Array.ext'; simpa using hxs) h1.1.1 (gok hI h1.1.1) h1.1.2 (gok hI h1.1.2) h1.2 (gok hI h1.2) hp
  · obtain ⟨⟨h0, h1⟩, h2⟩ := h
    split at h2
    case h_2 => cases h2
    rename_i x hfs
    have hfs' := Array.ext' (ys := #[x]) hfs
    exact good_mkmth hI hA h0 hfs' (by simpa using h1) h2 (gok hI h2) hp
  · exact good_nilm hI hA rfl h.1 (gok hI h.1) (List.all_eq_true.2 h.2) hp
  · obtain ⟨h0, h1⟩ := h
    split at h1
    case h_2 => cases h1
    rename_i x hxs
    exact good_mclone hI hA hn hk h0 (by apply Array.ext'; simpa using hxs) h1 (gok hI h1) hp
  · obtain ⟨⟨⟨h0, h1⟩, h2⟩, h3⟩ := h
    unfold chkIfT at h2
    rename_i ok
    cases ok <;> simp at h0
    split at h2
    · cases h2
    · cases h2
    · rename_i hd1 hd2
      cases hd : M.P.underlying _ with
      | none => exact absurd hd hd2
      | some d => exact good_tas hI hA h1 hd (fun ms he => hd1 ms (he ▸ hd)) h3 (gok hI h3) hp
  · exact good_b2s hI hA h.1 h.2 (gok hI h.2) hp
  · exact snd_mm4 hI hA h.1 h.2 hp
end Mv
