/- A part. -/
import Derived.Test.YtpcgkiecjakknaaGreatDoorAP
import Derived.Laws.Sem
set_option linter.all false
namespace Mv
open Go

inductive RVr where
  | tmp (t : Nat)
  | cell (a : Nat) (agg : Bool) (sz : Nat)

/-- A function: its code, how many parameters, captured variables, slots; its results. -/
structure LF where
  c : LC
  np : Nat
  nf : Nat
  nt : Nat
  rs : List RVr

def resV (A : List V) (H : Hp) : RVr → V
  | .tmp t => A.getD t .junk
  | .cell a agg sz => (step A H 0 (.load agg sz (.t a))).v

def resP (A : List V) (H : Hp) : RVr → Prop
  | .tmp _ => True
  | .cell a agg sz => (match A.getD a .junk with | .ptr _ _ => True | _ => False) ∧ (step A H 0 (.load agg sz (.t a))).pre

def resPs (A : List V) (H : Hp) : List RVr → Prop
  | [] => True
  | r :: rs => resP A H r ∧ resPs A H rs

def tupV (A : List V) (H : Hp) : List RVr → Nat → V
  | [], _ => .fnil
  | r :: rs, i => match resV A H r with
    | .junk => tupV A H rs (i + 1)
    | v => .fcons i v (tupV A H rs (i + 1))

def tupP (A : List V) (H : Hp) : List RVr → Prop
  | [] => True
  | r :: rs => (match resV A H r with | .junk => True | v => v.solid = true) ∧ tupP A H rs

/-- What a function gives back. -/
def res (A : List V) (H : Hp) (rs : List RVr) : Prop × V :=
  match rs with
  | [r] => (resP A H r, resV A H r)
  | rs => (resPs A H rs ∧ tupP A H rs, .tup (tupV A H rs 0))

def chkR (M : Seat) : ResultVar → RVr → Bool
  | .tmp t, .tmp t' => t == t'
  | .cell a t, .cell a' agg sz => a == a' && tsz M t == some sz && tagg M t == some agg
  | _, _ => false

def chkRs (M : Seat) : List ResultVar → List RVr → Bool
  | [], [] => true
  | r :: rs, s :: ss => chkR M r s && chkRs M rs ss
  | _, _ => false

/-- The function of the seat is this one. -/
def chkF (M : Seat) (f : Nat) (lf : LF) : Bool :=
  match M.P.funcs[M.φ f]? with
  | some fn => (match fn.body with | some c => chkCode M c lf.c | none => false) && fn.ntmps == lf.nt && chkRs M fn.results.toList lf.rs
  | none => false

def frame0 (us : List V) (nt : Nat) : List V := us ++ List.replicate (nt - us.length) .junk

/-- What the body comes to. -/
def RetK (M : Seat) (x : Ctx) (rs : List RVr) (Q : V → Hp → Nat → Prop) (A : List V) (H : Hp) (N : Nat) : Prop :=
  ∃ A' H' N', Weak M x A H N A' H' N' ∧ (res A' H' rs).1 ∧ Q (res A' H' rs).2 H' N'

theorem RetK.now {M : Seat} {x : Ctx} {rs : List RVr} {Q : V → Hp → Nat → Prop} {A : List V} {H : Hp} {N : Nat} (h : (res A H rs).1 ∧ Q (res A H rs).2 H N) : RetK M x rs Q A H N :=
  ⟨A, H, N, Weak.refl, h⟩

def resF (tmps : Array Value) : ResultVar → Sem Value
  | .tmp t => pure (tmps.getD t undef)
  | .cell a' t => do loadVar t (← asAddr (tmps.getD a' undef))

theorem res_one {M : Seat} {c : Ctx} {e : Env} {H : Hp} {A : List V} {a : Act} (hI : Inv M c e H) (hA : FR e A a.tmps) {r : ResultVar} {s : RVr} (hc : chkR M r s = true) (hp : resP A H s) :
    ∃ v, Sem.run M.P (resF a.tmps r) e.w = .ok v e.w ∧ RV e (resV A H s) v := by
  cases r <;> cases s <;> simp only [chkR, Bool.false_eq_true] at hc
  case tmp.tmp t t' =>
    simp only [beq_iff_eq] at hc
    subst hc
    exact ⟨_, rfl, hA.val t⟩
  case cell.cell a' t a'' agg sz =>
    simp only [Bool.and_eq_true, beq_iff_eq] at hc
    obtain ⟨⟨rfl, hs⟩, ha⟩ := hc
    obtain ⟨hptr, hp⟩ := hp
    have hv := hA.val a'
    simp only [resV]
    simp only [step, X.ev] at hp ⊢
    split at hptr
    case h_2 => exact hptr.elim
    rename_i id p hy
    rw [hy] at hv
    simp only [hy] at hp ⊢
    obtain ⟨⟨h1, h2, h3⟩, h4, h5, h6⟩ := hp
    obtain ⟨cells, el, hcc, hsz, hR⟩ := hI.cells h1 h2
    have hlen : (cells.toList.take (hget H id).size).length = (hget H id).size := by simp; omega
    obtain ⟨g1, g2⟩ := R_get hR hlen h3
    rw [hlen] at g1
    have g3 : R e ((hget H id).get p) ((cells.toList.drop (offOf p)).take sz) := by
      rw [List.drop_take, List.take_take, Nat.min_eq_left (by omega), h5] at g2
      exact g2
    have hle : offOf p + sz ≤ cells.size := by omega
    obtain ⟨k1, k2⟩ := RV_loaded (o := offOf p) h4 h5 h6 hle g3
    simp only [RV, RS, V.isAgg, R, List.cons.injEq, and_true] at hv
    refine ⟨_, ?_, k2⟩
    have := run_loadVar hs ha hcc hle k1
    simp only [resF]
    rw [hv.2]
    simpa [Instr.loadAt, Instr.sureAddr, asAddr] using this

theorem res_all {M : Seat} {c : Ctx} {e : Env} {H : Hp} {A : List V} {a : Act} (hI : Inv M c e H) (hA : FR e A a.tmps) : ∀ (rs : List ResultVar) (ss : List RVr), chkRs M rs ss = true → resPs A H ss →
    ∃ vs : List Value, Sem.run M.P (rs.mapM (resF a.tmps)) e.w = .ok vs e.w ∧ vs.length = ss.length ∧ ∀ i (h : i < ss.length), RV e (resV A H ss[i]) (vs.getD i undef)
  | [], [], _, _ => ⟨[], by simp, rfl, fun i h => by simp at h⟩
  | r :: rs, s :: ss, hc, hp => by
    simp only [chkRs, Bool.and_eq_true] at hc
    simp only [resPs] at hp
    obtain ⟨v, h1, h2⟩ := res_one hI hA hc.1 hp.1
    obtain ⟨vs, h3, h4, h5⟩ := res_all hI hA rs ss hc.2 hp.2
    refine ⟨v :: vs, ?_, by simp [h4], fun i hi => ?_⟩
    · rw [List.mapM_cons, Sem.run_bind, h1]
      simp only [Result.andThen_ok]
      rw [Sem.run_bind, h3]
      rfl
    · cases i with
      | zero => simpa using h2
      | succ i => simpa using h5 i (by simpa using hi)
  | [], _ :: _, hc, _ => by simp [chkRs] at hc
  | _ :: _, [], hc, _ => by simp [chkRs] at hc

theorem tup_R {e : Env} {A : List V} {H : Hp} : ∀ (ss : List RVr) (k : Nat) (xs : Array Value), tupP A H ss → (∀ i (h : i < ss.length), ∃ y, xs[k + i]? = some y ∧ RV e (resV A H ss[i]) y) → RT e (tupV A H ss k) xs
  | [], _, _, _, _ => trivial
  | s :: ss, k, xs, hp, h => by
    simp only [tupP] at hp
    have hrest := tup_R ss (k + 1) xs hp.2 (fun i hi => by
      have := h (i + 1) (by simpa using hi)
      have e1 : k + (i + 1) = k + 1 + i := by omega
      rw [e1] at this
      simpa using this)
    obtain ⟨y, h1, h2⟩ := h 0 (by simp)
    simp only [List.getElem_cons_zero, Nat.add_zero] at h1 h2
    have h3 := hp.1
    unfold tupV
    cases hv : resV A H s with
    | junk => exact hrest
    | _ =>
      rw [hv] at h2 h3
      exact ⟨⟨h3, y, h1, (RV_solid h3).1 h2⟩, hrest⟩

theorem results_run {M : Seat} {c : Ctx} {e : Env} {H : Hp} {A : List V} {a : Act} (hI : Inv M c e H) (hA : FR e A a.tmps) {fn : Func} {ss : List RVr} (hc : chkRs M fn.results.toList ss = true) (hp : (res A H ss).1) :
    ∃ v, (results fn a.tmps).run M.P e.w = .ok v e.w ∧ RV e (res A H ss).2 v := by
  have hps : resPs A H ss := by
    unfold res at hp
    split at hp
    · exact ⟨hp, trivial⟩
    · exact hp.1
  obtain ⟨vs, h1, h2, h3⟩ := res_all hI hA _ _ hc hps
  have hres : results fn a.tmps = (do let vs ← fn.results.mapM (resF a.tmps); pure (if h : vs.size = 1 then vs[0] else .tuple vs)) := by
    unfold results
    congr 1
    try (congr 1; funext r; cases r <;> rfl)
  rw [hres, Array.mapM_eq_mapM_toList]
  simp only [map_eq_pure_bind, bind_assoc, pure_bind]
  rw [Sem.run_bind, h1]
  simp only [Result.andThen_ok, Sem.run_pure]
  refine ⟨_, rfl, ?_⟩
  unfold res
  split
  · rename_i s
    have hl : vs.length = 1 := h2
    rw [dif_pos (by simpa using hl)]
    have := h3 0 (by simp)
    simp only [List.getElem_cons_zero] at this
    have e1 : vs.getD 0 undef = vs[0]'(by omega) := by simp [List.getD, hl]
    rw [e1] at this
    simpa using this
  · rename_i hne
    have hl : vs.length ≠ 1 := by
      rw [h2]
      intro hl
      match ss, hl, hne with
      | [s], _, hne => exact hne s rfl
    rw [dif_neg (by simpa using hl)]
    refine ⟨_, rfl, tup_R ss 0 _ ?_ (fun i hi => ?_)⟩
    · unfold res at hp
      split at hp
      · rename_i s; exact absurd rfl (hne s)
      · exact hp.2
    · have := h3 i hi
      have hi' : i < vs.length := by omega
      refine ⟨vs[i], by simp [hi'], ?_⟩
      simpa [List.getD, hi'] using this

theorem frame0_FR {e : Env} {us : List V} {vs : Array Value} (h : Args e us vs) (nt : Nat) : FR e (frame0 us nt) (vs ++ Array.replicate (nt - vs.size) undef) := by
  obtain ⟨h1, h2⟩ := h
  refine ⟨by simp [frame0, h1], fun t => ?_⟩
  unfold frame0
  by_cases ht : t < us.length
  · have e1 : (us ++ List.replicate (nt - us.length) V.junk).getD t .junk = us.getD t .junk := by
      simp only [List.getD, List.getElem?_append, ht, if_true]
    have e2 : (vs ++ Array.replicate (nt - vs.size) undef).getD t undef = vs.getD t undef := by
      have : t < vs.size := by omega
      simp [Array.getElem?_append, this]
    rw [e1, e2]; exact h2 t
  · have e1 : (us ++ List.replicate (nt - us.length) V.junk).getD t .junk = .junk := by
      simp only [List.getD, List.getElem?_append, ht, if_false, List.getElem?_replicate]
      split <;> rfl
    rw [e1]; trivial

/-- The same, the value and the blocks in other numbers. -/
def RetS (M : Seat) (x : Ctx) (rs : List RVr) (Q : V → Hp → Nat → Prop) (A : List V) (H : Hp) (N : Nat) : Prop :=
  ∃ (m z : List Nat) (v : V) (H' : Hp) (N' : Nat), (decide m.Nodup && z.all (fun i => !m.contains i) && decide (m.length ≤ N') && decide (x.k ≤ N') && (List.range x.k).all (fun j => m[j]? == some j)) = true ∧
    (res A H rs).1 ∧ SimV H m z v (res A H rs).2 ∧ SimH H m z H' ∧ Q v H' N'

theorem RetS.mk {M : Seat} {x : Ctx} {rs : List RVr} {Q : V → Hp → Nat → Prop} {A : List V} {H : Hp} {N : Nat} {k : Nat} (hx : x.k = k) (m z : List Nat) (v : V) (H' : Hp) (N' : Nat)
    (hm : (decide m.Nodup && z.all (fun i => !m.contains i) && decide (m.length ≤ N') && decide (k ≤ N') && (List.range k).all (fun j => m[j]? == some j)) = true) (h1 : (res A H rs).1) (h2 : SimV H m z v (res A H rs).2) (h3 : SimH H m z H') (h4 : Q v H' N') : RetS M x rs Q A H N :=
  ⟨m, z, v, H', N', by rw [hx]; exact hm, h1, h2, h3, h4⟩

/-- A body: walked, it gives the contract. -/
theorem runs_body {M : Seat} {f : Nat} {lf : LF} {us : List V} {H : Hp} {k : Nat} {Q : V → Hp → Nat → Prop} (hf : chkF M f lf = true)
    (h : ∀ x : Ctx, x.k = k → SemK M x (fun A' H' N' => RetS M x lf.rs Q A' H' N') [.code lf.c] k (frame0 us lf.nt) H) : Runs M f us H k Q := by
  intro e vs hI hD hargs
  unfold chkF at hf
  split at hf
  case h_2 => cases hf
  rename_i fn hfn
  simp only [Bool.and_eq_true, beq_iff_eq] at hf
  obtain ⟨⟨hb, hnt⟩, hrs⟩ := hf
  split at hb
  case h_2 => cases hb
  rename_i C hC
  refine calls_of_wp hfn hC ?_
  rw [hnt]
  have hsat : Sat M ⟨e, fun b => ∃ id, hhas H id = true ∧ e.ρ id = b, k⟩ (frame0 us lf.nt) H k { tmps := vs ++ Array.replicate (lf.nt - vs.size) undef, defers := [] } e.w :=
    ⟨e, rfl, hI, frame0_FR hargs lf.nt, hD, Nat.le_refl k, rfl⟩
  have := h ⟨e, fun b => ∃ id, hhas H id = true ∧ e.ρ id = b, k⟩ rfl _ _ [.code C] hsat ⟨hb, trivial⟩
  have h2 : C.wp M.P (Post M ⟨e, fun b => ∃ id, hhas H id = true ∧ e.ρ id = b, k⟩ (fun A' H' N' => RetS M ⟨e, fun b => ∃ id, hhas H id = true ∧ e.ρ id = b, k⟩ lf.rs Q A' H' N') []) { tmps := vs ++ Array.replicate (lf.nt - vs.size) undef, defers := [] } e.w := this
  refine Code.wp_mono (fun ex a w hx => ?_) h2
  have key : (∃ A H' N, Sat M ⟨e, fun b => ∃ id, hhas H id = true ∧ e.ρ id = b, k⟩ A H' N a w ∧ RetS M ⟨e, fun b => ∃ id, hhas H id = true ∧ e.ρ id = b, k⟩ lf.rs Q A H' N) →
      a.defers = [] ∧ ∃ v, (results fn a.tmps).run M.P w = .ok v w ∧ ∃ x v' e' H' k', (Ending.returned v : Ending) = .returned x ∧ e'.w = w ∧ Inv M ⟨e, fun b => ∃ id, hhas H id = true ∧ e.ρ id = b, k⟩ e' H' ∧ RV e' v' x ∧ (∀ id, k' ≤ id → ¬ e'.D id) ∧ k ≤ k' ∧ Q v' H' k' := by
    rintro ⟨A, H1, N, hs, m, z, v', H', N', hm, hpre, hv', hH', hq⟩
    simp only [Bool.and_eq_true, decide_eq_true_eq, List.all_eq_true, List.mem_range, beq_iff_eq, Bool.not_eq_true', List.contains_eq_mem, decide_eq_false_iff_not] at hm
    obtain ⟨⟨⟨⟨m1, m2⟩, m3⟩, m4⟩, m5⟩ := hm
    obtain ⟨e', rfl, hI', hF', hD', hk', hdef⟩ := hs
    obtain ⟨v, hv, hRV⟩ := results_run hI' hF' hrs hpre
    refine ⟨hdef, v, hv, v, v', e'.sim H1 m z, H', N', rfl, rfl, hI'.sim m1 m2 hH' (.inl ⟨rfl, m5⟩), RV_sim (Pull.of hI' m z) hv' hRV, ?_, m4, hq⟩
    rintro id hid ⟨i, h1, _⟩
    have := (List.getElem?_eq_some_iff.1 h1).1
    omega
  cases ex <;> try (exact hx.elim)
  · exact key hx
  · exact key hx
theorem solid_int (k : IntKind) (n : Int) : (V.int k n).solid = true := rfl
theorem size_int (k : IntKind) (n : Int) : (V.int k n).size = 1 := rfl
theorem agg_int (k : IntKind) (n : Int) : (V.int k n).isAgg = false := rfl
theorem solid_bool (b : Bool) : (V.bool b).solid = true := rfl
theorem size_bool (b : Bool) : (V.bool b).size = 1 := rfl
theorem agg_bool (b : Bool) : (V.bool b).isAgg = false := rfl
theorem solid_str (s : ByteArray) : (V.str s).solid = true := rfl
theorem size_str (s : ByteArray) : (V.str s).size = 1 := rfl
theorem agg_str (s : ByteArray) : (V.str s).isAgg = false := rfl
theorem solid_nilp : V.nilp.solid = true := rfl
theorem size_nilp : V.nilp.size = 1 := rfl
theorem agg_nilp : V.nilp.isAgg = false := rfl
theorem solid_ptr (i : Nat) (p : List Stp) : (V.ptr i p).solid = true := rfl
theorem size_ptr (i : Nat) (p : List Stp) : (V.ptr i p).size = 1 := rfl
theorem agg_ptr (i : Nat) (p : List Stp) : (V.ptr i p).isAgg = false := rfl
theorem solid_imm (v : V) : (V.imm v).solid = true := rfl
theorem size_imm (v : V) : (V.imm v).size = 1 := rfl
theorem agg_imm (v : V) : (V.imm v).isAgg = false := rfl
theorem solid_nils : V.nils.solid = true := rfl
theorem size_nils : V.nils.size = 1 := rfl
theorem agg_nils : V.nils.isAgg = false := rfl
theorem solid_sl (i : Nat) (p : List Stp) (o n sz : Nat) : (V.sl i p o n sz).solid = true := rfl
theorem size_sl (i : Nat) (p : List Stp) (o n sz : Nat) : (V.sl i p o n sz).size = 1 := rfl
theorem agg_sl (i : Nat) (p : List Stp) (o n sz : Nat) : (V.sl i p o n sz).isAgg = false := rfl
theorem solid_lst (sz n : Nat) (f : Nat → V) : (V.lst sz n f).solid = true := rfl
theorem size_lst (sz n : Nat) (f : Nat → V) : (V.lst sz n f).size = 1 := rfl
theorem agg_lst (sz n : Nat) (f : Nat → V) : (V.lst sz n f).isAgg = false := rfl
theorem solid_nilm : V.nilm.solid = true := rfl
theorem size_nilm : V.nilm.size = 1 := rfl
theorem agg_nilm : V.nilm.isAgg = false := rfl
theorem solid_map (i : Nat) : (V.map i).solid = true := rfl
theorem size_map (i : Nat) : (V.map i).size = 1 := rfl
theorem agg_map (i : Nat) : (V.map i).isAgg = false := rfl
theorem solid_nilf : V.nilf.solid = true := rfl
theorem size_nilf : V.nilf.size = 1 := rfl
theorem agg_nilf : V.nilf.isAgg = false := rfl
theorem solid_fn (f : Nat) (c : V) : (V.fn f c).solid = true := rfl
theorem size_fn (f : Nat) (c : V) : (V.fn f c).size = 1 := rfl
theorem agg_fn (f : Nat) (c : V) : (V.fn f c).isAgg = false := rfl
theorem solid_nili : V.nili.solid = true := rfl
theorem size_nili : V.nili.size = 1 := rfl
theorem agg_nili : V.nili.isAgg = false := rfl
theorem solid_ifc (t : Nat) (v : V) : (V.ifc t v).solid = true := rfl
theorem size_ifc (t : Nat) (v : V) : (V.ifc t v).size = 1 := rfl
theorem agg_ifc (t : Nat) (v : V) : (V.ifc t v).isAgg = false := rfl
theorem solid_st (n : Nat) (fs : V) : (V.st n fs).solid = true := rfl
theorem size_st (n : Nat) (fs : V) : (V.st n fs).size = n := rfl
theorem agg_st (n : Nat) (fs : V) : (V.st n fs).isAgg = true := rfl
theorem solid_ar (sz n : Nat) (f : Nat → V) : (V.ar sz n f).solid = true := rfl
theorem size_ar (sz n : Nat) (f : Nat → V) : (V.ar sz n f).size = n * sz := rfl
theorem agg_ar (sz n : Nat) (f : Nat → V) : (V.ar sz n f).isAgg = true := rfl

theorem wrap_u (n : Int) : IntKind.u64.wrap n = n % 18446744073709551616 := by simp [IntKind.wrap, IntKind.bits, IntKind.signed]
theorem wrap_b (n : Int) : IntKind.u8.wrap n = n % 256 := by simp [IntKind.wrap, IntKind.bits, IntKind.signed]
theorem wrap_u64 {n : Int} (h : 0 ≤ n ∧ n < 18446744073709551616) : IntKind.u64.wrap n = n := by
  rw [wrap_u]; omega
theorem wrap_i (n : Int) : IntKind.i64.wrap n = if n % 18446744073709551616 ≥ 9223372036854775808 then n % 18446744073709551616 - 18446744073709551616 else n % 18446744073709551616 := by simp [IntKind.wrap, IntKind.bits, IntKind.signed]
theorem wrap_i64 {n : Int} (h : -9223372036854775808 ≤ n ∧ n < 9223372036854775808) : IntKind.i64.wrap n = n := by
  rw [wrap_i]; split <;> omega
/-- A weaker state: these blocks are kept, in this order. -/
theorem Weak.at {M : Seat} {c : Ctx} {A : List V} {H : Hp} {N : Nat} (m z : List Nat) {k : Nat} (hck : c.k = k) {A' : List V} {H' : Hp} {N' : Nat} (hm : (decide m.Nodup && z.all (fun i => !m.contains i) && decide (m.length ≤ N') && decide (k ≤ N') && (List.range k).all (fun j => m[j]? == some j)) = true)
    (hA : SimA H m z A' A) (hH : SimH H m z H') : Weak M c A H N A' H' N' := by
  simp only [Bool.and_eq_true, decide_eq_true_eq, List.all_eq_true, List.mem_range, beq_iff_eq, Bool.not_eq_true', List.contains_eq_mem, decide_eq_false_iff_not] at hm
  obtain ⟨⟨⟨⟨h1, h2⟩, h3⟩, h4⟩, h5⟩ := hm
  exact Weak.sim m z h1 h2 h3 (by omega) (fun j hj => h5 j (by omega)) hA hH
/-- Operations, written short. -/
abbrev A0 (l : LO) : LOp := ⟨none, .lo l, none⟩
abbrev A1 (d : Nat) (l : LO) : LOp := ⟨some d, .lo l, none⟩
abbrev A2 (d t : Nat) (b : Bool) (l : LO) : LOp := ⟨some d, .lo l, some (t, b)⟩

theorem ofInt_nat (n : Nat) (a : Nat) : BitVec.ofInt n (a : Int) = BitVec.ofNat n a := by
  apply BitVec.eq_of_toNat_eq
  simp

theorem or_nat {a b : Nat} (ha : a < 18446744073709551616) (hb : b < 18446744073709551616) : IntKind.u64.wrap (((BitVec.ofInt IntKind.u64.bits (a : Int) ||| BitVec.ofInt IntKind.u64.bits (b : Int)).toNat : Nat) : Int) = ((a ||| b : Nat) : Int) := by
  have h : a ||| b < 2 ^ 64 := Nat.or_lt_two_pow (by omega) (by omega)
  rw [ofInt_nat, ofInt_nat, BitVec.toNat_or, BitVec.toNat_ofNat, BitVec.toNat_ofNat, Nat.mod_eq_of_lt (by simpa [IntKind.bits] using ha), Nat.mod_eq_of_lt (by simpa [IntKind.bits] using hb)]
  exact wrap_u64 (by omega)

theorem and_nat {a b : Nat} (ha : a < 18446744073709551616) (hb : b < 18446744073709551616) : IntKind.u64.wrap (((BitVec.ofInt IntKind.u64.bits (a : Int) &&& BitVec.ofInt IntKind.u64.bits (b : Int)).toNat : Nat) : Int) = ((a &&& b : Nat) : Int) := by
  have h : a &&& b < 2 ^ 64 := Nat.lt_of_le_of_lt Nat.and_le_left (by omega)
  rw [ofInt_nat, ofInt_nat, BitVec.toNat_and, BitVec.toNat_ofNat, BitVec.toNat_ofNat, Nat.mod_eq_of_lt (by simpa [IntKind.bits] using ha), Nat.mod_eq_of_lt (by simpa [IntKind.bits] using hb)]
  exact wrap_u64 (by omega)

theorem xor_nat {a b : Nat} (ha : a < 18446744073709551616) (hb : b < 18446744073709551616) : IntKind.u64.wrap (((BitVec.ofInt IntKind.u64.bits (a : Int) ^^^ BitVec.ofInt IntKind.u64.bits (b : Int)).toNat : Nat) : Int) = ((a ^^^ b : Nat) : Int) := by
  have h : a ^^^ b < 2 ^ 64 := Nat.xor_lt_two_pow (by omega) (by omega)
  rw [ofInt_nat, ofInt_nat, BitVec.toNat_xor, BitVec.toNat_ofNat, BitVec.toNat_ofNat, Nat.mod_eq_of_lt (by simpa [IntKind.bits] using ha), Nat.mod_eq_of_lt (by simpa [IntKind.bits] using hb)]
  exact wrap_u64 (by omega)

theorem not_nat {a : Nat} (ha : a < 18446744073709551616) : IntKind.u64.wrap (((BitVec.ofInt IntKind.u64.bits (if IntKind.u64.signed = true then -1 else IntKind.u64.max) ^^^ BitVec.ofInt IntKind.u64.bits (a : Int)).toNat : Nat) : Int) = ((18446744073709551615 ^^^ a : Nat) : Int) := by
  have e1 : (if IntKind.u64.signed = true then (-1 : Int) else IntKind.u64.max) = ((18446744073709551615 : Nat) : Int) := by rfl
  rw [e1, xor_nat (by omega) ha]


theorem put_none (A : List V) (v : V) : put A none v = A := rfl
theorem put_length (A : List V) (d : Option Nat) (v : V) : (put A d v).length = A.length := by cases d <;> simp [put]
theorem put_same {A : List V} {i : Nat} {v : V} (h : i < A.length) : (put A (some i) v).getD i .junk = v := by simp [put, List.getD, h]
theorem put_ne {A : List V} {i t : Nat} {v : V} (h : i ≠ t) : (put A (some i) v).getD t .junk = A.getD t .junk := by simp [put, List.getD, List.getElem?_set_ne h]

/-- A frame of n slots, in which these stand. -/
def fr (n : Nat) : List (Nat × V) → List V
  | [] => List.replicate n .junk
  | (t, v) :: r => put (fr n r) (some t) v

theorem fr_length (n : Nat) : ∀ l, (fr n l).length = n
  | [] => by simp [fr]
  | (t, v) :: r => by simp [fr, put_length, fr_length n r]

theorem fr_nil (n t : Nat) : (fr n []).getD t .junk = .junk := by
  simp only [fr, List.getD, List.getElem?_replicate]
  split <;> rfl

theorem fr_same {n t : Nat} {v : V} {r : List (Nat × V)} (h : t < n) : (fr n ((t, v) :: r)).getD t .junk = v := put_same (by rw [fr_length]; exact h)
theorem fr_ne {n t i : Nat} {v : V} {r : List (Nat × V)} (h : i ≠ t) : (fr n ((i, v) :: r)).getD t .junk = (fr n r).getD t .junk := put_ne h
theorem put_fr (n t : Nat) (v : V) (r : List (Nat × V)) : put (fr n r) (some t) v = fr n ((t, v) :: r) := rfl

def num : Nat → List V → List (Nat × V) → List (Nat × V)
  | _, [], acc => acc
  | i, u :: r, acc => num (i + 1) r ((i, u) :: acc)

theorem num_fr (n : Nat) : ∀ (us : List V) (i : Nat) (acc : List (Nat × V)) (pre : List V), pre.length = i → fr n acc = pre ++ List.replicate (n - i) .junk → i + us.length ≤ n → fr n (num i us acc) = pre ++ us ++ List.replicate (n - i - us.length) .junk
  | [], i, acc, pre, _, h, _ => by simpa [num] using h
  | u :: r, i, acc, pre, hp, h, hl => by
    simp only [List.length_cons] at hl
    have h2 : fr n ((i, u) :: acc) = (pre ++ [u]) ++ List.replicate (n - (i + 1)) .junk := by
      simp only [fr, put, h]
      have e1 : n - i = (n - (i + 1)) + 1 := by omega
      rw [e1, List.replicate_succ]
      apply List.ext_getElem?
      intro k
      by_cases hk : k = i
      · subst hk
        rw [List.getElem?_set_self (by simp [hp])]
        rw [List.getElem?_append_left (by simp [hp])]
        rw [List.getElem?_append_right (by omega)]
        simp [hp]
      · rw [List.getElem?_set_ne (Ne.symm hk)]
        by_cases hk2 : k < i
        · rw [List.getElem?_append_left (by omega), List.getElem?_append_left (by simp; omega), List.getElem?_append_left (by omega)]
        · rw [List.getElem?_append_right (by omega), List.getElem?_append_right (by simp; omega)]
          have e2 : k - pre.length = (k - (pre ++ [u]).length) + 1 := by simp; omega
          rw [e2, List.getElem?_cons_succ]
    have := num_fr n r (i + 1) ((i, u) :: acc) (pre ++ [u]) (by simp [hp]) h2 (by omega)
    simp only [num]
    rw [this]
    have e3 : n - (i + 1) - r.length = n - i - (u :: r).length := by simp; omega
    rw [e3]
    simp

theorem frame0_fr {us : List V} {n : Nat} (h : us.length ≤ n) : frame0 us n = fr n (num 0 us []) := by
  rw [num_fr n us 0 [] [] rfl (by simp [fr]) (by omega)]
  simp [frame0]

/-- A body, its frame a short list. -/
theorem runs_fr {M : Seat} {f : Nat} {lf : LF} {us : List V} {H : Hp} {k : Nat} {Q : V → Hp → Nat → Prop} (hf : chkF M f lf = true) (hn : decide (us.length ≤ lf.nt) = true)
    (h : ∀ x : Ctx, x.k = k → SemK M x (RetS M x lf.rs Q) [.code lf.c] k (fr lf.nt (num 0 us [])) H) : Runs M f us H k Q := by
  refine runs_body hf fun x hx => ?_
  rw [frame0_fr (of_decide_eq_true hn)]
  exact h x hx

/-- What is kept of a frame. -/
def SimL (H : Hp) (m z : List Nat) (A : List V) : List (Nat × V) → Prop
  | [] => True
  | (t, v) :: r => SimV H m z v (A.getD t .junk) ∧ SimL H m z A r

theorem SimA_of {H : Hp} {m z : List Nat} : ∀ {A B : List V}, A.length = B.length → (∀ t, SimV H m z (A.getD t .junk) (B.getD t .junk)) → SimA H m z A B
  | [], [], _, _ => trivial
  | _ :: _, _ :: _, hl, h => ⟨by simpa using h 0, SimA_of (by simpa using hl) (fun t => by simpa using h (t + 1))⟩
  | [], _ :: _, hl, _ => by simp at hl
  | _ :: _, [], hl, _ => by simp at hl

theorem SimL_get {H : Hp} {m z : List Nat} {A : List V} {n : Nat} : ∀ {l : List (Nat × V)}, SimL H m z A l → ∀ t, t < n → SimV H m z ((fr n l).getD t .junk) (A.getD t .junk)
  | [], _, t, _ => by rw [fr_nil]; trivial
  | (i, v) :: r, h, t, ht => by
    by_cases hit : i = t
    · subst hit; rw [fr_same ht]; exact h.1
    · rw [fr_ne hit]; exact SimL_get h.2 t ht

/-- A weaker state. -/
theorem Weak.fr {M : Seat} {c : Ctx} {A : List V} {H : Hp} {N n : Nat} (m z : List Nat) {k : Nat} (hck : c.k = k) {l : List (Nat × V)} {H' : Hp} {N' : Nat} (hlen : A.length = n)
    (hm : (decide m.Nodup && z.all (fun i => !m.contains i) && decide (m.length ≤ N') && decide (k ≤ N') && (List.range k).all (fun j => m[j]? == some j)) = true)
    (hA : SimL H m z A l) (hH : SimH H m z H') : Weak M c A H N (Mv.fr n l) H' N' := by
  refine Weak.at m z hck hm (SimA_of (by rw [fr_length, hlen]) (fun t => ?_)) hH
  by_cases ht : t < n
  · exact SimL_get hA t ht
  · have : (Mv.fr n l).getD t .junk = .junk := by rw [List.getD_eq_getElem?_getD, List.getElem?_eq_none (by rw [fr_length]; omega)]; rfl
    rw [this]; trivial
end Mv
