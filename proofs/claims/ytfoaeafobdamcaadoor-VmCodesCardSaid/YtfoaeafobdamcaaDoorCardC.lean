/- Proved: Rows.VmCodesCardSaid: for every input mootlaw10.VmCodes returns true, and each argument reads afterwards as it read before. Conditions: none beyond those of the given card and its row. -/
import Derived.Test.YtfoaeafobdamcaaDoorCkC
import Derived.Test.YtfoaeafobdamcaaDoorKa
import Derived.Test.YtfoaeafobdamcaaDoorBr
import Derived.Test.YtfoaeafobdamcaaDoorCards
import Derived.Test.YtfoaeafobdamcaaDoorTie
import Derived.WalkKit
import Derived.ProofKit
import Derived.OpenShut
import Derived.Deep.DeepHandedRow
import Derived.Lib.LaidTab
import Derived.Stop.LaidErr
import Derived.LaidLaws
import Derived.LaidHandle
set_option linter.unusedSimpArgs false
set_option linter.unusedVariables false
namespace Go.Proofs.YtfoaeafobdamcaaDoor
open Go Mv Go.ChangeShapes Go.WideShapes Go.ChangeAt Go.RowKit
set_option maxRecDepth 100000

theorem own : ownKnob Tryd.prog.godebug = none := by kernel_rfl
theorem laidOut : laidOutB Tryd.prog = true := by kernel_rfl
theorem g1 : Tryd.prog.globalNamed "moot/keccak.rounds" = some 1 := by kernel_rfl
theorem t1 : (Tryd.prog.globals[1]?).map (·.type) = some 228 := by kernel_rfl
theorem g2 : Tryd.prog.globalNamed "moot/keccak.lanes" = some 2 := by kernel_rfl
theorem t2 : (Tryd.prog.globals[2]?).map (·.type) = some 230 := by kernel_rfl
theorem g3 : Tryd.prog.globalNamed "moot/keccak.turns" = some 3 := by kernel_rfl
theorem t3 : (Tryd.prog.globals[3]?).map (·.type) = some 230 := by kernel_rfl
theorem cells228 : Tryd.prog.cellsOf 228 = 24 := by kernel_rfl
theorem cells230 : Tryd.prog.cellsOf 230 = 24 := by kernel_rfl
theorem cells23 : Tryd.prog.cellsOf 23 = 1 := by kernel_rfl
theorem cells3 : Tryd.prog.cellsOf 3 = 1 := by kernel_rfl

/-- What the row's list gives: keccak's tables. -/
theorem tables {W : World} (h : laidMetH Tryd.prog Rows.vmCodesRow.laid W) :
    Lib.TabIs Tryd.prog W "moot/keccak.rounds" .u64 rounds ∧ Lib.TabIs Tryd.prog W "moot/keccak.lanes" .i64 lanes ∧ Lib.TabIs Tryd.prog W "moot/keccak.turns" .i64 turns := by
  have h' : laidMet Tryd.prog [("moot/keccak.rounds", Lib.tabData .u64 rounds), ("moot/keccak.lanes", Lib.tabData .i64 lanes), ("moot/keccak.turns", Lib.tabData .i64 turns)] W := (show laidMet Tryd.prog [("moot/keccak.rounds", Lib.tabData .u64 rounds), ("moot/keccak.lanes", Lib.tabData .i64 lanes), ("moot/keccak.turns", Lib.tabData .i64 turns)] W ∧ handlesMet Tryd.prog [("errors.errorType", Rows.laid_errors_errorType)] W from h).1
  exact ⟨Lib.tabIs_of_head g1 t1 Tryd.underlying228 Tryd.underlying23 cells23 cells228 h', Lib.tabIs_of_head g2 t2 Tryd.underlying230 Tryd.underlying3 cells3 cells230 h'.tail, Lib.tabIs_of_head g3 t3 Tryd.underlying230 Tryd.underlying3 cells3 cells230 h'.tail.tail⟩

theorem et : Tryd.prog.globalNamed "errors.errorType" = some 0 := by kernel_rfl
theorem rtT : (Tryd.prog.cutTypes.find? (·.1 == "internal/reflectlite.rtype")).map (·.2) = some 174 := by kernel_rfl
theorem oneRow : ((List.range 272).filter fun t => Tryd.prog.rowNamed t [101, 114, 114, 111, 114]) = [37] := by kernel_rfl
theorem nTypes : Tryd.prog.types.size = 272 := by kernel_rfl
/-- What the row's list gives of errors.errorType: its one cell. -/
theorem handle_of_laid {W : World} (h : laidMetH Tryd.prog Rows.vmCodesRow.laid W) : W.cell? ⟨0, 0, none⟩ = some (.iface 174 (.agg #[.pointer (some ⟨6, 37, none⟩)])) := by
  have h' : laidMet Tryd.prog [("moot/keccak.rounds", Lib.tabData .u64 rounds), ("moot/keccak.lanes", Lib.tabData .i64 lanes), ("moot/keccak.turns", Lib.tabData .i64 turns)] W ∧ handlesMet Tryd.prog [("errors.errorType", Rows.laid_errors_errorType)] W := h
  obtain ⟨name, u, ty, e1, e2, e3, e4, e5⟩ := h'.2 _ (List.mem_singleton.2 rfl)
  have en : name = [101, 114, 114, 111, 114] := (Option.some.inj e1).symm
  subst en
  obtain rfl := Option.some.inj (rtT.symm.trans e2)
  have hm : ty ∈ (List.range 272).filter fun t => Tryd.prog.rowNamed t [101, 114, 114, 111, 114] := List.mem_filter.2 ⟨List.mem_range.2 (by rw [← nTypes]; exact e3), e4⟩
  rw [oneRow] at hm
  obtain rfl := List.mem_singleton.1 hm
  have hh : typeHandle Tryd.prog 37 = .pointer (some ⟨6, 37, none⟩) := by kernel_rfl
  rw [hh] at e5
  simpa using World.var?_cell et e5 0

theorem start_tables {W : World} (h : laidMetH Tryd.prog Rows.vmCodesRow.laid W) : GS st (env0 st W) := by
  obtain ⟨h1, h2, h3⟩ := tables h
  refine ⟨fun g hg => ?_, fun p hp => by
    have hp' : p = (0, .iface 174 (.agg #[.pointer (some ⟨6, 37, none⟩)])) := by simpa [st] using hp
    subst hp'
    have hc := handle_of_laid h
    unfold World.cell? at hc
    split at hc
    · rename_i cs el fz hb
      exact ⟨⟨cs, el, fz, hb⟩, cs, el, fz, hb, by simpa using hc⟩
    · cases hc⟩
  have hg' : g = 1 ∨ g = 2 ∨ g = 3 := by simpa [st] using hg
  rcases hg' with rfl | rfl | rfl
  · exact tab_R (M := st) h1 g1 (by decide)
  · exact tab_R (M := st) h2 g2 (by decide)
  · exact tab_R (M := st) h3 g3 (by decide)

theorem argsN {e : Env} {u0 u1 u2 u3 u4 u5 u6 : V} {v0 v1 v2 v3 v4 v5 v6 : Value} (h0 : RV e u0 v0) (h1 : RV e u1 v1) (h2 : RV e u2 v2) (h3 : RV e u3 v3) (h4 : RV e u4 v4) (h5 : RV e u5 v5) (h6 : RV e u6 v6) : Args e [u0, u1, u2, u3, u4, u5, u6] #[v0, v1, v2, v3, v4, v5, v6] := by
  refine ⟨rfl, fun i => ?_⟩
  match i with
  | 0 => exact h0
  | 1 => exact h1
  | 2 => exact h2
  | 3 => exact h3
  | 4 => exact h4
  | 5 => exact h5
  | 6 => exact h6
  | i + 7 => exact trivial

theorem trodN {H : Type} {enc : TypeId × Value → H} {P : Program} {w : World} {base : Nat} {spare : Nat → Bool} {held : Bool} {t0 t1 t2 t3 t4 t5 t6 : TypeId} {args : Array Value} {ds : List (DataW H)} {ps : List MemPlace}
    (h : DataW.TrodAll enc P w base spare held [t0, t1, t2, t3, t4, t5, t6] args.toList ds ps) :
    ∃ v0 v1 v2 v3 v4 v5 v6 d0 d1 d2 d3 d4 d5 d6 p0 p1 p2 p3 p4 p5 p6, args = #[v0, v1, v2, v3, v4, v5, v6] ∧ ds = [d0, d1, d2, d3, d4, d5, d6] ∧ ps = p0 ++ (p1 ++ (p2 ++ (p3 ++ (p4 ++ (p5 ++ p6))))) ∧ DataW.Trod enc P w base spare held t0 v0 d0 p0 ∧
      DataW.Trod enc P w base spare held t1 v1 d1 p1 ∧
      DataW.Trod enc P w base spare held t2 v2 d2 p2 ∧
      DataW.Trod enc P w base spare held t3 v3 d3 p3 ∧
      DataW.Trod enc P w base spare held t4 v4 d4 p4 ∧
      DataW.Trod enc P w base spare held t5 v5 d5 p5 ∧
      DataW.Trod enc P w base spare held t6 v6 d6 p6 := by
  obtain ⟨v0, vs0, d0, ds0, p0, q0, ha, rfl, rfl, h0, hr0⟩ := trodAll_cons h
  obtain ⟨v1, vs1, d1, ds1, p1, q1, rfl, rfl, rfl, h1, hr1⟩ := trodAll_cons hr0
  obtain ⟨v2, vs2, d2, ds2, p2, q2, rfl, rfl, rfl, h2, hr2⟩ := trodAll_cons hr1
  obtain ⟨v3, vs3, d3, ds3, p3, q3, rfl, rfl, rfl, h3, hr3⟩ := trodAll_cons hr2
  obtain ⟨v4, vs4, d4, ds4, p4, q4, rfl, rfl, rfl, h4, hr4⟩ := trodAll_cons hr3
  obtain ⟨v5, vs5, d5, ds5, p5, q5, rfl, rfl, rfl, h5, hr5⟩ := trodAll_cons hr4
  obtain ⟨v6, vs6, d6, ds6, p6, q6, rfl, rfl, rfl, h6, hr6⟩ := trodAll_cons hr5
  obtain ⟨rfl, rfl, rfl⟩ := trodAll_nil hr6
  exact ⟨v0, v1, v2, v3, v4, v5, v6, d0, d1, d2, d3, d4, d5, d6, p0, p1, p2, p3, p4, p5, p6, by cases args; simp_all, rfl, by simp, h0, h1, h2, h3, h4, h5, h6⟩
theorem trodMk {H : Type} {enc : TypeId × Value → H} {P : Program} {w : World} {base : Nat} {spare : Nat → Bool} {held : Bool} {t0 t1 t2 t3 t4 t5 t6 : TypeId} {v0 v1 v2 v3 v4 v5 v6 : Value} {d0 d1 d2 d3 d4 d5 d6 : DataW H} {p0 p1 p2 p3 p4 p5 p6 : List MemPlace}
    (h0 : DataW.Trod enc P w base spare held t0 v0 d0 p0) (h1 : DataW.Trod enc P w base spare held t1 v1 d1 p1) (h2 : DataW.Trod enc P w base spare held t2 v2 d2 p2) (h3 : DataW.Trod enc P w base spare held t3 v3 d3 p3) (h4 : DataW.Trod enc P w base spare held t4 v4 d4 p4) (h5 : DataW.Trod enc P w base spare held t5 v5 d5 p5) (h6 : DataW.Trod enc P w base spare held t6 v6 d6 p6) :
    DataW.TrodAll enc P w base spare held [t0, t1, t2, t3, t4, t5, t6] [v0, v1, v2, v3, v4, v5, v6] [d0, d1, d2, d3, d4, d5, d6] (p0 ++ (p1 ++ (p2 ++ (p3 ++ (p4 ++ (p5 ++ p6)))))) := by
  exact ⟨p0, _, h0, ⟨p1, _, h1, ⟨p2, _, h2, ⟨p3, _, h3, trodAll_mk3 h4 h5 h6, rfl⟩, rfl⟩, rfl⟩, rfl⟩

theorem contract (H : Type) (enc : TypeId × Value → H) (W : World) (base : Nat) (args : Array Value) (ds gs : List (DataW H)) (before : List MemPlace)
    (hval : ∀ (j : Nat) t v, Tryd.f12.params[j]? = some t → args[j]? = some v → Value.okWide Tryd.prog W .any base t v)
    (hW : DataW.Whole enc Tryd.prog Tryd.f12.params.toList Rows.vmCodesSpec.vars false W args.toList ds gs before) (hL : laidMetH Tryd.prog Rows.vmCodesRow.laid W) :
    Calls Tryd.prog 12 args W fun e W' => ∃ v, e = .returned v ∧ Rows.vmCodesSpec.post enc Tryd.prog Tryd.f12 false true false false W args v W' := by
  have hW' := hW
  obtain ⟨p, q, hA0, hV, rfl, hfz, hnd⟩ := hW
  have hA : DataW.TrodAll enc Tryd.prog W 0 (fun _ => true) true Tryd.f12.params.toList args.toList ds p := hA0
  rw [Tryd.params12] at hA hval
  obtain ⟨v0, v1, v2, v3, v4, v5, v6, d0, d1, d2, d3, d4, d5, d6, p0, p1, p2, p3, p4, p5, p6, rfl, rfl, rfl, h0, h1, h2, h3, h4, h5, h6⟩ := trodN hA
  obtain ⟨rfl, rfl⟩ := trodVars_none hV
  clear hA0
  simp only [List.append_nil] at hW'
  obtain ⟨a0, w0, r0⟩ := int_arg (M := st) Tryd.underlying3 (hval 0 3 v0 rfl rfl) h0
  obtain ⟨a1, w1, r1⟩ := int_arg (M := st) Tryd.underlying3 (hval 1 3 v1 rfl rfl) h1
  obtain ⟨a2, w2, r2⟩ := int_arg (M := st) Tryd.underlying3 (hval 2 3 v2 rfl rfl) h2
  obtain ⟨a3, w3, r3⟩ := int_arg (M := st) Tryd.underlying3 (hval 3 3 v3 rfl rfl) h3
  obtain ⟨a4, w4, r4⟩ := int_arg (M := st) Tryd.underlying3 (hval 4 3 v4 rfl rfl) h4
  obtain ⟨a5, w5, r5⟩ := int_arg (M := st) Tryd.underlying2 (hval 5 2 v5 rfl rfl) h5
  obtain ⟨a6, r6⟩ := word_arg (M := st) Tryd.underlying23 (hval 6 23 v6 rfl rfl) h6
  refine (run_start (M := st) (runs_VmCodes okA okNC okN a0 a1 a2 a3 a4 a5 a6) W (start_tables hL) (argsN r0 r1 r2 r3 r4 r5 r6)).mono fun e W' he => ?_
  obtain ⟨x, v, H', k', e', rfl, hv, ⟨rfl, _, _⟩, hb⟩ := he
  have hx : x = .bool true := by simpa [RV, RS, V.isAgg, R] using hv
  subst hx
  have hlt0 : ∀ y ∈ p0, y.block < W.heap.size := fun y hy => hW'.lt y (by simp [hy])
  have hlt1 : ∀ y ∈ p1, y.block < W.heap.size := fun y hy => hW'.lt y (by simp [hy])
  have hlt2 : ∀ y ∈ p2, y.block < W.heap.size := fun y hy => hW'.lt y (by simp [hy])
  have hlt3 : ∀ y ∈ p3, y.block < W.heap.size := fun y hy => hW'.lt y (by simp [hy])
  have hlt4 : ∀ y ∈ p4, y.block < W.heap.size := fun y hy => hW'.lt y (by simp [hy])
  have hlt5 : ∀ y ∈ p5, y.block < W.heap.size := fun y hy => hW'.lt y (by simp [hy])
  have hlt6 : ∀ y ∈ p6, y.block < W.heap.size := fun y hy => hW'.lt y (by simp [hy])
  refine ⟨_, rfl, [d0, d1, d2, d3, d4, d5, d6], [], p0 ++ (p1 ++ (p2 ++ (p3 ++ (p4 ++ (p5 ++ p6))))), [], p0 ++ (p1 ++ (p2 ++ (p3 ++ (p4 ++ (p5 ++ p6))))), [], hW', ?_, ?_, rfl, hb.frame _, fun h => by cases h⟩
  · exact trodAll_cons_mk (shut_bool Tryd.underlying4 true) trodAll_mk0
  · rw [Tryd.params12]
    exact trodMk (Below.trod laidOut (by kernel_rfl) (of_decide_eq_true (by kernel_rfl)) h0 hb hlt0) (Below.trod laidOut (by kernel_rfl) (of_decide_eq_true (by kernel_rfl)) h1 hb hlt1) (Below.trod laidOut (by kernel_rfl) (of_decide_eq_true (by kernel_rfl)) h2 hb hlt2) (Below.trod laidOut (by kernel_rfl) (of_decide_eq_true (by kernel_rfl)) h3 hb hlt3) (Below.trod laidOut (by kernel_rfl) (of_decide_eq_true (by kernel_rfl)) h4 hb hlt4) (Below.trod laidOut (by kernel_rfl) (of_decide_eq_true (by kernel_rfl)) h5 hb hlt5) (Below.trod laidOut (by kernel_rfl) (of_decide_eq_true (by kernel_rfl)) h6 hb hlt6)

/-- A world for the witness: the settled one, the tables holding what their initialisers lay. -/
noncomputable def laidWorld (os : Os) : World :=
  { World.holding Tryd.prog os ⟨#[], #[], []⟩ with heap := (((((World.holding Tryd.prog os ⟨#[], #[], []⟩).heap.modify 0 fun
      | .cells _ t frozen => .cells #[.iface 174 (.agg #[.pointer (some ⟨6, 37, none⟩)])] t frozen
      | o => o).modify 1 fun
      | .cells _ t frozen => .cells (rounds.map fun z => Value.int .u64 z).toArray t frozen
      | o => o).modify 2 fun
      | .cells _ t frozen => .cells (lanes.map fun z => Value.int .i64 z).toArray t frozen
      | o => o).modify 3 fun
      | .cells _ t frozen => .cells (turns.map fun z => Value.int .i64 z).toArray t frozen
      | o => o) }
def wargs : Array Value := #[.int .i64 0, .int .i64 0, .int .i64 0, .int .i64 0, .int .i64 0, .int .i64 0, .int .u64 0]
theorem laid_met (os : Os) : laidMetH Tryd.prog Rows.vmCodesRow.laid ((laidWorld os).forCall (fun _ _ => 0) ⟨#[], wargs, []⟩).memory :=
  laidMetH_of_parts (laidMet_of_run' 8 (by kernel_rfl) (by kernel_rfl)) (by kernel_rfl)
theorem reads (os : Os) {H : Type} (enc : TypeId × Value → H) : ∃ ds places, DataW.whole enc Tryd.prog ((laidWorld os).forCall (fun _ _ => 0) ⟨#[], wargs, []⟩).memory Tryd.f12.params.toList Rows.vmCodesSpec.vars false wargs.toList 8 = some (ds, [], places) :=
  ⟨[.lit (.int .i64 0), .lit (.int .i64 0), .lit (.int .i64 0), .lit (.int .i64 0), .lit (.int .i64 0), .lit (.int .i64 0), .lit (.int .u64 0)], [], by kernel_rfl⟩

theorem lifted (os : Os) (started : os.Started) (H : Type) (enc : TypeId × Value → H) (F : Stop.Interp) :
    ReturnsInHanded {} Tryd.checked os 12 .any ((OpenSpec.ofChange Rows.vmCodesSpec).preRow enc Tryd.prog Tryd.f12 Rows.vmCodesRow.domain false Rows.vmCodesRow.laid) (((OpenSpec.ofChange Rows.vmCodesSpec).at F).post enc Tryd.prog Tryd.f12 false true false false) := by
  obtain ⟨ds, places, hx⟩ := reads os enc
  refine returnsInHanded_of_row (C := Tryd.checked) (s := OpenSpec.ofChange Rows.vmCodesSpec) own started (by kernel_rfl) Tryd.func12
    (witness_row_at (enc := enc) (C := Tryd.checked) false (laidWorld os) wargs rfl (by kernel_rfl) (by kernel_rfl) (by kernel_rfl)
      (OpenSpec.preRow_of_cond 8 hx (by kernel_rfl) (fun k hk => by cases hk) (by kernel_rfl) (laid_met os))) ?_
  intro W base args ds gs before hval hW _ _ _ hL _ _
  exact contract H enc W base args ds gs before hval hW hL

theorem said : Rows.VmCodesSaid :=
  OpenClaim.holds_of_cond 12 Tryd.f12 rfl rfl rfl rfl rfl rfl rfl ⟨rfl, rfl, rfl, rfl, rfl⟩ rfl rfl rfl rfl rfl (by kernel_rfl) Tryd.func12 (by kernel_rfl)
    (of_decide_eq_true (by kernel_rfl)) (by unfold Func.isWrapper; first | (rw [if_pos (by decide +kernel)]; kernel_rfl) | (rw [if_neg (by decide +kernel)]; exact ⟨rfl, rfl⟩))
    (fun os started H enc _ F => by rw [OpenClaim.pre_eq_preRow]; exact lifted os started H enc F)

theorem plain (f : FuncId) (fn : Func) (hf : Tryd.pinned.checked.prog.funcNamed "moot/mootlaw10.VmCodes" = some f) (hfn : Tryd.pinned.checked.prog.funcs[f]? = some fn) :
    true = Tryd.pinned.checked.prog.looks [] ∧ ∀ (j : Nat) t, fn.params[j]? = some t → Tryd.pinned.checked.prog.wantsStandIn t = false := by
  obtain rfl : f = 12 := Option.some.inj ((show Tryd.prog.funcNamed "moot/mootlaw10.VmCodes" = some 12 by kernel_rfl).symm.trans hf) |>.symm
  obtain rfl : fn = Tryd.f12 := (Option.some.inj (Tryd.func12.symm.trans hfn)).symm
  refine ⟨by kernel_rfl, fun j t ht => ?_⟩
  rw [Tryd.params12] at ht
  have : t = 3 ∨ t = 2 ∨ t = 23 := by have := Array.mem_of_getElem? ht; simp at this; first | exact this | omega | (rcases this with h | h | h | h | h | h | h <;> subst h <;> simp)
  rcases this with rfl | rfl | rfl
  · exact (show Tryd.prog.wantsStandIn 3 = false by kernel_rfl)
  · exact (show Tryd.prog.wantsStandIn 2 = false by kernel_rfl)
  · exact (show Tryd.prog.wantsStandIn 23 = false by kernel_rfl)

theorem card : Rows.VmCodesCardSaid :=
  Claim7.holds_tied_plain_at .later [] _ _ _ _ said (fun _ h => by cases h) (by kernel_rfl) (fun _ h => by cases h) vmCodes_row_tie rfl ⟨rfl, rfl⟩ (by kernel_rfl) rfl plain (by kernel_rfl)
end Go.Proofs.YtfoaeafobdamcaaDoor
