/- Proved: Rows.LowerSumsCardSaid: for every input mootlaw13.LowerSums returns true, and each argument reads afterwards as it read before. Conditions: none beyond those of the given card and its row. -/
import Derived.Test.YtfljfijnobocoaaDoorHV
import Derived.Test.YtfljfijnobocoaaDoorCards
import Derived.Test.YtfljfijnobocoaaDoorTie
import Derived.WalkKit
import Derived.ProofKit
import Derived.OpenShut
import Derived.Deep.DeepHandedRow
import Derived.Lib.LaidTab
import Derived.Stop.LaidErr
set_option linter.all false
set_option maxRecDepth 100000
namespace Go.Proofs.YtfljfijnobocoaaDoor
open Go Mv Go.ChangeShapes Go.WideShapes Go.ChangeAt Go.RowKit
theorem own : ownKnob Tryd.prog.godebug = none := by kernel_rfl
theorem laidOut : laidOutB Tryd.prog = true := by kernel_rfl
theorem g1 : Tryd.prog.globalNamed "moot/keccak.rounds" = some 2 := by kernel_rfl
theorem t1 : (Tryd.prog.globals[2]?).map (·.type) = some 178 := by kernel_rfl
theorem g2 : Tryd.prog.globalNamed "moot/keccak.lanes" = some 3 := by kernel_rfl
theorem t2 : (Tryd.prog.globals[3]?).map (·.type) = some 181 := by kernel_rfl
theorem g3 : Tryd.prog.globalNamed "moot/keccak.turns" = some 4 := by kernel_rfl
theorem t3 : (Tryd.prog.globals[4]?).map (·.type) = some 181 := by kernel_rfl
theorem cells178 : Tryd.prog.cellsOf 178 = 24 := by kernel_rfl
theorem cells181 : Tryd.prog.cellsOf 181 = 24 := by kernel_rfl
theorem cells22 : Tryd.prog.cellsOf 22 = 1 := by kernel_rfl
theorem cells3 : Tryd.prog.cellsOf 3 = 1 := by kernel_rfl
theorem tables {W : World} (h : laidMetH Tryd.prog Rows.lowerSumsRow.laid W) :
 Lib.TabIs Tryd.prog W "moot/keccak.rounds" .u64 rounds ∧ Lib.TabIs Tryd.prog W "moot/keccak.lanes" .i64 lanes ∧ Lib.TabIs Tryd.prog W "moot/keccak.turns" .i64 turns := by
 have h' : laidMet Tryd.prog [("moot/keccak.rounds", Lib.tabData .u64 rounds), ("moot/keccak.lanes", Lib.tabData .i64 lanes), ("moot/keccak.turns", Lib.tabData .i64 turns)] W := h
 exact ⟨Lib.tabIs_of_head g1 t1 Tryd.underlying178 Tryd.underlying22 cells22 cells178 h', Lib.tabIs_of_head g2 t2 Tryd.underlying181 Tryd.underlying3 cells3 cells181 h'.tail, Lib.tabIs_of_head g3 t3 Tryd.underlying181 Tryd.underlying3 cells3 cells181 h'.tail.tail⟩
theorem start_tables {W : World} (h : laidMetH Tryd.prog Rows.lowerSumsRow.laid W) : GS st (Kb st W) := by
 obtain ⟨h1, h2, h3⟩ := tables h
 refine ⟨fun g hg => ?_, fun p hp => by cases hp⟩
 have hg' : g = 1 ∨ g = 2 ∨ g = 3 := by simpa [st] using hg
 rcases hg' with rfl | rfl | rfl
 ·exact Zc (M := st) h1 g1 (by decide)
 ·exact Zc (M := st) h2 g2 (by decide)
 ·exact Zc (M := st) h3 g3 (by decide)
theorem argsN {e : Env} {u0 u1 u2 u3 : V} {v0 v1 v2 v3 : Value} (h0 : RV e u0 v0) (h1 : RV e u1 v1) (h2 : RV e u2 v2) (h3 : RV e u3 v3) : Ob e [u0, u1, u2, u3] #[v0, v1, v2, v3] := by
 refine ⟨rfl, fun i => ?_⟩
 match i with
 | 0 => exact h0
 | 1 => exact h1
 | 2 => exact h2
 | 3 => exact h3
 | i + 4 => exact trivial
theorem trodN {H : Type} {enc : TypeId × Value → H} {P : Program} {w : World} {base : Nat} {spare : Nat → Bool} {held : Bool} {t0 t1 t2 t3 : TypeId} {args : Array Value} {ds : List (DataW H)} {ps : List MemPlace}
 (h : DataW.TrodAll enc P w base spare held [t0, t1, t2, t3] args.toList ds ps) :
 ∃ v0 v1 v2 v3 d0 d1 d2 d3 p0 p1 p2 p3, args = #[v0, v1, v2, v3] ∧ ds = [d0, d1, d2, d3] ∧ ps = p0 ++ (p1 ++ (p2 ++ p3)) ∧ DataW.Trod enc P w base spare held t0 v0 d0 p0 ∧
  DataW.Trod enc P w base spare held t1 v1 d1 p1 ∧
  DataW.Trod enc P w base spare held t2 v2 d2 p2 ∧
  DataW.Trod enc P w base spare held t3 v3 d3 p3 := by
 obtain ⟨v0, vs0, d0, ds0, p0, q0, ha, rfl, rfl, h0, hr0⟩ := trodAll_cons h
 obtain ⟨v1, vs1, d1, ds1, p1, q1, rfl, rfl, rfl, h1, hr1⟩ := trodAll_cons hr0
 obtain ⟨v2, vs2, d2, ds2, p2, q2, rfl, rfl, rfl, h2, hr2⟩ := trodAll_cons hr1
 obtain ⟨v3, vs3, d3, ds3, p3, q3, rfl, rfl, rfl, h3, hr3⟩ := trodAll_cons hr2
 obtain ⟨rfl, rfl, rfl⟩ := trodAll_nil hr3
 exact ⟨v0, v1, v2, v3, d0, d1, d2, d3, p0, p1, p2, p3, by cases args; simp_all, rfl, by simp, h0, h1, h2, h3⟩
theorem trodMk {H : Type} {enc : TypeId × Value → H} {P : Program} {w : World} {base : Nat} {spare : Nat → Bool} {held : Bool} {t0 t1 t2 t3 : TypeId} {v0 v1 v2 v3 : Value} {d0 d1 d2 d3 : DataW H} {p0 p1 p2 p3 : List MemPlace}
 (h0 : DataW.Trod enc P w base spare held t0 v0 d0 p0) (h1 : DataW.Trod enc P w base spare held t1 v1 d1 p1) (h2 : DataW.Trod enc P w base spare held t2 v2 d2 p2) (h3 : DataW.Trod enc P w base spare held t3 v3 d3 p3) :
 DataW.TrodAll enc P w base spare held [t0, t1, t2, t3] [v0, v1, v2, v3] [d0, d1, d2, d3] (p0 ++ (p1 ++ (p2 ++ p3))) := by
 exact ⟨p0, _, h0, trodAll_mk3 h1 h2 h3, rfl⟩
theorem contract (H : Type) (enc : TypeId × Value → H) (W : World) (base : Nat) (args : Array Value) (ds gs : List (DataW H)) (before : List MemPlace)
 (hval : ∀ (j : Nat) t v, Tryd.f3.params[j]? = some t → args[j]? = some v → Value.okWide Tryd.prog W .any base t v)
 (hW : DataW.Whole enc Tryd.prog Tryd.f3.params.toList Rows.lowerSumsSpec.vars false W args.toList ds gs before) (hL : laidMetH Tryd.prog Rows.lowerSumsRow.laid W) :
 Calls Tryd.prog 3 args W fun e W' => ∃ v, e = .returned v ∧ Rows.lowerSumsSpec.post enc Tryd.prog Tryd.f3 false true false false W args v W' := by
 have hW' := hW
 obtain ⟨p, q, hA0, hV, rfl, hfz, hnd⟩ := hW
 have hA : DataW.TrodAll enc Tryd.prog W 0 (fun _ => true) true Tryd.f3.params.toList args.toList ds p := hA0
 rw [Tryd.params3] at hA hval
 obtain ⟨v0, v1, v2, v3, d0, d1, d2, d3, p0, p1, p2, p3, rfl, rfl, rfl, h0, h1, h2, h3⟩ := trodN hA
 obtain ⟨rfl, rfl⟩ := trodVars_none hV
 clear hA0
 simp only [List.append_nil] at hW'
 obtain ⟨a0, w0, r0⟩ := Afo (M := st) Tryd.underlying3 (hval 0 3 v0 rfl rfl) h0
 obtain ⟨a1, r1⟩ := JL (M := st) Tryd.underlying22 (hval 1 22 v1 rfl rfl) h1
 obtain ⟨a2, r2⟩ := JL (M := st) Tryd.underlying22 (hval 2 22 v2 rfl rfl) h2
 obtain ⟨a3, r3⟩ := JL (M := st) Tryd.underlying22 (hval 3 22 v3 rfl rfl) h3
 refine (TB (M := st) (Ku okLw a0 a1 a2 a3) W (start_tables hL) (argsN r0 r1 r2 r3)).mono fun e W' he => ?_
 obtain ⟨x, v, H', k', e', rfl, hv, ⟨rfl, _, _⟩, hb⟩ := he
 have hx : x = .bool true := by simpa [RV, RS, V.isAgg, R] using hv
 subst hx
 have hlt0 : ∀ y ∈ p0, y.block < W.heap.size := fun y hy => hW'.lt y (by simp [hy])
 have hlt1 : ∀ y ∈ p1, y.block < W.heap.size := fun y hy => hW'.lt y (by simp [hy])
 have hlt2 : ∀ y ∈ p2, y.block < W.heap.size := fun y hy => hW'.lt y (by simp [hy])
 have hlt3 : ∀ y ∈ p3, y.block < W.heap.size := fun y hy => hW'.lt y (by simp [hy])
 refine ⟨_, rfl, [d0, d1, d2, d3], [], p0 ++ (p1 ++ (p2 ++ p3)), [], p0 ++ (p1 ++ (p2 ++ p3)), [], hW', ?_, ?_, rfl, hb.frame _, fun h => by cases h⟩
 ·exact trodAll_cons_mk (shut_bool Tryd.underlying4 true) trodAll_mk0
 ·rw [Tryd.params3]
  exact trodMk (Below.trod laidOut (by kernel_rfl) (of_decide_eq_true (by kernel_rfl)) h0 hb hlt0) (Below.trod laidOut (by kernel_rfl) (of_decide_eq_true (by kernel_rfl)) h1 hb hlt1) (Below.trod laidOut (by kernel_rfl) (of_decide_eq_true (by kernel_rfl)) h2 hb hlt2) (Below.trod laidOut (by kernel_rfl) (of_decide_eq_true (by kernel_rfl)) h3 hb hlt3)
noncomputable def laidWorld (os : Os) : World :=
 { World.holding Tryd.prog os ⟨#[], #[], []⟩ with heap := ((((World.holding Tryd.prog os ⟨#[], #[], []⟩).heap.modify 2 fun
  | .cells _ t frozen => .cells (rounds.map fun z => Value.int .u64 z).toArray t frozen
  | o => o).modify 3 fun
  | .cells _ t frozen => .cells (lanes.map fun z => Value.int .i64 z).toArray t frozen
  | o => o).modify 4 fun
  | .cells _ t frozen => .cells (turns.map fun z => Value.int .i64 z).toArray t frozen
  | o => o) }
def wargs : Array Value := #[.int .i64 0, .int .u64 0, .int .u64 0, .int .u64 0]
theorem laid_met (os : Os) : laidMet Tryd.prog Rows.lowerSumsRow.laid ((laidWorld os).forCall (fun _ _ => 0) ⟨#[], wargs, []⟩).memory :=
 laidMet_of_run' 8 (by kernel_rfl) (by kernel_rfl)
theorem reads (os : Os) {H : Type} (enc : TypeId × Value → H) : ∃ ds places, DataW.whole enc Tryd.prog ((laidWorld os).forCall (fun _ _ => 0) ⟨#[], wargs, []⟩).memory Tryd.f3.params.toList Rows.lowerSumsSpec.vars false wargs.toList 8 = some (ds, [], places) :=
 ⟨[.lit (.int .i64 0), .lit (.int .u64 0), .lit (.int .u64 0), .lit (.int .u64 0)], [], by kernel_rfl⟩
theorem lifted (os : Os) (started : os.Started) (H : Type) (enc : TypeId × Value → H) (F : Stop.Interp) :
 ReturnsInHanded {} Tryd.checked os 3 .any ((OpenSpec.ofChange Rows.lowerSumsSpec).preRow enc Tryd.prog Tryd.f3 Rows.lowerSumsRow.domain false Rows.lowerSumsRow.laid) (((OpenSpec.ofChange Rows.lowerSumsSpec).at F).post enc Tryd.prog Tryd.f3 false true false false) := by
 obtain ⟨ds, places, hx⟩ := reads os enc
 refine returnsInHanded_of_row (C := Tryd.checked) (s := OpenSpec.ofChange Rows.lowerSumsSpec) own started (by kernel_rfl) Tryd.func3
  (witness_row_at (enc := enc) (C := Tryd.checked) false (laidWorld os) wargs rfl (by kernel_rfl) (by kernel_rfl) (by kernel_rfl)
   (OpenSpec.preRow_of_cond 8 hx (by kernel_rfl) (fun k hk => by cases hk) (by kernel_rfl) (laid_met os))) ?_
 intro W base args ds gs before hval hW _ _ _ hL _ _
 exact contract H enc W base args ds gs before hval hW hL
theorem said : Rows.LowerSumsSaid :=
 OpenClaim.holds_of_cond 3 Tryd.f3 rfl rfl rfl rfl rfl rfl rfl ⟨rfl, rfl, rfl, rfl, rfl⟩ rfl rfl rfl rfl rfl (by kernel_rfl) Tryd.func3 (by kernel_rfl)
  (of_decide_eq_true (by kernel_rfl)) (by unfold Func.isWrapper; first | (rw [if_pos (by decide +kernel)]; kernel_rfl) | (rw [if_neg (by decide +kernel)]; exact ⟨rfl, rfl⟩))
  (fun os started H enc _ F => by rw [OpenClaim.pre_eq_preRow]; exact lifted os started H enc F)
theorem plain (f : FuncId) (fn : Func) (hf : Tryd.pinned.checked.prog.funcNamed "moot/mootlaw13.LowerSums" = some f) (hfn : Tryd.pinned.checked.prog.funcs[f]? = some fn) :
 true = Tryd.pinned.checked.prog.looks [] ∧ ∀ (j : Nat) t, fn.params[j]? = some t → Tryd.pinned.checked.prog.wantsStandIn t = false := by
 obtain rfl : f = 3 := Option.some.inj ((show Tryd.prog.funcNamed "moot/mootlaw13.LowerSums" = some 3 by kernel_rfl).symm.trans hf) |>.symm
 obtain rfl : fn = Tryd.f3 := (Option.some.inj (Tryd.func3.symm.trans hfn)).symm
 refine ⟨by kernel_rfl, fun j t ht => ?_⟩
 rw [Tryd.params3] at ht
 have : t = 3 ∨ t = 22 := by have := Array.mem_of_getElem? ht; simp at this; first | exact this | omega | (rcases this with h | h | h | h <;> subst h <;> simp) | (rcases this with h | h | h <;> subst h <;> simp) | (rcases this with h | h <;> subst h <;> simp)
 rcases this with rfl | rfl
 ·exact (show Tryd.prog.wantsStandIn 3 = false by kernel_rfl)
 ·exact (show Tryd.prog.wantsStandIn 22 = false by kernel_rfl)
theorem card : Rows.LowerSumsCardSaid :=
 Claim7.holds_tied_plain_at .later [] _ _ _ _ said (fun _ h => by cases h) (by kernel_rfl) (fun _ h => by cases h) lowerSums_row_tie rfl ⟨rfl, rfl⟩ (by kernel_rfl) rfl plain (by kernel_rfl)
end Go.Proofs.YtfljfijnobocoaaDoor
