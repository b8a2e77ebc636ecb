/- Proved: Rows.HonestTracesCardSaid: for every input mootlaw20.HonestTraces returns true, and each argument reads afterwards as it read before. Conditions: none beyond those of the given card and its row. -/
import Derived.Test.YtlfkjfonpacelaaGreatDoorFW
import Derived.Test.YtlfkjfonpacelaaGreatDoorCards
import Derived.Test.YtlfkjfonpacelaaGreatDoorTie
import Derived.WalkKit
import Derived.ProofKit
import Derived.OpenShut
import Derived.Deep.DeepHandedRow
import Derived.Lib.LaidTab
import Derived.Stop.LaidErr
import Derived.LaidLaws
import Derived.LaidHandle
set_option linter.all false
set_option maxRecDepth 100000
namespace Go.Proofs.YtlfkjfonpacelaaGreatDoor
open Go Mv Go.ChangeShapes Go.WideShapes Go.ChangeAt Go.RowKit
theorem own : ownKnob Tryz.prog.godebug = none := by kernel_rfl
theorem laidOut : laidOutB Tryz.prog = true := by kernel_rfl
theorem g1 : Tryz.prog.globalNamed "moot/keccak.rounds" = some 3 := by kernel_rfl
theorem t1 : (Tryz.prog.globals[3]?).map (·.type) = some 318 := by kernel_rfl
theorem g2 : Tryz.prog.globalNamed "moot/keccak.lanes" = some 4 := by kernel_rfl
theorem t2 : (Tryz.prog.globals[4]?).map (·.type) = some 321 := by kernel_rfl
theorem g3 : Tryz.prog.globalNamed "moot/keccak.turns" = some 5 := by kernel_rfl
theorem t3 : (Tryz.prog.globals[5]?).map (·.type) = some 321 := by kernel_rfl
theorem cells318 : Tryz.prog.cellsOf 318 = 24 := by kernel_rfl
theorem cells321 : Tryz.prog.cellsOf 321 = 24 := by kernel_rfl
theorem cells22 : Tryz.prog.cellsOf 22 = 1 := by kernel_rfl
theorem cells3 : Tryz.prog.cellsOf 3 = 1 := by kernel_rfl
theorem cells200 : Tryz.prog.cellsOf 200 = 7 := by kernel_rfl
theorem cells2 : Tryz.prog.cellsOf 2 = 1 := by kernel_rfl
theorem tables {W : World} (h : laidMetH Tryz.prog Rows.honestTracesRow.laid W) :
 Lib.TabIs Tryz.prog W "moot/keccak.rounds" .u64 rounds ∧ Lib.TabIs Tryz.prog W "moot/keccak.lanes" .i64 lanes ∧ Lib.TabIs Tryz.prog W "moot/keccak.turns" .i64 turns := by
 have h' : laidMet Tryz.prog [("moot/keccak.rounds", Lib.tabData .u64 rounds), ("moot/keccak.lanes", Lib.tabData .i64 lanes), ("moot/keccak.turns", Lib.tabData .i64 turns)] W := (show laidMet Tryz.prog [("moot/keccak.rounds", Lib.tabData .u64 rounds), ("moot/keccak.lanes", Lib.tabData .i64 lanes), ("moot/keccak.turns", Lib.tabData .i64 turns)] W ∧ handlesMet Tryz.prog [("errors.errorType", Rows.laid_errors_errorType)] W from h).1
 exact ⟨Lib.tabIs_of_head g1 t1 Tryz.underlying318 Tryz.underlying22 cells22 cells318 h', Lib.tabIs_of_head g2 t2 Tryz.underlying321 Tryz.underlying3 cells3 cells321 h'.tail, Lib.tabIs_of_head g3 t3 Tryz.underlying321 Tryz.underlying3 cells3 cells321 h'.tail.tail⟩
theorem et : Tryz.prog.globalNamed "errors.errorType" = some 0 := by kernel_rfl
theorem rtT : (Tryz.prog.cutTypes.find? (·.1 == "internal/reflectlite.rtype")).map (·.2) = some 219 := by kernel_rfl
theorem oneRow : ((List.range 368).filter fun t => Tryz.prog.rowNamed t [101, 114, 114, 111, 114]) = [30] := by kernel_rfl
theorem nTypes : Tryz.prog.types.size = 368 := by kernel_rfl
theorem handle_of_laid {W : World} (h : laidMetH Tryz.prog Rows.honestTracesRow.laid W) : W.cell? ⟨0, 0, none⟩ = some (.iface 219 (.agg #[.pointer (some ⟨6, 30, none⟩)])) := by
 have h' : laidMet Tryz.prog [("moot/keccak.rounds", Lib.tabData .u64 rounds), ("moot/keccak.lanes", Lib.tabData .i64 lanes), ("moot/keccak.turns", Lib.tabData .i64 turns)] W ∧ handlesMet Tryz.prog [("errors.errorType", Rows.laid_errors_errorType)] W := h
 obtain ⟨name, u, ty, e1, e2, e3, e4, e5⟩ := h'.2 _ (List.mem_singleton.2 rfl)
 have en : name = [101, 114, 114, 111, 114] := (Option.some.inj e1).symm
 subst en
 obtain rfl := Option.some.inj (rtT.symm.trans e2)
 have hm : ty ∈ (List.range 368).filter fun t => Tryz.prog.rowNamed t [101, 114, 114, 111, 114] := List.mem_filter.2 ⟨List.mem_range.2 (by rw [← nTypes]; exact e3), e4⟩
 rw [oneRow] at hm
 obtain rfl := List.mem_singleton.1 hm
 have hh : typeHandle Tryz.prog 30 = .pointer (some ⟨6, 30, none⟩) := by kernel_rfl
 rw [hh] at e5
 simpa using World.var?_cell et e5 0
theorem start_tables {W : World} (h : laidMetH Tryz.prog Rows.honestTracesRow.laid W) : GS st (Jn st W) := by
 obtain ⟨h1, h2, h3⟩ := tables h
 refine ⟨fun g hg => ?_, fun p hp => by
  have hp' : p = (0, .iface 219 (.agg #[.pointer (some ⟨6, 30, none⟩)])) := by simpa [st] using hp
  subst hp'
  have hc := handle_of_laid h
  unfold World.cell? at hc
  split at hc
  ·rename_i cs el fz hb
   exact ⟨⟨cs, el, fz, hb⟩, cs, el, fz, hb, by simpa using hc⟩
  ·cases hc⟩
 have hg' : g = 1 ∨ g = 2 ∨ g = 3 := by simpa [st] using hg
 rcases hg' with rfl | rfl | rfl
 ·exact WR (M := st) h1 g1 (by decide)
 ·exact WR (M := st) h2 g2 (by decide)
 ·exact WR (M := st) h3 g3 (by decide)
theorem argsN {e : Env} {u0 u1 u2 : V} {v0 v1 v2 : Value} (h0 : RV e u0 v0) (h1 : RV e u1 v1) (h2 : RV e u2 v2) : Pp e [u0, u1, u2] #[v0, v1, v2] := by
 refine ⟨rfl, fun i => ?_⟩
 match i with
 | 0 => exact h0
 | 1 => exact h1
 | 2 => exact h2
 | i + 3 => exact trivial
theorem trodN {H : Type} {enc : TypeId × Value → H} {P : Program} {w : World} {base : Nat} {spare : Nat → Bool} {held : Bool} {t0 t1 t2 : TypeId} {args : Array Value} {ds : List (DataW H)} {ps : List MemPlace}
 (h : DataW.TrodAll enc P w base spare held [t0, t1, t2] args.toList ds ps) :
 ∃ v0 v1 v2 d0 d1 d2 p0 p1 p2, args = #[v0, v1, v2] ∧ ds = [d0, d1, d2] ∧ ps = p0 ++ (p1 ++ p2) ∧ DataW.Trod enc P w base spare held t0 v0 d0 p0 ∧
  DataW.Trod enc P w base spare held t1 v1 d1 p1 ∧
  DataW.Trod enc P w base spare held t2 v2 d2 p2 := by
 obtain ⟨v0, vs0, d0, ds0, p0, q0, ha, rfl, rfl, h0, hr0⟩ := trodAll_cons h
 obtain ⟨v1, vs1, d1, ds1, p1, q1, rfl, rfl, rfl, h1, hr1⟩ := trodAll_cons hr0
 obtain ⟨v2, vs2, d2, ds2, p2, q2, rfl, rfl, rfl, h2, hr2⟩ := trodAll_cons hr1
 obtain ⟨rfl, rfl, rfl⟩ := trodAll_nil hr2
 exact ⟨v0, v1, v2, d0, d1, d2, p0, p1, p2, by cases args; simp_all, rfl, by simp, h0, h1, h2⟩
theorem trodMk {H : Type} {enc : TypeId × Value → H} {P : Program} {w : World} {base : Nat} {spare : Nat → Bool} {held : Bool} {t0 t1 t2 : TypeId} {v0 v1 v2 : Value} {d0 d1 d2 : DataW H} {p0 p1 p2 : List MemPlace}
 (h0 : DataW.Trod enc P w base spare held t0 v0 d0 p0) (h1 : DataW.Trod enc P w base spare held t1 v1 d1 p1) (h2 : DataW.Trod enc P w base spare held t2 v2 d2 p2) :
 DataW.TrodAll enc P w base spare held [t0, t1, t2] [v0, v1, v2] [d0, d1, d2] (p0 ++ (p1 ++ p2)) := by
 exact trodAll_mk3 h0 h1 h2
theorem contract (H : Type) (enc : TypeId × Value → H) (W : World) (base : Nat) (args : Array Value) (ds gs : List (DataW H)) (before : List MemPlace)
 (hval : ∀ (j : Nat) t v, Tryz.f5.params[j]? = some t → args[j]? = some v → Value.okWide Tryz.prog W .any base t v)
 (hW : DataW.Whole enc Tryz.prog Tryz.f5.params.toList Rows.honestTracesSpec.vars false W args.toList ds gs before) (hL : laidMetH Tryz.prog Rows.honestTracesRow.laid W) :
 Calls Tryz.prog 5 args W fun e W' => ∃ v, e = .returned v ∧ Rows.honestTracesSpec.post enc Tryz.prog Tryz.f5 false true false false W args v W' := by
 have hW' := hW
 obtain ⟨p, q, hA0, hV, rfl, hfz, hnd⟩ := hW
 have hA : DataW.TrodAll enc Tryz.prog W 0 (fun _ => true) true Tryz.f5.params.toList args.toList ds p := hA0
 rw [Tryz.params5] at hA hval
 obtain ⟨v0, v1, v2, d0, d1, d2, p0, p1, p2, rfl, rfl, rfl, h0, h1, h2⟩ := trodN hA
 obtain ⟨rfl, rfl⟩ := trodVars_none hV
 clear hA0
 simp only [List.append_nil] at hW'
 obtain ⟨a0, b0, c0, l0, r0⟩ := ZR (M := st) Tryz.underlying70 Tryz.underlying200 cells200 ⟨rfl, rfl, rfl, rfl, rfl, rfl, rfl⟩ Tryz.underlying3 Tryz.underlying3 Tryz.underlying3 Tryz.underlying3 Tryz.underlying3 Tryz.underlying2 Tryz.underlying22 cells3 cells3 cells3 cells3 cells3 cells2 cells22 (hval 0 70 v0 rfl rfl) h0
 obtain ⟨a1, w1, r1⟩ := ZP (M := st) Tryz.underlying3 (hval 1 3 v1 rfl rfl) h1
 obtain ⟨a2, b2, c2, l2, r2⟩ := TN (M := st) Tryz.underlying81 Tryz.underlying22 cells22 (hval 2 81 v2 rfl rfl) h2
 refine (Vf (M := st) (HN okHt Aiy Aej a0 b0 c0 l0 a1 a2 b2 c2 l2) W (start_tables hL) (argsN r0 r1 r2)).mono fun e W' he => ?_
 obtain ⟨x, v, H', k', e', rfl, hv, ⟨rfl, _, _⟩, hb⟩ := he
 have hx : x = .bool true := by simpa [RV, RS, V.isAgg, R] using hv
 subst hx
 have hlt0 : ∀ y ∈ p0, y.block < W.heap.size := fun y hy => hW'.lt y (by simp [hy])
 have hlt1 : ∀ y ∈ p1, y.block < W.heap.size := fun y hy => hW'.lt y (by simp [hy])
 have hlt2 : ∀ y ∈ p2, y.block < W.heap.size := fun y hy => hW'.lt y (by simp [hy])
 refine ⟨_, rfl, [d0, d1, d2], [], p0 ++ (p1 ++ p2), [], p0 ++ (p1 ++ p2), [], hW', ?_, ?_, rfl, hb.frame _, fun h => by cases h⟩
 ·exact trodAll_cons_mk (shut_bool Tryz.underlying4 true) trodAll_mk0
 ·rw [Tryz.params5]
  exact trodMk (Below.trod laidOut (by kernel_rfl) (of_decide_eq_true (by kernel_rfl)) h0 hb hlt0) (Below.trod laidOut (by kernel_rfl) (of_decide_eq_true (by kernel_rfl)) h1 hb hlt1) (Below.trod laidOut (by kernel_rfl) (of_decide_eq_true (by kernel_rfl)) h2 hb hlt2)
noncomputable def laidWorld (os : Os) : World :=
 { World.holding Tryz.prog os ⟨#[], #[], []⟩ with heap := (((((World.holding Tryz.prog os ⟨#[], #[], []⟩).heap.modify 0 fun
  | .cells _ t frozen => .cells #[.iface 219 (.agg #[.pointer (some ⟨6, 30, none⟩)])] t frozen
  | o => o).modify 3 fun
  | .cells _ t frozen => .cells (rounds.map fun z => Value.int .u64 z).toArray t frozen
  | o => o).modify 4 fun
  | .cells _ t frozen => .cells (lanes.map fun z => Value.int .i64 z).toArray t frozen
  | o => o).modify 5 fun
  | .cells _ t frozen => .cells (turns.map fun z => Value.int .i64 z).toArray t frozen
  | o => o) }
def wargs : Array Value := #[.slice none 0 0, .int .i64 0, .slice none 0 0]
theorem laid_met (os : Os) : laidMetH Tryz.prog Rows.honestTracesRow.laid ((laidWorld os).forCall (fun _ _ => 0) ⟨#[], wargs, []⟩).memory :=
 laidMetH_of_parts (laidMet_of_run' 8 (by kernel_rfl) (by kernel_rfl)) (by kernel_rfl)
theorem reads (os : Os) {H : Type} (enc : TypeId × Value → H) : ∃ ds places, DataW.whole enc Tryz.prog ((laidWorld os).forCall (fun _ _ => 0) ⟨#[], wargs, []⟩).memory Tryz.f5.params.toList Rows.honestTracesSpec.vars false wargs.toList 8 = some (ds, [], places) :=
 ⟨[.nil, .lit (.int .i64 0), .nil], [], by kernel_rfl⟩
theorem lifted (os : Os) (started : os.Started) (H : Type) (enc : TypeId × Value → H) (F : Stop.Interp) :
 ReturnsInHanded {} Tryz.checked os 5 .any ((OpenSpec.ofChange Rows.honestTracesSpec).preRow enc Tryz.prog Tryz.f5 Rows.honestTracesRow.domain false Rows.honestTracesRow.laid) (((OpenSpec.ofChange Rows.honestTracesSpec).at F).post enc Tryz.prog Tryz.f5 false true false false) := by
 obtain ⟨ds, places, hx⟩ := reads os enc
 refine returnsInHanded_of_row (C := Tryz.checked) (s := OpenSpec.ofChange Rows.honestTracesSpec) own started (by kernel_rfl) Tryz.func5
  (witness_row_at (enc := enc) (C := Tryz.checked) false (laidWorld os) wargs rfl (by kernel_rfl) (by kernel_rfl) (by kernel_rfl)
   (OpenSpec.preRow_of_cond 8 hx (by kernel_rfl) (fun k hk => by cases hk) (by kernel_rfl) (laid_met os))) ?_
 intro W base args ds gs before hval hW _ _ _ hL _ _
 exact contract H enc W base args ds gs before hval hW hL
theorem said : Rows.HonestTracesSaid :=
 OpenClaim.holds_of_cond 5 Tryz.f5 rfl rfl rfl rfl rfl rfl rfl ⟨rfl, rfl, rfl, rfl, rfl⟩ rfl rfl rfl rfl rfl (by kernel_rfl) Tryz.func5 (by kernel_rfl)
  (of_decide_eq_true (by kernel_rfl)) (by unfold Func.isWrapper; first | (rw [if_pos (by decide +kernel)]; kernel_rfl) | (rw [if_neg (by decide +kernel)]; exact ⟨rfl, rfl⟩))
  (fun os started H enc _ F => by rw [OpenClaim.pre_eq_preRow]; exact lifted os started H enc F)
theorem plain (f : FuncId) (fn : Func) (hf : Tryz.pinned.checked.prog.funcNamed "moot/mootlaw20.HonestTraces" = some f) (hfn : Tryz.pinned.checked.prog.funcs[f]? = some fn) :
 true = Tryz.pinned.checked.prog.looks [] ∧ ∀ (j : Nat) t, fn.params[j]? = some t → Tryz.pinned.checked.prog.wantsStandIn t = false := by
 obtain rfl : f = 5 := Option.some.inj ((show Tryz.prog.funcNamed "moot/mootlaw20.HonestTraces" = some 5 by kernel_rfl).symm.trans hf) |>.symm
 obtain rfl : fn = Tryz.f5 := (Option.some.inj (Tryz.func5.symm.trans hfn)).symm
 refine ⟨by kernel_rfl, fun j t ht => ?_⟩
 rw [Tryz.params5] at ht
 have : t = 70 ∨ t = 3 ∨ t = 81 := by have := Array.mem_of_getElem? ht; simp at this; first | exact this | omega | (rcases this with h | h | h <;> subst h <;> simp)
 rcases this with rfl | rfl | rfl
 ·exact (show Tryz.prog.wantsStandIn 70 = false by kernel_rfl)
 ·exact (show Tryz.prog.wantsStandIn 3 = false by kernel_rfl)
 ·exact (show Tryz.prog.wantsStandIn 81 = false by kernel_rfl)
theorem card : Rows.HonestTracesCardSaid :=
 Claim7.holds_tied_plain_at .later [] _ _ _ _ said (fun _ h => by cases h) (by kernel_rfl) (fun _ h => by cases h) honestTraces_row_tie rfl ⟨rfl, rfl⟩ (by kernel_rfl) rfl plain (by kernel_rfl)
end Go.Proofs.YtlfkjfonpacelaaGreatDoor
