/- Proved: Rows.GamePlaysCardSaid: for every input mootlaw19.GamePlays returns true, and each argument reads afterwards as it read before. Conditions: none beyond those of the given card and its row. -/
import Derived.Test.YtpcgkiecjakknaaGreatDoorFV
import Derived.Test.YtpcgkiecjakknaaGreatDoorCards
import Derived.Test.YtpcgkiecjakknaaGreatDoorTie
import Derived.WalkKit
import Derived.ProofKit
import Derived.OpenShut
import Derived.Deep.DeepHandedRow
import Derived.Lib.LaidTab
import Derived.Stop.LaidErr
import Derived.LaidLaws
import Derived.LaidHandle
set_option linter.all false
set_option maxRecDepth 100000
namespace Go.Proofs.YtpcgkiecjakknaaGreatDoor
open Go Mv Go.ChangeShapes Go.WideShapes Go.ChangeAt Go.RowKit
theorem own : ownKnob Tryz.prog.godebug = none := by kernel_rfl
theorem laidOut : laidOutB Tryz.prog = true := by kernel_rfl
theorem g1 : Tryz.prog.globalNamed "moot/keccak.rounds" = some 3 := by kernel_rfl
theorem t1 : (Tryz.prog.globals[3]?).map (·.type) = some 326 := by kernel_rfl
theorem g2 : Tryz.prog.globalNamed "moot/keccak.lanes" = some 4 := by kernel_rfl
theorem t2 : (Tryz.prog.globals[4]?).map (·.type) = some 328 := by kernel_rfl
theorem g3 : Tryz.prog.globalNamed "moot/keccak.turns" = some 5 := by kernel_rfl
theorem t3 : (Tryz.prog.globals[5]?).map (·.type) = some 328 := by kernel_rfl
theorem cells326 : Tryz.prog.cellsOf 326 = 24 := by kernel_rfl
theorem cells328 : Tryz.prog.cellsOf 328 = 24 := by kernel_rfl
theorem cells22 : Tryz.prog.cellsOf 22 = 1 := by kernel_rfl
theorem cells3 : Tryz.prog.cellsOf 3 = 1 := by kernel_rfl
theorem cells62 : Tryz.prog.cellsOf 62 = 7 := by kernel_rfl
theorem cells65 : Tryz.prog.cellsOf 65 = 8 := by kernel_rfl
theorem cells4 : Tryz.prog.cellsOf 4 = 1 := by kernel_rfl
theorem tables {W : World} (h : laidMetH Tryz.prog Rows.gamePlaysRow.laid W) :
 Lib.TabIs Tryz.prog W "moot/keccak.rounds" .u64 rounds ∧ Lib.TabIs Tryz.prog W "moot/keccak.lanes" .i64 lanes ∧ Lib.TabIs Tryz.prog W "moot/keccak.turns" .i64 turns := by
 have h' : laidMet Tryz.prog [("moot/keccak.rounds", Lib.tabData .u64 rounds), ("moot/keccak.lanes", Lib.tabData .i64 lanes), ("moot/keccak.turns", Lib.tabData .i64 turns)] W := (show laidMet Tryz.prog [("moot/keccak.rounds", Lib.tabData .u64 rounds), ("moot/keccak.lanes", Lib.tabData .i64 lanes), ("moot/keccak.turns", Lib.tabData .i64 turns)] W ∧ handlesMet Tryz.prog [("errors.errorType", Rows.laid_errors_errorType)] W from h).1
 exact ⟨Lib.tabIs_of_head g1 t1 Tryz.underlying326 Tryz.underlying22 cells22 cells326 h', Lib.tabIs_of_head g2 t2 Tryz.underlying328 Tryz.underlying3 cells3 cells328 h'.tail, Lib.tabIs_of_head g3 t3 Tryz.underlying328 Tryz.underlying3 cells3 cells328 h'.tail.tail⟩
theorem et : Tryz.prog.globalNamed "errors.errorType" = some 0 := by kernel_rfl
theorem rtT : (Tryz.prog.cutTypes.find? (·.1 == "internal/reflectlite.rtype")).map (·.2) = some 198 := by kernel_rfl
theorem oneRow : ((List.range 371).filter fun t => Tryz.prog.rowNamed t [101, 114, 114, 111, 114]) = [25] := by kernel_rfl
theorem nTypes : Tryz.prog.types.size = 371 := by kernel_rfl
theorem handle_of_laid {W : World} (h : laidMetH Tryz.prog Rows.gamePlaysRow.laid W) : W.cell? ⟨0, 0, none⟩ = some (.iface 198 (.agg #[.pointer (some ⟨6, 25, none⟩)])) := by
 have h' : laidMet Tryz.prog [("moot/keccak.rounds", Lib.tabData .u64 rounds), ("moot/keccak.lanes", Lib.tabData .i64 lanes), ("moot/keccak.turns", Lib.tabData .i64 turns)] W ∧ handlesMet Tryz.prog [("errors.errorType", Rows.laid_errors_errorType)] W := h
 obtain ⟨name, u, ty, e1, e2, e3, e4, e5⟩ := h'.2 _ (List.mem_singleton.2 rfl)
 have en : name = [101, 114, 114, 111, 114] := (Option.some.inj e1).symm
 subst en
 obtain rfl := Option.some.inj (rtT.symm.trans e2)
 have hm : ty ∈ (List.range 371).filter fun t => Tryz.prog.rowNamed t [101, 114, 114, 111, 114] := List.mem_filter.2 ⟨List.mem_range.2 (by rw [← nTypes]; exact e3), e4⟩
 rw [oneRow] at hm
 obtain rfl := List.mem_singleton.1 hm
 have hh : typeHandle Tryz.prog 25 = .pointer (some ⟨6, 25, none⟩) := by kernel_rfl
 rw [hh] at e5
 simpa using World.var?_cell et e5 0
theorem start_tables {W : World} (h : laidMetH Tryz.prog Rows.gamePlaysRow.laid W) : GS st (F1 st W) := by
 obtain ⟨h1, h2, h3⟩ := tables h
 refine ⟨fun g hg => ?_, fun p hp => by
  have hp' : p = (0, .iface 198 (.agg #[.pointer (some ⟨6, 25, none⟩)])) := by simpa [st] using hp
  subst hp'
  have hc := handle_of_laid h
  unfold World.cell? at hc
  split at hc
  ·rename_i cs el fz hb
   exact ⟨⟨cs, el, fz, hb⟩, cs, el, fz, hb, by simpa using hc⟩
  ·cases hc⟩
 have hg' : g = 1 ∨ g = 2 ∨ g = 3 := by simpa [st] using hg
 rcases hg' with rfl | rfl | rfl
 ·exact Dk (M := st) h1 g1 (by decide)
 ·exact Dk (M := st) h2 g2 (by decide)
 ·exact Dk (M := st) h3 g3 (by decide)
theorem argsN {e : Env} {u0 u1 : V} {v0 v1 : Value} (h0 : RV e u0 v0) (h1 : RV e u1 v1) : HN e [u0, u1] #[v0, v1] := by
 refine ⟨rfl, fun i => ?_⟩
 match i with
 | 0 => exact h0
 | 1 => exact h1
 | i + 2 => exact trivial
theorem trodN {H : Type} {enc : TypeId × Value → H} {P : Program} {w : World} {base : Nat} {spare : Nat → Bool} {held : Bool} {t0 t1 : TypeId} {args : Array Value} {ds : List (DataW H)} {ps : List MemPlace}
 (h : DataW.TrodAll enc P w base spare held [t0, t1] args.toList ds ps) :
 ∃ v0 v1 d0 d1 p0 p1, args = #[v0, v1] ∧ ds = [d0, d1] ∧ ps = p0 ++ p1 ∧ DataW.Trod enc P w base spare held t0 v0 d0 p0 ∧
  DataW.Trod enc P w base spare held t1 v1 d1 p1 := by
 obtain ⟨v0, vs0, d0, ds0, p0, q0, ha, rfl, rfl, h0, hr0⟩ := trodAll_cons h
 obtain ⟨v1, vs1, d1, ds1, p1, q1, rfl, rfl, rfl, h1, hr1⟩ := trodAll_cons hr0
 obtain ⟨rfl, rfl, rfl⟩ := trodAll_nil hr1
 exact ⟨v0, v1, d0, d1, p0, p1, by cases args; simp_all, rfl, by simp, h0, h1⟩
theorem trodMk {H : Type} {enc : TypeId × Value → H} {P : Program} {w : World} {base : Nat} {spare : Nat → Bool} {held : Bool} {t0 t1 : TypeId} {v0 v1 : Value} {d0 d1 : DataW H} {p0 p1 : List MemPlace}
 (h0 : DataW.Trod enc P w base spare held t0 v0 d0 p0) (h1 : DataW.Trod enc P w base spare held t1 v1 d1 p1) :
 DataW.TrodAll enc P w base spare held [t0, t1] [v0, v1] [d0, d1] (p0 ++ p1) := by
 exact trodAll_mk2 h0 h1
theorem contract (H : Type) (enc : TypeId × Value → H) (W : World) (base : Nat) (args : Array Value) (ds gs : List (DataW H)) (before : List MemPlace)
 (hval : ∀ (j : Nat) t v, Tryz.f9.params[j]? = some t → args[j]? = some v → Value.okWide Tryz.prog W .any base t v)
 (hW : DataW.Whole enc Tryz.prog Tryz.f9.params.toList Rows.gamePlaysSpec.vars false W args.toList ds gs before) (hL : laidMetH Tryz.prog Rows.gamePlaysRow.laid W) :
 Calls Tryz.prog 9 args W fun e W' => ∃ v, e = .returned v ∧ Rows.gamePlaysSpec.post enc Tryz.prog Tryz.f9 false true false false W args v W' := by
 have hW' := hW
 obtain ⟨p, q, hA0, hV, rfl, hfz, hnd⟩ := hW
 have hA : DataW.TrodAll enc Tryz.prog W 0 (fun _ => true) true Tryz.f9.params.toList args.toList ds p := hA0
 rw [Tryz.params9] at hA hval
 obtain ⟨v0, v1, d0, d1, p0, p1, rfl, rfl, rfl, h0, h1⟩ := trodN hA
 obtain ⟨rfl, rfl⟩ := trodVars_none hV
 clear hA0
 simp only [List.append_nil] at hW'
 obtain ⟨a0, r0⟩ := IQ (M := st) Tryz.underlying62 cells62 ⟨rfl, rfl, rfl, rfl, rfl, rfl, rfl⟩ Tryz.underlying3 Tryz.underlying3 Tryz.underlying3 Tryz.underlying22 Tryz.underlying22 Tryz.underlying22 Tryz.underlying22 cells3 cells3 cells3 cells22 cells22 cells22 cells22 (hval 0 62 v0 rfl rfl) h0
 obtain ⟨n1, a1, b1, l1, m1, r1⟩ := Apo (M := st) Tryz.underlying63 Tryz.underlying65 cells65 ⟨rfl, rfl, rfl, rfl, rfl, rfl, rfl, rfl⟩ Tryz.underlying3 Tryz.underlying3 Tryz.underlying4 Tryz.underlying3 Tryz.underlying3 Tryz.underlying22 Tryz.underlying22 Tryz.underlying22 cells3 cells3 cells4 cells3 cells3 cells22 cells22 cells22 (hval 1 63 v1 rfl rfl) h1
 refine (DP (M := st) (Ame okPy a0 n1 a1 b1 l1 m1) W (start_tables hL) (argsN r0 r1)).mono fun e W' he => ?_
 obtain ⟨x, v, H', k', e', rfl, hv, ⟨rfl, _, _⟩, hb⟩ := he
 have hx : x = .bool true := by simpa [RV, RS, V.isAgg, R] using hv
 subst hx
 have hlt0 : ∀ y ∈ p0, y.block < W.heap.size := fun y hy => hW'.lt y (by simp [hy])
 have hlt1 : ∀ y ∈ p1, y.block < W.heap.size := fun y hy => hW'.lt y (by simp [hy])
 refine ⟨_, rfl, [d0, d1], [], p0 ++ p1, [], p0 ++ p1, [], hW', ?_, ?_, rfl, hb.frame _, fun h => by cases h⟩
 ·exact trodAll_cons_mk (shut_bool Tryz.underlying4 true) trodAll_mk0
 ·rw [Tryz.params9]
  exact trodMk (Below.trod laidOut (by kernel_rfl) (of_decide_eq_true (by kernel_rfl)) h0 hb hlt0) (Below.trod laidOut (by kernel_rfl) (of_decide_eq_true (by kernel_rfl)) h1 hb hlt1)
noncomputable def laidWorld (os : Os) : World :=
 { World.holding Tryz.prog os ⟨#[], #[], []⟩ with heap := (((((World.holding Tryz.prog os ⟨#[], #[], []⟩).heap.modify 0 fun
  | .cells _ t frozen => .cells #[.iface 198 (.agg #[.pointer (some ⟨6, 25, none⟩)])] t frozen
  | o => o).modify 3 fun
  | .cells _ t frozen => .cells (rounds.map fun z => Value.int .u64 z).toArray t frozen
  | o => o).modify 4 fun
  | .cells _ t frozen => .cells (lanes.map fun z => Value.int .i64 z).toArray t frozen
  | o => o).modify 5 fun
  | .cells _ t frozen => .cells (turns.map fun z => Value.int .i64 z).toArray t frozen
  | o => o) }
def wargs : Array Value := #[.agg #[.int .i64 0, .int .i64 0, .int .i64 0, .int .u64 0, .int .u64 0, .int .u64 0, .int .u64 0], .slice none 0 0]
theorem laid_met (os : Os) : laidMetH Tryz.prog Rows.gamePlaysRow.laid ((laidWorld os).forCall (fun _ _ => 0) ⟨#[], wargs, []⟩).memory :=
 laidMetH_of_parts (laidMet_of_run' 8 (by kernel_rfl) (by kernel_rfl)) (by kernel_rfl)
theorem reads (os : Os) {H : Type} (enc : TypeId × Value → H) : ∃ ds places, DataW.whole enc Tryz.prog ((laidWorld os).forCall (fun _ _ => 0) ⟨#[], wargs, []⟩).memory Tryz.f9.params.toList Rows.gamePlaysSpec.vars false wargs.toList 8 = some (ds, [], places) :=
 ⟨[.agg [.lit (.int .i64 0), .lit (.int .i64 0), .lit (.int .i64 0), .lit (.int .u64 0), .lit (.int .u64 0), .lit (.int .u64 0), .lit (.int .u64 0)], .nil], [], by kernel_rfl⟩
theorem lifted (os : Os) (started : os.Started) (H : Type) (enc : TypeId × Value → H) (F : Stop.Interp) :
 ReturnsInHanded {} Tryz.checked os 9 .any ((OpenSpec.ofChange Rows.gamePlaysSpec).preRow enc Tryz.prog Tryz.f9 Rows.gamePlaysRow.domain false Rows.gamePlaysRow.laid) (((OpenSpec.ofChange Rows.gamePlaysSpec).at F).post enc Tryz.prog Tryz.f9 false true false false) := by
 obtain ⟨ds, places, hx⟩ := reads os enc
 refine returnsInHanded_of_row (C := Tryz.checked) (s := OpenSpec.ofChange Rows.gamePlaysSpec) own started (by kernel_rfl) Tryz.func9
  (witness_row_at (enc := enc) (C := Tryz.checked) false (laidWorld os) wargs rfl (by kernel_rfl) (by kernel_rfl) (by kernel_rfl)
   (OpenSpec.preRow_of_cond 8 hx (by kernel_rfl) (fun k hk => by cases hk) (by kernel_rfl) (laid_met os))) ?_
 intro W base args ds gs before hval hW _ _ _ hL _ _
 exact contract H enc W base args ds gs before hval hW hL
theorem said : Rows.GamePlaysSaid :=
 OpenClaim.holds_of_cond 9 Tryz.f9 rfl rfl rfl rfl rfl rfl rfl ⟨rfl, rfl, rfl, rfl, rfl⟩ rfl rfl rfl rfl rfl (by kernel_rfl) Tryz.func9 (by kernel_rfl)
  (of_decide_eq_true (by kernel_rfl)) (by unfold Func.isWrapper; first | (rw [if_pos (by decide +kernel)]; kernel_rfl) | (rw [if_neg (by decide +kernel)]; exact ⟨rfl, rfl⟩))
  (fun os started H enc _ F => by rw [OpenClaim.pre_eq_preRow]; exact lifted os started H enc F)
theorem plain (f : FuncId) (fn : Func) (hf : Tryz.pinned.checked.prog.funcNamed "moot/mootlaw19.GamePlays" = some f) (hfn : Tryz.pinned.checked.prog.funcs[f]? = some fn) :
 true = Tryz.pinned.checked.prog.looks [] ∧ ∀ (j : Nat) t, fn.params[j]? = some t → Tryz.pinned.checked.prog.wantsStandIn t = false := by
 obtain rfl : f = 9 := Option.some.inj ((show Tryz.prog.funcNamed "moot/mootlaw19.GamePlays" = some 9 by kernel_rfl).symm.trans hf) |>.symm
 obtain rfl : fn = Tryz.f9 := (Option.some.inj (Tryz.func9.symm.trans hfn)).symm
 refine ⟨by kernel_rfl, fun j t ht => ?_⟩
 rw [Tryz.params9] at ht
 have : t = 62 ∨ t = 63 := by have := Array.mem_of_getElem? ht; simp at this; first | exact this | omega | (rcases this with h | h <;> subst h <;> simp)
 rcases this with rfl | rfl
 ·exact (show Tryz.prog.wantsStandIn 62 = false by kernel_rfl)
 ·exact (show Tryz.prog.wantsStandIn 63 = false by kernel_rfl)
theorem card : Rows.GamePlaysCardSaid :=
 Claim7.holds_tied_plain_at .later [] _ _ _ _ said (fun _ h => by cases h) (by kernel_rfl) (fun _ h => by cases h) gamePlays_row_tie rfl ⟨rfl, rfl⟩ (by kernel_rfl) rfl plain (by kernel_rfl)
end Go.Proofs.YtpcgkiecjakknaaGreatDoor
