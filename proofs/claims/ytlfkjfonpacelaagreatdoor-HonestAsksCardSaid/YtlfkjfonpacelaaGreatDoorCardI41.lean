/- Proved: Rows.HonestAsksCardSaid: for every input mootlaw20.HonestAsks returns true, and each argument reads afterwards as it read before. Conditions: none beyond those of the given card and its row. -/
import Derived.Test.YtlfkjfonpacelaaGreatDoorJW
import Derived.Test.YtlfkjfonpacelaaGreatDoorCards
import Derived.Test.YtlfkjfonpacelaaGreatDoorTie
import Derived.WalkKit
import Derived.ProofKit
import Derived.OpenShut
import Derived.Deep.DeepHandedRow
import Derived.Lib.LaidTab
import Derived.Stop.LaidErr
set_option linter.all false
set_option maxRecDepth 100000
namespace Go.Proofs.YtlfkjfonpacelaaGreatDoor
open Go Mv Go.ChangeShapes Go.WideShapes Go.ChangeAt Go.RowKit
theorem own : ownKnob Tryz.prog.godebug = none := by kernel_rfl
theorem laidOut : laidOutB Tryz.prog = true := by kernel_rfl
theorem g1 : Tryz.prog.globalNamed "moot/keccak.rounds" = some 3 := by kernel_rfl
theorem t1 : (Tryz.prog.globals[3]?).map (·.type) = some 318 := by kernel_rfl
theorem g2 : Tryz.prog.globalNamed "moot/keccak.lanes" = some 4 := by kernel_rfl
theorem t2 : (Tryz.prog.globals[4]?).map (·.type) = some 321 := by kernel_rfl
theorem g3 : Tryz.prog.globalNamed "moot/keccak.turns" = some 5 := by kernel_rfl
theorem t3 : (Tryz.prog.globals[5]?).map (·.type) = some 321 := by kernel_rfl
theorem cells318 : Tryz.prog.cellsOf 318 = 24 := by kernel_rfl
theorem cells321 : Tryz.prog.cellsOf 321 = 24 := by kernel_rfl
theorem cells22 : Tryz.prog.cellsOf 22 = 1 := by kernel_rfl
theorem cells3 : Tryz.prog.cellsOf 3 = 1 := by kernel_rfl
theorem cells200 : Tryz.prog.cellsOf 200 = 7 := by kernel_rfl
theorem cells2 : Tryz.prog.cellsOf 2 = 1 := by kernel_rfl
theorem cells96 : Tryz.prog.cellsOf 96 = 6 := by kernel_rfl
theorem cells4 : Tryz.prog.cellsOf 4 = 1 := by kernel_rfl
theorem tables {W : World} (h : laidMetH Tryz.prog Rows.honestAsksRow.laid W) :
 Lib.TabIs Tryz.prog W "moot/keccak.rounds" .u64 rounds ∧ Lib.TabIs Tryz.prog W "moot/keccak.lanes" .i64 lanes ∧ Lib.TabIs Tryz.prog W "moot/keccak.turns" .i64 turns := by
 have h' : laidMet Tryz.prog [("moot/keccak.rounds", Lib.tabData .u64 rounds), ("moot/keccak.lanes", Lib.tabData .i64 lanes), ("moot/keccak.turns", Lib.tabData .i64 turns)] W := h
 exact ⟨Lib.tabIs_of_head g1 t1 Tryz.underlying318 Tryz.underlying22 cells22 cells318 h', Lib.tabIs_of_head g2 t2 Tryz.underlying321 Tryz.underlying3 cells3 cells321 h'.tail, Lib.tabIs_of_head g3 t3 Tryz.underlying321 Tryz.underlying3 cells3 cells321 h'.tail.tail⟩
theorem start_tables {W : World} (h : laidMetH Tryz.prog Rows.honestAsksRow.laid W) : GS st (Kd st W) := by
 obtain ⟨h1, h2, h3⟩ := tables h
 refine ⟨fun g hg => ?_, fun p hp => by cases hp⟩
 have hg' : g = 1 ∨ g = 2 ∨ g = 3 := by simpa [st] using hg
 rcases hg' with rfl | rfl | rfl
 ·exact Acl (M := st) h1 g1 (by decide)
 ·exact Acl (M := st) h2 g2 (by decide)
 ·exact Acl (M := st) h3 g3 (by decide)
theorem argsN {e : Env} {u0 u1 u2 u3 u4 : V} {v0 v1 v2 v3 v4 : Value} (h0 : RV e u0 v0) (h1 : RV e u1 v1) (h2 : RV e u2 v2) (h3 : RV e u3 v3) (h4 : RV e u4 v4) : Rc e [u0, u1, u2, u3, u4] #[v0, v1, v2, v3, v4] := by
 refine ⟨rfl, fun i => ?_⟩
 match i with
 | 0 => exact h0
 | 1 => exact h1
 | 2 => exact h2
 | 3 => exact h3
 | 4 => exact h4
 | i + 5 => exact trivial
theorem trodN {H : Type} {enc : TypeId × Value → H} {P : Program} {w : World} {base : Nat} {spare : Nat → Bool} {held : Bool} {t0 t1 t2 t3 t4 : TypeId} {args : Array Value} {ds : List (DataW H)} {ps : List MemPlace}
 (h : DataW.TrodAll enc P w base spare held [t0, t1, t2, t3, t4] args.toList ds ps) :
 ∃ v0 v1 v2 v3 v4 d0 d1 d2 d3 d4 p0 p1 p2 p3 p4, args = #[v0, v1, v2, v3, v4] ∧ ds = [d0, d1, d2, d3, d4] ∧ ps = p0 ++ (p1 ++ (p2 ++ (p3 ++ p4))) ∧ DataW.Trod enc P w base spare held t0 v0 d0 p0 ∧
  DataW.Trod enc P w base spare held t1 v1 d1 p1 ∧
  DataW.Trod enc P w base spare held t2 v2 d2 p2 ∧
  DataW.Trod enc P w base spare held t3 v3 d3 p3 ∧
  DataW.Trod enc P w base spare held t4 v4 d4 p4 := by
 obtain ⟨v0, vs0, d0, ds0, p0, q0, ha, rfl, rfl, h0, hr0⟩ := trodAll_cons h
 obtain ⟨v1, vs1, d1, ds1, p1, q1, rfl, rfl, rfl, h1, hr1⟩ := trodAll_cons hr0
 obtain ⟨v2, vs2, d2, ds2, p2, q2, rfl, rfl, rfl, h2, hr2⟩ := trodAll_cons hr1
 obtain ⟨v3, vs3, d3, ds3, p3, q3, rfl, rfl, rfl, h3, hr3⟩ := trodAll_cons hr2
 obtain ⟨v4, vs4, d4, ds4, p4, q4, rfl, rfl, rfl, h4, hr4⟩ := trodAll_cons hr3
 obtain ⟨rfl, rfl, rfl⟩ := trodAll_nil hr4
 exact ⟨v0, v1, v2, v3, v4, d0, d1, d2, d3, d4, p0, p1, p2, p3, p4, by cases args; simp_all, rfl, by simp, h0, h1, h2, h3, h4⟩
theorem trodMk {H : Type} {enc : TypeId × Value → H} {P : Program} {w : World} {base : Nat} {spare : Nat → Bool} {held : Bool} {t0 t1 t2 t3 t4 : TypeId} {v0 v1 v2 v3 v4 : Value} {d0 d1 d2 d3 d4 : DataW H} {p0 p1 p2 p3 p4 : List MemPlace}
 (h0 : DataW.Trod enc P w base spare held t0 v0 d0 p0) (h1 : DataW.Trod enc P w base spare held t1 v1 d1 p1) (h2 : DataW.Trod enc P w base spare held t2 v2 d2 p2) (h3 : DataW.Trod enc P w base spare held t3 v3 d3 p3) (h4 : DataW.Trod enc P w base spare held t4 v4 d4 p4) :
 DataW.TrodAll enc P w base spare held [t0, t1, t2, t3, t4] [v0, v1, v2, v3, v4] [d0, d1, d2, d3, d4] (p0 ++ (p1 ++ (p2 ++ (p3 ++ p4)))) := by
 exact ⟨p0, _, h0, ⟨p1, _, h1, trodAll_mk3 h2 h3 h4, rfl⟩, rfl⟩
theorem contract (H : Type) (enc : TypeId × Value → H) (W : World) (base : Nat) (args : Array Value) (ds gs : List (DataW H)) (before : List MemPlace)
 (hval : ∀ (j : Nat) t v, Tryz.f6.params[j]? = some t → args[j]? = some v → Value.okWide Tryz.prog W .any base t v)
 (hW : DataW.Whole enc Tryz.prog Tryz.f6.params.toList Rows.honestAsksSpec.vars false W args.toList ds gs before) (hL : laidMetH Tryz.prog Rows.honestAsksRow.laid W) :
 Calls Tryz.prog 6 args W fun e W' => ∃ v, e = .returned v ∧ Rows.honestAsksSpec.post enc Tryz.prog Tryz.f6 false true false false W args v W' := by
 have hW' := hW
 obtain ⟨p, q, hA0, hV, rfl, hfz, hnd⟩ := hW
 have hA : DataW.TrodAll enc Tryz.prog W 0 (fun _ => true) true Tryz.f6.params.toList args.toList ds p := hA0
 rw [Tryz.params6] at hA hval
 obtain ⟨v0, v1, v2, v3, v4, d0, d1, d2, d3, d4, p0, p1, p2, p3, p4, rfl, rfl, rfl, h0, h1, h2, h3, h4⟩ := trodN hA
 obtain ⟨rfl, rfl⟩ := trodVars_none hV
 clear hA0
 simp only [List.append_nil] at hW'
 obtain ⟨a0, b0, c0, l0, r0⟩ := Agc (M := st) Tryz.underlying70 Tryz.underlying200 cells200 ⟨rfl, rfl, rfl, rfl, rfl, rfl, rfl⟩ Tryz.underlying3 Tryz.underlying3 Tryz.underlying3 Tryz.underlying3 Tryz.underlying3 Tryz.underlying2 Tryz.underlying22 cells3 cells3 cells3 cells3 cells3 cells2 cells22 (hval 0 70 v0 rfl rfl) h0
 obtain ⟨a1, w1, r1⟩ := Oq (M := st) Tryz.underlying3 (hval 1 3 v1 rfl rfl) h1
 obtain ⟨a2, w2, r2⟩ := Oq (M := st) Tryz.underlying3 (hval 2 3 v2 rfl rfl) h2
 obtain ⟨n3, a3, b3, l3, m3, r3⟩ := Afj (M := st) Tryz.underlying93 Tryz.underlying96 cells96 ⟨rfl, rfl, rfl, rfl, rfl, rfl⟩ Tryz.underlying3 Tryz.underlying3 Tryz.underlying3 Tryz.underlying4 Tryz.underlying4 Tryz.underlying22 cells3 cells3 cells3 cells4 cells4 cells22 (hval 3 93 v3 rfl rfl) h3
 obtain ⟨a4, w4, r4⟩ := Oq (M := st) Tryz.underlying3 (hval 4 3 v4 rfl rfl) h4
 refine (Wx (M := st) (Kb okHw Aji Akf a0 b0 c0 l0 a1 a2 n3 a3 b3 l3 m3 a4) W (start_tables hL) (argsN r0 r1 r2 r3 r4)).mono fun e W' he => ?_
 obtain ⟨x, v, H', k', e', rfl, hv, ⟨rfl, _, _⟩, hb⟩ := he
 have hx : x = .bool true := by simpa [RV, RS, V.isAgg, R] using hv
 subst hx
 have hlt0 : ∀ y ∈ p0, y.block < W.heap.size := fun y hy => hW'.lt y (by simp [hy])
 have hlt1 : ∀ y ∈ p1, y.block < W.heap.size := fun y hy => hW'.lt y (by simp [hy])
 have hlt2 : ∀ y ∈ p2, y.block < W.heap.size := fun y hy => hW'.lt y (by simp [hy])
 have hlt3 : ∀ y ∈ p3, y.block < W.heap.size := fun y hy => hW'.lt y (by simp [hy])
 have hlt4 : ∀ y ∈ p4, y.block < W.heap.size := fun y hy => hW'.lt y (by simp [hy])
 refine ⟨_, rfl, [d0, d1, d2, d3, d4], [], p0 ++ (p1 ++ (p2 ++ (p3 ++ p4))), [], p0 ++ (p1 ++ (p2 ++ (p3 ++ p4))), [], hW', ?_, ?_, rfl, hb.frame _, fun h => by cases h⟩
 ·exact trodAll_cons_mk (shut_bool Tryz.underlying4 true) trodAll_mk0
 ·rw [Tryz.params6]
  exact trodMk (Below.trod laidOut (by kernel_rfl) (of_decide_eq_true (by kernel_rfl)) h0 hb hlt0) (Below.trod laidOut (by kernel_rfl) (of_decide_eq_true (by kernel_rfl)) h1 hb hlt1) (Below.trod laidOut (by kernel_rfl) (of_decide_eq_true (by kernel_rfl)) h2 hb hlt2) (Below.trod laidOut (by kernel_rfl) (of_decide_eq_true (by kernel_rfl)) h3 hb hlt3) (Below.trod laidOut (by kernel_rfl) (of_decide_eq_true (by kernel_rfl)) h4 hb hlt4)
noncomputable def laidWorld (os : Os) : World :=
 { World.holding Tryz.prog os ⟨#[], #[], []⟩ with heap := ((((World.holding Tryz.prog os ⟨#[], #[], []⟩).heap.modify 3 fun
  | .cells _ t frozen => .cells (rounds.map fun z => Value.int .u64 z).toArray t frozen
  | o => o).modify 4 fun
  | .cells _ t frozen => .cells (lanes.map fun z => Value.int .i64 z).toArray t frozen
  | o => o).modify 5 fun
  | .cells _ t frozen => .cells (turns.map fun z => Value.int .i64 z).toArray t frozen
  | o => o) }
def wargs : Array Value := #[.slice none 0 0, .int .i64 0, .int .i64 0, .slice none 0 0, .int .i64 0]
theorem laid_met (os : Os) : laidMet Tryz.prog Rows.honestAsksRow.laid ((laidWorld os).forCall (fun _ _ => 0) ⟨#[], wargs, []⟩).memory :=
 laidMet_of_run' 8 (by kernel_rfl) (by kernel_rfl)
theorem reads (os : Os) {H : Type} (enc : TypeId × Value → H) : ∃ ds places, DataW.whole enc Tryz.prog ((laidWorld os).forCall (fun _ _ => 0) ⟨#[], wargs, []⟩).memory Tryz.f6.params.toList Rows.honestAsksSpec.vars false wargs.toList 8 = some (ds, [], places) :=
 ⟨[.nil, .lit (.int .i64 0), .lit (.int .i64 0), .nil, .lit (.int .i64 0)], [], by kernel_rfl⟩
theorem lifted (os : Os) (started : os.Started) (H : Type) (enc : TypeId × Value → H) (F : Stop.Interp) :
 ReturnsInHanded {} Tryz.checked os 6 .any ((OpenSpec.ofChange Rows.honestAsksSpec).preRow enc Tryz.prog Tryz.f6 Rows.honestAsksRow.domain false Rows.honestAsksRow.laid) (((OpenSpec.ofChange Rows.honestAsksSpec).at F).post enc Tryz.prog Tryz.f6 false true false false) := by
 obtain ⟨ds, places, hx⟩ := reads os enc
 refine returnsInHanded_of_row (C := Tryz.checked) (s := OpenSpec.ofChange Rows.honestAsksSpec) own started (by kernel_rfl) Tryz.func6
  (witness_row_at (enc := enc) (C := Tryz.checked) false (laidWorld os) wargs rfl (by kernel_rfl) (by kernel_rfl) (by kernel_rfl)
   (OpenSpec.preRow_of_cond 8 hx (by kernel_rfl) (fun k hk => by cases hk) (by kernel_rfl) (laid_met os))) ?_
 intro W base args ds gs before hval hW _ _ _ hL _ _
 exact contract H enc W base args ds gs before hval hW hL
theorem said : Rows.HonestAsksSaid :=
 OpenClaim.holds_of_cond 6 Tryz.f6 rfl rfl rfl rfl rfl rfl rfl ⟨rfl, rfl, rfl, rfl, rfl⟩ rfl rfl rfl rfl rfl (by kernel_rfl) Tryz.func6 (by kernel_rfl)
  (of_decide_eq_true (by kernel_rfl)) (by unfold Func.isWrapper; first | (rw [if_pos (by decide +kernel)]; kernel_rfl) | (rw [if_neg (by decide +kernel)]; exact ⟨rfl, rfl⟩))
  (fun os started H enc _ F => by rw [OpenClaim.pre_eq_preRow]; exact lifted os started H enc F)
theorem plain (f : FuncId) (fn : Func) (hf : Tryz.pinned.checked.prog.funcNamed "moot/mootlaw20.HonestAsks" = some f) (hfn : Tryz.pinned.checked.prog.funcs[f]? = some fn) :
 true = Tryz.pinned.checked.prog.looks [] ∧ ∀ (j : Nat) t, fn.params[j]? = some t → Tryz.pinned.checked.prog.wantsStandIn t = false := by
 obtain rfl : f = 6 := Option.some.inj ((show Tryz.prog.funcNamed "moot/mootlaw20.HonestAsks" = some 6 by kernel_rfl).symm.trans hf) |>.symm
 obtain rfl : fn = Tryz.f6 := (Option.some.inj (Tryz.func6.symm.trans hfn)).symm
 refine ⟨by kernel_rfl, fun j t ht => ?_⟩
 rw [Tryz.params6] at ht
 have : t = 70 ∨ t = 3 ∨ t = 93 := by have := Array.mem_of_getElem? ht; simp at this; first | exact this | omega | (rcases this with h | h | h | h | h <;> subst h <;> simp) | (rcases this with h | h | h | h <;> subst h <;> simp) | (rcases this with h | h | h <;> subst h <;> simp) | (rcases this with h | h <;> subst h <;> simp)
 rcases this with rfl | rfl | rfl
 ·exact (show Tryz.prog.wantsStandIn 70 = false by kernel_rfl)
 ·exact (show Tryz.prog.wantsStandIn 3 = false by kernel_rfl)
 ·exact (show Tryz.prog.wantsStandIn 93 = false by kernel_rfl)
theorem card : Rows.HonestAsksCardSaid :=
 Claim7.holds_tied_plain_at .later [] _ _ _ _ said (fun _ h => by cases h) (by kernel_rfl) (fun _ h => by cases h) honestAsks_row_tie rfl ⟨rfl, rfl⟩ (by kernel_rfl) rfl plain (by kernel_rfl)
end Go.Proofs.YtlfkjfonpacelaaGreatDoor
