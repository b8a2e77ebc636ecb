/- Proved: Rows.RollupNilCardSaid: for every input mootlaw21.RollupNil returns true, and each argument reads afterwards as it read before. Conditions: none beyond those of the given card and its row. -/
import Derived.Test.YtgeionenpaopaaaGreatDoorBU
import Derived.Test.YtgeionenpaopaaaGreatDoorCards
import Derived.Test.YtgeionenpaopaaaGreatDoorTie
import Derived.WalkKit
import Derived.ProofKit
import Derived.OpenShut
import Derived.Deep.DeepHandedRow
import Derived.Lib.LaidTab
import Derived.Stop.LaidErr
set_option linter.all false
set_option maxRecDepth 100000
namespace Mv
open Go Go.ChangeShapes Go.WideShapes

theorem u8_of {n : Int} (h : (Lit.int .u8 n).wf = true) : ∃ w : BitVec 8, n = (w.toNat : Int) := by
  have hb : 0 ≤ n ∧ n ≤ 255 := by simpa [Lit.wf, IntKind.min, IntKind.max, IntKind.signed, IntKind.bits] using h
  refine ⟨BitVec.ofNat 8 n.toNat, ?_⟩
  rw [BitVec.toNat_ofNat, Nat.mod_eq_of_lt (by omega)]
  omega
theorem dig_arg {H : Type} {enc : TypeId × Value → H} {M : Seat} {W : World} {t e : TypeId} {v : Value} {d : DataW H} {ps : List MemPlace} (ht : M.P.underlying t = some (.array 32 e)) (he : M.P.underlying e = some (.int .u8)) (ce : M.P.cellsOf e = 1) (ct : M.P.cellsOf t = 32)
    {base : Nat} (hok : Value.okWide M.P W .any base t v) (h : DataW.Trod enc M.P W 0 (fun _ => true) true t v d ps) : ∃ g : Dg, RV (Kb M W) (dg g) v := by
  simp only [Value.okWide, ht] at hok
  obtain ⟨cs, rfl, hsz, _⟩ := hok
  obtain ⟨n, hn⟩ := h
  obtain ⟨xs, m, _, _, hl, hxl, hf⟩ := DataW.trod_array ht hn
  rw [ct] at hl
  have hcc : (Value.agg cs).cells.toList = cs.toList := by simp [Value.cells]
  rw [hcc] at hl hf
  have hz : ∀ i, i < 32 → ∃ c : BitVec 8, cs.toList[i]? = some (.int .u8 (c.toNat : Int)) := by
    intro i hi
    have g0 := hf i hi
    rw [ce, Nat.mul_one] at g0
    have hx : ∃ y, xs[i]? = some y := ⟨xs[i]'(by omega), by simp [hxl, hi]⟩
    obtain ⟨y, hy⟩ := hx
    rw [hy] at g0
    obtain ⟨z0, e0, _, w0⟩ := DataW.trod_int he g0
    obtain ⟨b0, rfl⟩ := u8_of w0
    refine ⟨b0, ?_⟩
    have := congrArg (fun l => l[0]?) e0
    simpa [List.getElem?_take, List.getElem?_drop] using this
  obtain ⟨g, hg⟩ := Deep.choose_lt hz
  refine ⟨Dg.mk' g, ?_⟩
  simp only [RV, RS, V.isAgg, R, dg]
  refine ⟨cs.toList, by simp, by rw [Nat.mul_one]; exact hl, fun i hi => ⟨⟨rfl, rfl⟩, ?_⟩⟩
  rw [Nat.mul_one]
  have e1 : (cs.toList.drop i).take 1 = [.int .u8 ((g i).toNat : Int)] := by
    apply List.ext_getElem?
    intro j
    match j with
    | 0 => simpa [List.getElem?_take, List.getElem?_drop] using hg i hi
    | j + 1 => simp [List.getElem?_take]
  rw [e1, Dg.at_mk' _ _ hi]
  simp [Mv.B, R]
end Mv
namespace Go.Proofs.YtgeionenpaopaaaGreatDoor
open Go Mv Go.ChangeShapes Go.WideShapes Go.ChangeAt Go.RowKit
theorem own : ownKnob Tryz.prog.godebug = none := by kernel_rfl
theorem laidOut : laidOutB Tryz.prog = true := by kernel_rfl
theorem g1 : Tryz.prog.globalNamed "moot/keccak.rounds" = some 1 := by kernel_rfl
theorem t1 : (Tryz.prog.globals[1]?).map (·.type) = some 333 := by kernel_rfl
theorem g2 : Tryz.prog.globalNamed "moot/keccak.lanes" = some 2 := by kernel_rfl
theorem t2 : (Tryz.prog.globals[2]?).map (·.type) = some 335 := by kernel_rfl
theorem g3 : Tryz.prog.globalNamed "moot/keccak.turns" = some 3 := by kernel_rfl
theorem t3 : (Tryz.prog.globals[3]?).map (·.type) = some 335 := by kernel_rfl
theorem cells333 : Tryz.prog.cellsOf 333 = 24 := by kernel_rfl
theorem cells335 : Tryz.prog.cellsOf 335 = 24 := by kernel_rfl
theorem cells28 : Tryz.prog.cellsOf 28 = 1 := by kernel_rfl
theorem cells3 : Tryz.prog.cellsOf 3 = 1 := by kernel_rfl
theorem cells22 : Tryz.prog.cellsOf 22 = 32 := by kernel_rfl
theorem cells5 : Tryz.prog.cellsOf 5 = 1 := by kernel_rfl
theorem tables {W : World} (h : laidMetH Tryz.prog Rows.rollupNilRow.laid W) :
 Lib.TabIs Tryz.prog W "moot/keccak.rounds" .u64 rounds ∧ Lib.TabIs Tryz.prog W "moot/keccak.lanes" .i64 lanes ∧ Lib.TabIs Tryz.prog W "moot/keccak.turns" .i64 turns := by
 have h' : laidMet Tryz.prog [("moot/keccak.rounds", Lib.tabData .u64 rounds), ("moot/keccak.lanes", Lib.tabData .i64 lanes), ("moot/keccak.turns", Lib.tabData .i64 turns)] W := h
 exact ⟨Lib.tabIs_of_head g1 t1 Tryz.underlying333 Tryz.underlying28 cells28 cells333 h', Lib.tabIs_of_head g2 t2 Tryz.underlying335 Tryz.underlying3 cells3 cells335 h'.tail, Lib.tabIs_of_head g3 t3 Tryz.underlying335 Tryz.underlying3 cells3 cells335 h'.tail.tail⟩
theorem start_tables {W : World} (h : laidMetH Tryz.prog Rows.rollupNilRow.laid W) : GS st (Kb st W) := by
 obtain ⟨h1, h2, h3⟩ := tables h
 refine ⟨fun g hg => ?_, fun p hp => by cases hp⟩
 have hg' : g = 1 ∨ g = 2 ∨ g = 3 := by
  have h2 : g ∈ ([1, 2, 3] : List Nat) := hg
  simpa using h2
 rcases hg' with rfl | rfl | rfl
 ·exact Zc (M := st) h1 g1 (by decide)
 ·exact Zc (M := st) h2 g2 (by decide)
 ·exact Zc (M := st) h3 g3 (by decide)
theorem argsN {e : Env} {u0 u1 : V} {v0 v1 : Value} (h0 : RV e u0 v0) (h1 : RV e u1 v1) : Ob e [u0, u1] #[v0, v1] := by
 refine ⟨rfl, fun i => ?_⟩
 match i with
 | 0 => exact h0
 | 1 => exact h1
 | i + 2 => exact trivial
theorem trodN {H : Type} {enc : TypeId × Value → H} {P : Program} {w : World} {base : Nat} {spare : Nat → Bool} {held : Bool} {t0 t1 : TypeId} {args : Array Value} {ds : List (DataW H)} {ps : List MemPlace}
 (h : DataW.TrodAll enc P w base spare held [t0, t1] args.toList ds ps) :
 ∃ v0 v1 d0 d1 p0 p1, args = #[v0, v1] ∧ ds = [d0, d1] ∧ ps = p0 ++ p1 ∧ DataW.Trod enc P w base spare held t0 v0 d0 p0 ∧
  DataW.Trod enc P w base spare held t1 v1 d1 p1 := by
 obtain ⟨v0, vs0, d0, ds0, p0, q0, ha, rfl, rfl, h0, hr0⟩ := trodAll_cons h
 obtain ⟨v1, vs1, d1, ds1, p1, q1, rfl, rfl, rfl, h1, hr1⟩ := trodAll_cons hr0
 obtain ⟨rfl, rfl, rfl⟩ := trodAll_nil hr1
 exact ⟨v0, v1, d0, d1, p0, p1, by cases args; simp_all, rfl, by simp, h0, h1⟩
theorem trodMk {H : Type} {enc : TypeId × Value → H} {P : Program} {w : World} {base : Nat} {spare : Nat → Bool} {held : Bool} {t0 t1 : TypeId} {v0 v1 : Value} {d0 d1 : DataW H} {p0 p1 : List MemPlace}
 (h0 : DataW.Trod enc P w base spare held t0 v0 d0 p0) (h1 : DataW.Trod enc P w base spare held t1 v1 d1 p1) :
 DataW.TrodAll enc P w base spare held [t0, t1] [v0, v1] [d0, d1] (p0 ++ p1) := by
 exact trodAll_mk2 h0 h1
theorem contract (H : Type) (enc : TypeId × Value → H) (W : World) (base : Nat) (args : Array Value) (ds gs : List (DataW H)) (before : List MemPlace)
 (hval : ∀ (j : Nat) t v, Tryz.f3.params[j]? = some t → args[j]? = some v → Value.okWide Tryz.prog W .any base t v)
 (hW : DataW.Whole enc Tryz.prog Tryz.f3.params.toList Rows.rollupNilSpec.vars false W args.toList ds gs before) (hL : laidMetH Tryz.prog Rows.rollupNilRow.laid W) :
 Calls Tryz.prog 3 args W fun e W' => ∃ v, e = .returned v ∧ Rows.rollupNilSpec.post enc Tryz.prog Tryz.f3 false true false false W args v W' := by
 have hW' := hW
 obtain ⟨p, q, hA0, hV, rfl, hfz, hnd⟩ := hW
 have hA : DataW.TrodAll enc Tryz.prog W 0 (fun _ => true) true Tryz.f3.params.toList args.toList ds p := hA0
 rw [Tryz.params3] at hA hval
 obtain ⟨v0, v1, d0, d1, p0, p1, rfl, rfl, rfl, h0, h1⟩ := trodN hA
 obtain ⟨rfl, rfl⟩ := trodVars_none hV
 clear hA0
 simp only [List.append_nil] at hW'
 obtain ⟨a0, w0, r0⟩ := Afo (M := st) Tryz.underlying3 (hval 0 3 v0 rfl rfl) h0
 obtain ⟨a1, r1⟩ := dig_arg (M := st) Tryz.underlying22 Tryz.underlying5 cells5 cells22 (hval 1 22 v1 rfl rfl) h1
 refine (TB (M := st) (Ari okRn a0 a1) W (start_tables hL) (argsN r0 r1)).mono fun e W' he => ?_
 obtain ⟨x, v, H', k', e', rfl, hv, ⟨rfl, _, _⟩, hb⟩ := he
 have hx : x = .bool true := by simpa [RV, RS, V.isAgg, R] using hv
 subst hx
 have hlt0 : ∀ y ∈ p0, y.block < W.heap.size := fun y hy => hW'.lt y (by simp [hy])
 have hlt1 : ∀ y ∈ p1, y.block < W.heap.size := fun y hy => hW'.lt y (by simp [hy])
 refine ⟨_, rfl, [d0, d1], [], p0 ++ p1, [], p0 ++ p1, [], hW', ?_, ?_, rfl, hb.frame _, fun h => by cases h⟩
 ·exact trodAll_cons_mk (shut_bool Tryz.underlying4 true) trodAll_mk0
 ·rw [Tryz.params3]
  exact trodMk (Below.trod laidOut (by kernel_rfl) (of_decide_eq_true (by kernel_rfl)) h0 hb hlt0) (Below.trod laidOut (by kernel_rfl) (of_decide_eq_true (by kernel_rfl)) h1 hb hlt1)
noncomputable def laidWorld (os : Os) : World :=
 { World.holding Tryz.prog os ⟨#[], #[], []⟩ with heap := ((((World.holding Tryz.prog os ⟨#[], #[], []⟩).heap.modify 1 fun
  | .cells _ t frozen => .cells (rounds.map fun z => Value.int .u64 z).toArray t frozen
  | o => o).modify 2 fun
  | .cells _ t frozen => .cells (lanes.map fun z => Value.int .i64 z).toArray t frozen
  | o => o).modify 3 fun
  | .cells _ t frozen => .cells (turns.map fun z => Value.int .i64 z).toArray t frozen
  | o => o) }
def wargs : Array Value := #[.int .i64 0, .agg #[.int .u8 0, .int .u8 0, .int .u8 0, .int .u8 0, .int .u8 0, .int .u8 0, .int .u8 0, .int .u8 0, .int .u8 0, .int .u8 0, .int .u8 0, .int .u8 0, .int .u8 0, .int .u8 0, .int .u8 0, .int .u8 0, .int .u8 0, .int .u8 0, .int .u8 0, .int .u8 0, .int .u8 0, .int .u8 0, .int .u8 0, .int .u8 0, .int .u8 0, .int .u8 0, .int .u8 0, .int .u8 0, .int .u8 0, .int .u8 0, .int .u8 0, .int .u8 0]]
theorem laid_met (os : Os) : laidMet Tryz.prog Rows.rollupNilRow.laid ((laidWorld os).forCall (fun _ _ => 0) ⟨#[], wargs, []⟩).memory :=
 laidMet_of_run' 8 (by kernel_rfl) (by kernel_rfl)
theorem reads (os : Os) {H : Type} (enc : TypeId × Value → H) : ∃ ds places, DataW.whole enc Tryz.prog ((laidWorld os).forCall (fun _ _ => 0) ⟨#[], wargs, []⟩).memory Tryz.f3.params.toList Rows.rollupNilSpec.vars false wargs.toList 8 = some (ds, [], places) :=
 ⟨[.lit (.int .i64 0), .agg [.lit (.int .u8 0), .lit (.int .u8 0), .lit (.int .u8 0), .lit (.int .u8 0), .lit (.int .u8 0), .lit (.int .u8 0), .lit (.int .u8 0), .lit (.int .u8 0), .lit (.int .u8 0), .lit (.int .u8 0), .lit (.int .u8 0), .lit (.int .u8 0), .lit (.int .u8 0), .lit (.int .u8 0), .lit (.int .u8 0), .lit (.int .u8 0), .lit (.int .u8 0), .lit (.int .u8 0), .lit (.int .u8 0), .lit (.int .u8 0), .lit (.int .u8 0), .lit (.int .u8 0), .lit (.int .u8 0), .lit (.int .u8 0), .lit (.int .u8 0), .lit (.int .u8 0), .lit (.int .u8 0), .lit (.int .u8 0), .lit (.int .u8 0), .lit (.int .u8 0), .lit (.int .u8 0), .lit (.int .u8 0)]], [], by kernel_rfl⟩
theorem lifted (os : Os) (started : os.Started) (H : Type) (enc : TypeId × Value → H) (F : Stop.Interp) :
 ReturnsInHanded {} Tryz.checked os 3 .any ((OpenSpec.ofChange Rows.rollupNilSpec).preRow enc Tryz.prog Tryz.f3 Rows.rollupNilRow.domain false Rows.rollupNilRow.laid) (((OpenSpec.ofChange Rows.rollupNilSpec).at F).post enc Tryz.prog Tryz.f3 false true false false) := by
 obtain ⟨ds, places, hx⟩ := reads os enc
 refine returnsInHanded_of_row (C := Tryz.checked) (s := OpenSpec.ofChange Rows.rollupNilSpec) own started (by kernel_rfl) Tryz.func3
  (witness_row_at (enc := enc) (C := Tryz.checked) false (laidWorld os) wargs rfl (by kernel_rfl) (by kernel_rfl) (by kernel_rfl)
   (OpenSpec.preRow_of_cond 8 hx (by kernel_rfl) (fun k hk => by cases hk) (by kernel_rfl) (laid_met os))) ?_
 intro W base args ds gs before hval hW _ _ _ hL _ _
 exact contract H enc W base args ds gs before hval hW hL
theorem said : Rows.RollupNilSaid :=
 OpenClaim.holds_of_cond 3 Tryz.f3 rfl rfl rfl rfl rfl rfl rfl ⟨rfl, rfl, rfl, rfl, rfl⟩ rfl rfl rfl rfl rfl (by kernel_rfl) Tryz.func3 (by kernel_rfl)
  (of_decide_eq_true (by kernel_rfl)) (by unfold Func.isWrapper; first | (rw [if_pos (by decide +kernel)]; kernel_rfl) | (rw [if_neg (by decide +kernel)]; exact ⟨rfl, rfl⟩))
  (fun os started H enc _ F => by rw [OpenClaim.pre_eq_preRow]; exact lifted os started H enc F)
theorem plain (f : FuncId) (fn : Func) (hf : Tryz.pinned.checked.prog.funcNamed "moot/mootlaw21.RollupNil" = some f) (hfn : Tryz.pinned.checked.prog.funcs[f]? = some fn) :
 true = Tryz.pinned.checked.prog.looks [] ∧ ∀ (j : Nat) t, fn.params[j]? = some t → Tryz.pinned.checked.prog.wantsStandIn t = false := by
 obtain rfl : f = 3 := Option.some.inj ((show Tryz.prog.funcNamed "moot/mootlaw21.RollupNil" = some 3 by kernel_rfl).symm.trans hf) |>.symm
 obtain rfl : fn = Tryz.f3 := (Option.some.inj (Tryz.func3.symm.trans hfn)).symm
 refine ⟨by kernel_rfl, fun j t ht => ?_⟩
 rw [Tryz.params3] at ht
 have : t = 3 ∨ t = 22 := by have := Array.mem_of_getElem? ht; simp at this; first | exact this | omega | (rcases this with h | h <;> subst h <;> simp)
 rcases this with rfl | rfl
 ·exact (show Tryz.prog.wantsStandIn 3 = false by kernel_rfl)
 ·exact (show Tryz.prog.wantsStandIn 22 = false by kernel_rfl)
theorem card : Rows.RollupNilCardSaid :=
 Claim7.holds_tied_plain_at .later [] _ _ _ _ said (fun _ h => by cases h) (by kernel_rfl) (fun _ h => by cases h) rollupNil_row_tie rfl ⟨rfl, rfl⟩ (by kernel_rfl) rfl plain (by kernel_rfl)
end Go.Proofs.YtgeionenpaopaaaGreatDoor
