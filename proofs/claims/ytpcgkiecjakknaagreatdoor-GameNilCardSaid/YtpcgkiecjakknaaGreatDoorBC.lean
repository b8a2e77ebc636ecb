/- A part. -/
import Derived.Test.YtpcgkiecjakknaaGreatDoorBB
import Derived.Test.YtpcgkiecjakknaaGreatDoorChecked
import Derived.WalkKit
import Derived.LaidEql
import Derived.Stop.Asserts
import Derived.RowKitTokens
import Derived.Test.YtpcgkiecjakknaaGreatDoorRows
import Derived.KernelRfl
set_option linter.all false
set_option maxRecDepth 200000
namespace Go.Proofs.YtpcgkiecjakknaaGreatDoor
open Go Go.RowKit Go.Extern.Stop Go.Stop Go.Extern

theorem isTypeOf (v : Value) (w : World) : (Extern.ReflectliteType.typeOf #[.iface 55 v]).run Tryz.prog w = .ok (.iface 198 (.agg #[.pointer (some ⟨6, 55, none⟩)])) w := by kernel_rfl
/-- What the model has for Comparable. -/
def cmpM : Array Value → Sem Value := Extern.ReflectliteType.method fun t => do Extern.Rtype.noPackHeld "Comparable" t; pure (.bool (← typeInfo t).comparable)
theorem isComparable (w : World) : (cmpM #[.agg #[.pointer (some ⟨6, 55, none⟩)]]).run Tryz.prog w = .ok (.bool true) w := by kernel_rfl
theorem isMethod (v : Value) (w : World) : (Go.method 471 198 v "Comparable").run Tryz.prog w = .ok (204, v) w := by kernel_rfl
theorem noIs (v : Value) (xT : TypeId) (w : World) : (Instr.typeAssert (.iface 55 v) xT 200 true).run Tryz.prog w = .ok (.tuple #[.nilIface, .bool false]) w := run_typeAssert_lacksB Tryz.underlying200 (by kernel_rfl) (by kernel_rfl) v xT w
theorem noUnwrap (v : Value) (xT : TypeId) (w : World) : (Instr.typeAssert (.iface 55 v) xT 203 true).run Tryz.prog w = .ok (.tuple #[.nilIface, .bool false]) w := run_typeAssert_lacksB Tryz.underlying203 (by kernel_rfl) (by kernel_rfl) v xT w
theorem noUnwraps (v : Value) (xT : TypeId) (w : World) : (Instr.typeAssert (.iface 55 v) xT 205 true).run Tryz.prog w = .ok (.tuple #[.nilIface, .bool false]) w := run_typeAssert_lacksB Tryz.underlying205 (by kernel_rfl) (by kernel_rfl) v xT w
theorem isComp : (Tryz.prog.info? 55).map (·.comparable) = some true := by kernel_rfl

theorem eql_errno (a b : Int) (w : World) : (binOp .eql 25 (.iface 55 (.int .i64 a)) (.iface 55 (.int .i64 b))).run Tryz.prog w = .ok (.bool (decide (a = b))) w := by
  obtain ⟨i, hi, hcmp⟩ := Option.map_eq_some_iff.1 isComp
  have h1 : ∀ d : Nat, (Op.equalIn (d + 1) 55 (.int .i64 a) (.int .i64 b)).run Tryz.prog w = .ok (decide (a = b)) w := fun d => by
    simp only [Op.equalIn, Sem.run_bind, run_underlying Tryz.underlying55, Result.andThen_ok, if_true, Sem.run_pure]
    congr 1
  have h : ∀ d : Nat, (Op.equalIn (d + 2) 25 (.iface 55 (.int .i64 a)) (.iface 55 (.int .i64 b))).run Tryz.prog w = .ok (decide (a = b)) w := fun d => by
    have := h1 d
    simp [Op.equalIn, run_underlying Tryz.underlying25, typeInfo, hi, hcmp] at this ⊢
    exact this
  simp only [binOp]
  simp [Op.equal, Op.maxDepth, h 9998]

theorem is_errno' (a b : Int) (c : Bool) (hc : decide (a = b) = c) (w : World) :
    Calls Tryz.prog 16 #[.iface 55 (.int .i64 a), .iface 55 (.int .i64 b)] w fun e w' => e = .returned (.bool c) ∧ w' = w := by
  have h8 := @run_callFunc_extern Tryz.prog 51 _ Extern.ReflectliteType.typeOf Tryz.func51 (by kernel_rfl) (by kernel_rfl) (by kernel_rfl) (by kernel_rfl)
  have h32 := @run_callFunc_extern Tryz.prog 204 _ cmpM Tryz.func204 (by kernel_rfl) (by kernel_rfl) (by kernel_rfl) (by kernel_rfl)
  have tT := isTypeOf
  have cT := isComparable
  have mR := isMethod
  have nE := noIs
  have uE := noUnwrap
  have vE := noUnwraps
  have heq := eql_errno a b w
  rw [hc] at heq
  clear hc
  cases c
  · go_enter Tryz.func16, Tryz.ntmps16
    go_wp2
    refine wp_loop_rounds 1 ?_
    rw [rounds_succ]
    go_wp2
    go_ret
    exact ⟨rfl, rfl⟩
  · go_enter Tryz.func16, Tryz.ntmps16
    go_wp2
    refine wp_loop_rounds 1 ?_
    rw [rounds_succ]
    go_wp2
    go_ret
    exact ⟨rfl, rfl⟩
end Go.Proofs.YtpcgkiecjakknaaGreatDoor
namespace Go.Proofs.YtpcgkiecjakknaaGreatDoor
open Go Mv
noncomputable def st : Seat where
  P := Tryz.prog
  φ := fun i => match i with | 27 => 3 | 63 => 16 | 93 => 26 | 110 => 10 | 111 => 11 | 112 => 12 | 113 => 13 | 114 => 14 | 115 => 15 | 116 => 17 | 117 => 18 | 118 => 19 | 119 => 20 | 120 => 21 | 130 => 27 | 131 => 28 | 132 => 29 | 138 => 31 | 140 => 33 | 149 => 42 | 150 => 43 | 222 => 66 | 223 => 67 | 246 => 44 | 247 => 45 | 248 => 46 | 249 => 47 | 250 => 48 | 251 => 49 | 252 => 50 | 258 => 59 | 259 => 64 | 260 => 65 | 263 => 68 | 350 => 80 | 351 => 81 | 352 => 82 | 353 => 83 | 354 => 84 | 355 => 85 | 452 => 110 | 453 => 111 | 487 => 144 | _ => 0
  τ := fun i => match i with | 74 => 55 | 145 => 81 | 394 => 164 | 147 => 83 | n => n
  γ := fun i => match i with | 1 => 3 | 2 => 4 | 3 => 5 | n => n
  gl := [1, 2, 3]
  raw := [(0, .iface 198 (.agg #[.pointer (some ⟨6, 25, none⟩)]))]
theorem fn352 : FnOK st 352 := ⟨by decide, Tryz.f82, Tryz.func82, by kernel_rfl, by kernel_rfl⟩
theorem okGN : OkGN st := by constructor <;> kernel_rfl
theorem okLd : OkLd st := by constructor <;> kernel_rfl
theorem okP : OkP st := ⟨by kernel_rfl⟩
theorem okPo : OkPo st := ⟨okP, by kernel_rfl, by kernel_rfl, by kernel_rfl, by kernel_rfl⟩
theorem okGm : OkGm st := ⟨okGN, okLd, okPo, by kernel_rfl, by kernel_rfl, by kernel_rfl, by kernel_rfl⟩
theorem okMv : OkMv st := ⟨okGm, by kernel_rfl, by kernel_rfl, by kernel_rfl, by kernel_rfl, by kernel_rfl, by kernel_rfl, by kernel_rfl, fn352⟩
theorem okDl : OkDl st := by constructor <;> kernel_rfl
theorem okRi : OkRi st := ⟨okLd, okDl, by kernel_rfl⟩
theorem as3R (c e b : Int) : Runs st 93 [.ifc 145 (.ptr 0 []), .ifc 394 (.ptr 1 [])] [(0, ftV c e), (1, .int .i64 b)] 2 (fun r H' k' => r = .bool true ∧ H' = [(0, ftV c e), (1, .int .i64 e)] ∧ k' = 2) :=
  as3_of (g := 0) (gv := etV) (by simp [st]) (fun n k q t old w hg h0 h1 ht hf => as_fe n k q t old w hg h0 h1 ht hf) c e b
theorem as4R (c e : Int) : Runs st 93 [.ifc 145 (.ptr 0 []), .ifc 147 (.ptr 1 [])] [(0, ftV c e), (1, .nilp)] 2 (fun r H' k' => r = .bool true ∧ H' = [(0, ftV c e), (1, .ptr 0 [])] ∧ k' = 2) :=
  as4_of (g := 0) (gv := etV) (by simp [st]) (fun q t old w hg ht hf => as_ff q t old w hg ht hf) c e
theorem okWF : OkWF st := ⟨by kernel_rfl, as3R, as4R⟩
theorem okFx : OkFx st := ⟨okMv, okRi, okWF, by kernel_rfl⟩
theorem is_runs (a b : Int) : Runs st 63 [.ifc 74 (.int .i64 a), .ifc 74 (.int .i64 b)] [] 0 (fun r H' k' => r = .bool (decide (a = b)) ∧ H' = [] ∧ k' = 0) := by
  intro e vs hI hD hargs
  obtain ⟨hlen, hargs⟩ := hargs
  have hτ : e.τ 74 = 55 := by exact (congrFun hI.τ 74).trans rfl
  match vs, hlen with
  | ⟨[v0, v1]⟩, _ =>
    have h0 := hargs 0
    have h1 := hargs 1
    simp [RV, RS, V.isAgg, R, hτ] at h0 h1
    rw [h0.1, h1.1]
    refine (is_errno' a b _ rfl e.w).mono ?_
    rintro en w' ⟨rfl, rfl⟩
    exact ⟨_, .bool _, e, [], 0, rfl, rfl, hI, by simp [RV, RS, V.isAgg, R], hD, Nat.le_refl _, rfl, rfl, rfl⟩
theorem okGl : OkGl st := ⟨okFx, by kernel_rfl, is_runs⟩

end Go.Proofs.YtpcgkiecjakknaaGreatDoor
namespace Mv

end Mv
namespace Mv

def Ln (p : Nat) : Nat := (lanes.getD p 0).toNat
def pos : Nat → Nat
  | 0 => 1
  | p + 1 => Ln p
end Mv
namespace Mv
open Go

end Mv
namespace Mv
open Go Go.ChangeShapes Go.WideShapes

theorem word_of {n : Int} (h : (Lit.int .u64 n).wf = true) : ∃ w : BitVec 64, n = (w.toNat : Int) := by
  have hb : 0 ≤ n ∧ n ≤ 18446744073709551615 := by simpa [Lit.wf, IntKind.min, IntKind.max, IntKind.signed, IntKind.bits] using h
  refine ⟨BitVec.ofNat 64 n.toNat, ?_⟩
  rw [BitVec.toNat_ofNat, Nat.mod_eq_of_lt (by omega)]
  omega

end Mv
namespace Mv
open Go Go.ChangeShapes Go.WideShapes

theorem word_arg {H : Type} {enc : TypeId × Value → H} {M : Seat} {W : World} {t : TypeId} {v : Value} {d : DataW H} {ps : List MemPlace} (ht : M.P.underlying t = some (.int .u64))
    {base : Nat} (hok : Value.okWide M.P W .any base t v) (h : DataW.Trod enc M.P W 0 (fun _ => true) true t v d ps) : ∃ w : BitVec 64, RV (env0 M W) (Mv.W w) v := by
  obtain ⟨n, rfl⟩ := okWide_int ht hok
  obtain ⟨m, hm⟩ := h
  obtain ⟨z, e0, _, wz⟩ := DataW.trod_int ht hm
  simp only [Value.cells, List.cons.injEq, and_true, Value.int.injEq, true_and] at e0
  subst e0
  obtain ⟨b, rfl⟩ := word_of wz
  exact ⟨b, by simp [Mv.W, RV, RS, V.isAgg, R]⟩

theorem int_arg {H : Type} {enc : TypeId × Value → H} {M : Seat} {W : World} {t : TypeId} {k : IntKind} {v : Value} {d : DataW H} {ps : List MemPlace} (ht : M.P.underlying t = some (.int k))
    {base : Nat} (hok : Value.okWide M.P W .any base t v) (h : DataW.Trod enc M.P W 0 (fun _ => true) true t v d ps) : ∃ n : Int, (Lit.int k n).wf = true ∧ RV (env0 M W) (.int k n) v := by
  obtain ⟨n, rfl⟩ := okWide_int ht hok
  obtain ⟨m, hm⟩ := h
  obtain ⟨z, e0, _, wz⟩ := DataW.trod_int ht hm
  simp only [Value.cells, List.cons.injEq, and_true, Value.int.injEq, true_and] at e0
  subst e0
  exact ⟨n, wz, by simp [RV, RS, V.isAgg, R]⟩

end Mv
