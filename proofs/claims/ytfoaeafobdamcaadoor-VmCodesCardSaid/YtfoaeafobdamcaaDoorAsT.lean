/- errors.As of the program's errors, into a variable of the one kind and of the other. -/
import Derived.Test.YtfoaeafobdamcaaDoorChecked
import Derived.WalkKit
import Derived.LaidEql
import Derived.Stop.Asserts
import Derived.RowKitTokens
set_option linter.unusedSimpArgs false
set_option linter.unusedVariables false
namespace Go.Proofs.YtfoaeafobdamcaaDoor
open Go Go.RowKit Go.Extern.Stop Go.Stop Go.Extern
set_option maxRecDepth 100000

/-- The handle of a type. -/
abbrev hdl (t : Nat) : Value := .pointer (some ⟨6, t, none⟩)
/-- Reflectlite's Value of a variable. -/
abbrev rvl (t : Nat) (b : Addr) (fl : Int) : Value := .agg #[hdl t, .pointer (some b), .int .u64 fl]
theorem rlmA (z : Sem Value) (f : TypeId → Addr → Nat → Nat → Sem Value) (v : Value) :
    ReflectliteValue.method z f #[v] = (do match ← ReflectliteValue.parts v with | none => z | some (t, a, fl) => f t a fl (fl % 32)) := rfl
theorem valueOfE (t : Addr) (w : World) : (ReflectliteValue.unpack (.iface 199 (.pointer (some t)))).run Tryd.prog w = .ok (rvl 199 ⟨w.heap.size, 0, none⟩ 150) (w.alloc (.cells #[.pointer (some t)] 199)) := by kernel_rfl
theorem valueOfF (t : Addr) (w : World) : (ReflectliteValue.unpack (.iface 201 (.pointer (some t)))).run Tryd.prog w = .ok (rvl 201 ⟨w.heap.size, 0, none⟩ 150) (w.alloc (.cells #[.pointer (some t)] 201)) := by kernel_rfl
theorem valueOfN (a : Int) (w : World) : (ReflectliteValue.unpack (.iface 74 (.int .i64 a))).run Tryd.prog w = .ok (rvl 74 ⟨w.heap.size, 0, none⟩ 130) (w.alloc (.cells #[.int .i64 a] 74)) := by kernel_rfl
theorem typeE (a : Addr) (w : World) : (ReflectliteValue.methodAny (ReflectliteValue.valueError "reflectlite.Value.Type" 0) (fun t _ _ _ => ReflectliteType.toType t) #[rvl 199 a 150]).run Tryd.prog w = .ok (.iface 174 (.agg #[hdl 199])) w := by kernel_rfl
theorem typeF (a : Addr) (w : World) : (ReflectliteValue.methodAny (ReflectliteValue.valueError "reflectlite.Value.Type" 0) (fun t _ _ _ => ReflectliteType.toType t) #[rvl 201 a 150]).run Tryd.prog w = .ok (.iface 174 (.agg #[hdl 201])) w := by kernel_rfl
theorem methodKind (h : Value) (w : World) : (Go.method 372 174 (.agg #[h]) "Kind").run Tryd.prog w = .ok (130, h) w := by kernel_rfl
theorem methodElem (h : Value) (w : World) : (Go.method 372 174 (.agg #[h]) "Elem").run Tryd.prog w = .ok (139, .agg #[h]) w := by kernel_rfl
theorem methodImpl (h : Value) (w : World) : (Go.method 372 174 (.agg #[h]) "Implements").run Tryd.prog w = .ok (140, .agg #[h]) w := by kernel_rfl
theorem methodAsgn (h : Value) (w : World) : (Go.method 372 174 (.agg #[h]) "AssignableTo").run Tryd.prog w = .ok (137, .agg #[h]) w := by kernel_rfl
theorem kindPE (w : World) : ((ReflectliteType.abiMethod fun t => (fun a : Nat => Value.int IntKind.u8 (a : Int)) <$> Rtype.kind t) #[hdl 199]).run Tryd.prog w = .ok (.int .u8 22) w := by kernel_rfl
theorem kindE (w : World) : ((ReflectliteType.abiMethod fun t => (fun a : Nat => Value.int IntKind.u8 (a : Int)) <$> Rtype.kind t) #[hdl 74]).run Tryd.prog w = .ok (.int .u8 2) w := by kernel_rfl
theorem kindPPF (w : World) : ((ReflectliteType.abiMethod fun t => (fun a : Nat => Value.int IntKind.u8 (a : Int)) <$> Rtype.kind t) #[hdl 201]).run Tryd.prog w = .ok (.int .u8 22) w := by kernel_rfl
theorem kindPF (w : World) : ((ReflectliteType.abiMethod fun t => (fun a : Nat => Value.int IntKind.u8 (a : Int)) <$> Rtype.kind t) #[hdl 200]).run Tryd.prog w = .ok (.int .u8 22) w := by kernel_rfl
theorem elemPE (w : World) : (ReflectliteType.method ReflectliteType.elem #[.agg #[hdl 199]]).run Tryd.prog w = .ok (.iface 174 (.agg #[hdl 74])) w := by kernel_rfl
theorem elemPPF (w : World) : (ReflectliteType.method ReflectliteType.elem #[.agg #[hdl 201]]).run Tryd.prog w = .ok (.iface 174 (.agg #[hdl 200])) w := by kernel_rfl
theorem implE (w : World) : (ReflectliteType.relation "Implements" ReflectliteType.implements_ #[.agg #[hdl 74], .iface 174 (.agg #[hdl 37])]).run Tryd.prog w = .ok (.bool true) w := by kernel_rfl
theorem implPF (w : World) : (ReflectliteType.relation "Implements" ReflectliteType.implements_ #[.agg #[hdl 200], .iface 174 (.agg #[hdl 37])]).run Tryd.prog w = .ok (.bool true) w := by kernel_rfl
theorem typeOfN (v : Value) (w : World) : (ReflectliteType.typeOf #[.iface 74 v]).run Tryd.prog w = .ok (.iface 174 (.agg #[hdl 74])) w := by kernel_rfl
theorem asgnEE (w : World) : (ReflectliteType.relation "AssignableTo" ReflectliteType.assignableTo #[.agg #[hdl 74], .iface 174 (.agg #[hdl 74])]).run Tryd.prog w = .ok (.bool true) w := by kernel_rfl
theorem asgnEF (w : World) : (ReflectliteType.relation "AssignableTo" ReflectliteType.assignableTo #[.agg #[hdl 74], .iface 174 (.agg #[hdl 200])]).run Tryd.prog w = .ok (.bool false) w := by kernel_rfl
theorem partsPE (a : Addr) (w : World) : (ReflectliteValue.parts (rvl 199 a 150)).run Tryd.prog w = .ok (some (199, a, 150)) w := by kernel_rfl
theorem partsPPF (a : Addr) (w : World) : (ReflectliteValue.parts (rvl 201 a 150)).run Tryd.prog w = .ok (some (201, a, 150)) w := by kernel_rfl
theorem partsEa (a : Addr) (w : World) : (ReflectliteValue.parts (rvl 74 a 386)).run Tryd.prog w = .ok (some (74, a, 386)) w := by kernel_rfl
theorem partsE (a : Addr) (w : World) : (ReflectliteValue.parts (rvl 74 a 130)).run Tryd.prog w = .ok (some (74, a, 130)) w := by kernel_rfl
theorem isNilPE (a p : Addr) (W : World) (ha : W.cell? a = some (.pointer (some p))) :
    (ReflectliteValue.method (ReflectliteValue.valueError "reflectlite.Value.IsNil" 0) ReflectliteValue.isNil #[rvl 199 a 150]).run Tryd.prog W = .ok (.bool false) W := by
  rw [rlmA]
  simp only [Sem.run_bind, partsPE, Result.andThen]
  simp [ReflectliteValue.isNil, loadVar, isAgg, underlying, Tryd.underlying199, ha, Result.andThen]
theorem isNilPPF (a p : Addr) (W : World) (ha : W.cell? a = some (.pointer (some p))) :
    (ReflectliteValue.method (ReflectliteValue.valueError "reflectlite.Value.IsNil" 0) ReflectliteValue.isNil #[rvl 201 a 150]).run Tryd.prog W = .ok (.bool false) W := by
  rw [rlmA]
  simp only [Sem.run_bind, partsPPF, Result.andThen]
  simp [ReflectliteValue.isNil, loadVar, isAgg, underlying, Tryd.underlying201, ha, Result.andThen]
theorem elemOfPE (w : World) : (Rtype.elem? 199).run Tryd.prog w = .ok (some 74) w := by kernel_rfl
theorem mkE (p : Addr) (w : World) : (ReflectliteValue.mk 74 p ReflectliteValue.flagAddr).run Tryd.prog w = .ok (rvl 74 p 386) w := by kernel_rfl
theorem elemVE (a p : Addr) (W : World) (ha : W.cell? a = some (.pointer (some p))) :
    (ReflectliteValue.method (ReflectliteValue.valueError "reflectlite.Value.Elem" 0) ReflectliteValue.elem #[rvl 199 a 150]).run Tryd.prog W = .ok (rvl 74 p 386) W := by
  rw [rlmA]
  simp only [Sem.run_bind, partsPE, Result.andThen]
  simp [ReflectliteValue.elem, loadVar, isAgg, underlying, Tryd.underlying199, ha, Result.andThen, elemOfPE, mkE]
theorem rlsA (v x : Value) : ReflectliteValue.set #[v, x] = (do
    let (some (dst, a, fl), some (src, b, _)) := (← ReflectliteValue.parts v, ← ReflectliteValue.parts x)
      | unsupported (.noEntry "extern/(internal/reflectlite.Value).Set.zeroValue")
    if fl / ReflectliteValue.flagAddr % 2 == 0 then unsupported (.noEntry "extern/(internal/reflectlite.Value).Set.unaddressable")
    let val ← loadVar src b
    if ← Rtype.directlyAssignable dst src then storeVar dst a val
    else if ← Rtype.implements dst src then
      if (← Rtype.kind src) == 20 then
        match val with
        | .nilIface => unsupported (.noEntry "extern/reflectlite: a nil value of one interface type handed on as a value of another")
        | _ => storeVar dst a val
      else storeVar dst a (.iface src val)
    else panicString ("reflectlite.Set: value of type " ++ (← Rtype.spelt src) ++ " is not assignable to type " ++ (← Rtype.spelt dst))
    pure (.tuple #[])) := rfl
theorem directE (w : World) : (Rtype.directlyAssignable 74 74).run Tryd.prog w = .ok true w := by kernel_rfl
theorem setE (ta b : Addr) (n : Int) (old : Value) (W : World) (hb : W.cell? b = some (.int .i64 n)) (ht : W.cell? ta = some old) (hf : W.frozen? ta = false) :
    (ReflectliteValue.set #[rvl 74 ta 386, rvl 74 b 130]).run Tryd.prog W = .ok (.tuple #[]) (W.setCell ta (.int .i64 n)) := by
  rw [rlsA]
  simp only [Sem.run_bind, partsEa, partsE, Result.andThen]
  simp [ReflectliteValue.flagAddr, loadVar, isAgg, underlying, Tryd.underlying74, hb, Result.andThen, directE, storeVar, Value.cells, storeCells, Addr.add]
  rw [run_store Tryd.prog W ta _ _ (by rfl)]
  simp [ht, hf]
theorem lacksAs (v : Value) (xT : TypeId) (w : World) : (Instr.typeAssert (.iface 74 v) xT 237 true).run Tryd.prog w = .ok (.tuple #[.nilIface, .bool false]) w := run_typeAssert_lacksB Tryd.underlying237 (by kernel_rfl) (by kernel_rfl) v xT w
theorem lacksU (v : Value) (xT : TypeId) (w : World) : (Instr.typeAssert (.iface 74 v) xT 179 true).run Tryd.prog w = .ok (.tuple #[.nilIface, .bool false]) w := run_typeAssert_lacksB Tryd.underlying179 (by kernel_rfl) (by kernel_rfl) v xT w
theorem lacksUs (v : Value) (xT : TypeId) (w : World) : (Instr.typeAssert (.iface 74 v) xT 181 true).run Tryd.prog w = .ok (.tuple #[.nilIface, .bool false]) w := run_typeAssert_lacksB Tryd.underlying181 (by kernel_rfl) (by kernel_rfl) v xT w

/-- What the variable errors.errorType holds. -/
abbrev etV : Value := .iface 174 (.agg #[hdl 37])
/-- The blocks that are left behind. -/
abbrev behind (w : World) (t : Nat) (a : Addr) : World :=
  ((w.alloc (.cells #[.pointer (some a)] t)).alloc (.cells #[hdl t, .pointer (some ⟨w.heap.size, 0, none⟩), .int .u64 150] 220)).alloc (.cells #[hdl t, .pointer (some ⟨w.heap.size, 0, none⟩), .int .u64 150] 220)

set_option maxHeartbeats 4000000 in
theorem as_num (n : Int) (t : Addr) (old : Value) (w : World) (hg : w.cell? ⟨0, 0, none⟩ = some etV) (ht0 : w.cell? t = some old) (hf0 : w.frozen? t = false) :
    Calls Tryd.prog 94 #[.iface 74 (.int .i64 n), .iface 199 (.pointer (some t))] w fun ev w' => ev = .returned (.bool true) ∧ w' = ((behind w 199 t).alloc (.cells #[.int .i64 n] 74)).setCell t (.int .i64 n) := by
  have hVO := @run_callFunc_extern Tryd.prog 105 _ (fun args => ReflectliteValue.unpack (args.getD 0 (.tuple #[]))) Tryd.func105 (by kernel_rfl) (by kernel_rfl) (by kernel_rfl) (by kernel_rfl)
  have hTY := @run_callFunc_extern Tryd.prog 106 _ (ReflectliteValue.methodAny (ReflectliteValue.valueError "reflectlite.Value.Type" 0) (fun t _ _ _ => ReflectliteType.toType t)) Tryd.func106 (by kernel_rfl) (by kernel_rfl) (by kernel_rfl) (by kernel_rfl)
  have hIN := @run_callFunc_extern Tryd.prog 107 _ (ReflectliteValue.method (ReflectliteValue.valueError "reflectlite.Value.IsNil" 0) ReflectliteValue.isNil) Tryd.func107 (by kernel_rfl) (by kernel_rfl) (by kernel_rfl) (by kernel_rfl)
  have hKI := @run_callFunc_extern Tryd.prog 130 _ (ReflectliteType.abiMethod fun t => do pure (.int .u8 (← Rtype.kind t))) Tryd.func130 (by kernel_rfl) (by kernel_rfl) (by kernel_rfl) (by kernel_rfl)
  have hRE := @run_callFunc_extern Tryd.prog 139 _ (ReflectliteType.method ReflectliteType.elem) Tryd.func139 (by kernel_rfl) (by kernel_rfl) (by kernel_rfl) (by kernel_rfl)
  have hRI := @run_callFunc_extern Tryd.prog 140 _ (ReflectliteType.relation "Implements" ReflectliteType.implements_) Tryd.func140 (by kernel_rfl) (by kernel_rfl) (by kernel_rfl) (by kernel_rfl)
  have hTO := @run_callFunc_extern Tryd.prog 63 _ ReflectliteType.typeOf Tryd.func63 (by kernel_rfl) (by kernel_rfl) (by kernel_rfl) (by kernel_rfl)
  have hRA := @run_callFunc_extern Tryd.prog 137 _ (ReflectliteType.relation "AssignableTo" ReflectliteType.assignableTo) Tryd.func137 (by kernel_rfl) (by kernel_rfl) (by kernel_rfl) (by kernel_rfl)
  have hEL := @run_callFunc_extern Tryd.prog 113 _ (ReflectliteValue.method (ReflectliteValue.valueError "reflectlite.Value.Elem" 0) ReflectliteValue.elem) Tryd.func113 (by kernel_rfl) (by kernel_rfl) (by kernel_rfl) (by kernel_rfl)
  have hSE := @run_callFunc_extern Tryd.prog 114 _ ReflectliteValue.set Tryd.func114 (by kernel_rfl) (by kernel_rfl) (by kernel_rfl) (by kernel_rfl)
  have f1 := typeOfN
  have f2 := methodAsgn
  have f3 := asgnEE
  have f4 := valueOfN
  have f5 := valueOfE
  have f6 := typeE
  have f7 := methodKind
  have f8 := methodElem
  have f9 := methodImpl
  have g1 := kindPE
  have g2 := kindE
  have g3 := elemPE
  have g4 := implE
  have n8 := isNilPE ⟨w.heap.size, 0, none⟩ t ((w.alloc (.cells #[.pointer (some t)] 199)).alloc (.cells #[hdl 199, .pointer (some ⟨w.heap.size, 0, none⟩), .int .u64 150] 220)) (by simp)
  have hlt : 0 < w.heap.size := by
    rcases Nat.lt_or_ge 0 w.heap.size with h | h
    · exact h
    · simp [World.cell?, Array.getElem?_eq_none h] at hg
  have hg2 : ((w.alloc (.cells #[.pointer (some t)] 199)).alloc (.cells #[hdl 199, .pointer (some ⟨w.heap.size, 0, none⟩), .int .u64 150] 220)).cell? ⟨0, 0, none⟩ = some etV := by
    rw [World.cell?_alloc_lt _ _ ⟨0, 0, none⟩ (by first | (simp; done) | (simp; omega)), World.cell?_alloc_lt _ _ ⟨0, 0, none⟩ hlt]; exact hg
  have htl : t.block < w.heap.size := by
    rcases Nat.lt_or_ge t.block w.heap.size with h | h
    · exact h
    · simp [World.cell?, Array.getElem?_eq_none h] at ht0
  have el := elemVE ⟨w.heap.size, 0, none⟩ t (behind w 199 t) (by rw [World.cell?_alloc_lt _ _ ⟨w.heap.size, 0, none⟩ (by simp; omega)]; simp)
  have st := setE t ⟨w.heap.size + 1 + 1 + 1, 0, none⟩ n old ((behind w 199 t).alloc (.cells #[.int .i64 n] 74))
    (by rw [World.cell?_alloc_at _ _ _ _ (by simp)]; rfl)
    (by rw [World.cell?_alloc_lt _ _ t (by simp; omega), World.cell?_alloc_lt _ _ t (by simp; omega), World.cell?_alloc_lt _ _ t (by simp; omega), World.cell?_alloc_lt _ _ t htl]; exact ht0)
    (by rw [World.frozen?_alloc_old _ _ t (by simp; omega), World.frozen?_alloc_old _ _ t (by simp; omega), World.frozen?_alloc_old _ _ t (by simp; omega), World.frozen?_alloc_old _ _ t (Nat.ne_of_lt htl)]; exact hf0)
  go_enter Tryd.func94, Tryd.ntmps94
  go_wp2
  refine wp_loop_rounds 1 ?_
  rw [rounds_succ]
  go_wp2
  go_ret
  exact ⟨rfl, rfl⟩

set_option maxHeartbeats 4000000 in
theorem as_miss (n : Int) (t : Addr) (w : World) (hg : w.cell? ⟨0, 0, none⟩ = some etV) :
    Calls Tryd.prog 94 #[.iface 74 (.int .i64 n), .iface 201 (.pointer (some t))] w fun ev w' => ev = .returned (.bool false) ∧ w' = behind w 201 t := by
  have hVO := @run_callFunc_extern Tryd.prog 105 _ (fun args => ReflectliteValue.unpack (args.getD 0 (.tuple #[]))) Tryd.func105 (by kernel_rfl) (by kernel_rfl) (by kernel_rfl) (by kernel_rfl)
  have hTY := @run_callFunc_extern Tryd.prog 106 _ (ReflectliteValue.methodAny (ReflectliteValue.valueError "reflectlite.Value.Type" 0) (fun t _ _ _ => ReflectliteType.toType t)) Tryd.func106 (by kernel_rfl) (by kernel_rfl) (by kernel_rfl) (by kernel_rfl)
  have hIN := @run_callFunc_extern Tryd.prog 107 _ (ReflectliteValue.method (ReflectliteValue.valueError "reflectlite.Value.IsNil" 0) ReflectliteValue.isNil) Tryd.func107 (by kernel_rfl) (by kernel_rfl) (by kernel_rfl) (by kernel_rfl)
  have hKI := @run_callFunc_extern Tryd.prog 130 _ (ReflectliteType.abiMethod fun t => do pure (.int .u8 (← Rtype.kind t))) Tryd.func130 (by kernel_rfl) (by kernel_rfl) (by kernel_rfl) (by kernel_rfl)
  have hRE := @run_callFunc_extern Tryd.prog 139 _ (ReflectliteType.method ReflectliteType.elem) Tryd.func139 (by kernel_rfl) (by kernel_rfl) (by kernel_rfl) (by kernel_rfl)
  have hRI := @run_callFunc_extern Tryd.prog 140 _ (ReflectliteType.relation "Implements" ReflectliteType.implements_) Tryd.func140 (by kernel_rfl) (by kernel_rfl) (by kernel_rfl) (by kernel_rfl)
  have hTO := @run_callFunc_extern Tryd.prog 63 _ ReflectliteType.typeOf Tryd.func63 (by kernel_rfl) (by kernel_rfl) (by kernel_rfl) (by kernel_rfl)
  have hRA := @run_callFunc_extern Tryd.prog 137 _ (ReflectliteType.relation "AssignableTo" ReflectliteType.assignableTo) Tryd.func137 (by kernel_rfl) (by kernel_rfl) (by kernel_rfl) (by kernel_rfl)
  have f1 := typeOfN
  have f2 := methodAsgn
  have f3 := asgnEF
  have f4 := valueOfN
  have f5 := valueOfF
  have f6 := typeF
  have f7 := methodKind
  have f8 := methodElem
  have f9 := methodImpl
  have g1 := kindPPF
  have g2 := kindPF
  have g3 := elemPPF
  have g4 := implPF
  have n8 := isNilPPF ⟨w.heap.size, 0, none⟩ t ((w.alloc (.cells #[.pointer (some t)] 201)).alloc (.cells #[hdl 201, .pointer (some ⟨w.heap.size, 0, none⟩), .int .u64 150] 220)) (by simp)
  have hlt : 0 < w.heap.size := by
    rcases Nat.lt_or_ge 0 w.heap.size with h | h
    · exact h
    · simp [World.cell?, Array.getElem?_eq_none h] at hg
  have hg2 : ((w.alloc (.cells #[.pointer (some t)] 201)).alloc (.cells #[hdl 201, .pointer (some ⟨w.heap.size, 0, none⟩), .int .u64 150] 220)).cell? ⟨0, 0, none⟩ = some etV := by
    rw [World.cell?_alloc_lt _ _ ⟨0, 0, none⟩ (by first | (simp; done) | (simp; omega)), World.cell?_alloc_lt _ _ ⟨0, 0, none⟩ hlt]; exact hg
  have l1 := lacksAs
  have l2 := lacksU
  have l3 := lacksUs
  go_enter Tryd.func94, Tryd.ntmps94
  go_wp2
  refine wp_loop_rounds 1 ?_
  rw [rounds_succ]
  go_wp2
  go_ret
  exact ⟨rfl, rfl⟩
end Go.Proofs.YtfoaeafobdamcaaDoor
