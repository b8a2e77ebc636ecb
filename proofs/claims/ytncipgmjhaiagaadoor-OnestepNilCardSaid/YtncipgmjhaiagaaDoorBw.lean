/- Arguments: a digest. -/
import Derived.Test.YtncipgmjhaiagaaDoorBr
import Derived.Test.YtncipgmjhaiagaaDoorDa
set_option linter.unusedSimpArgs false
set_option linter.unusedVariables false
namespace Mv
open Go Go.ChangeShapes Go.WideShapes

theorem u8_of {n : Int} (h : (Lit.int .u8 n).wf = true) : ∃ w : BitVec 8, n = (w.toNat : Int) := by
  have hb : 0 ≤ n ∧ n ≤ 255 := by simpa [Lit.wf, IntKind.min, IntKind.max, IntKind.signed, IntKind.bits] using h
  refine ⟨BitVec.ofNat 8 n.toNat, ?_⟩
  rw [BitVec.toNat_ofNat, Nat.mod_eq_of_lt (by omega)]
  omega
theorem dig_arg {H : Type} {enc : TypeId × Value → H} {M : Seat} {W : World} {t e : TypeId} {v : Value} {d : DataW H} {ps : List MemPlace} (ht : M.P.underlying t = some (.array 32 e)) (he : M.P.underlying e = some (.int .u8)) (ce : M.P.cellsOf e = 1) (ct : M.P.cellsOf t = 32)
    {base : Nat} (hok : Value.okWide M.P W .any base t v) (h : DataW.Trod enc M.P W 0 (fun _ => true) true t v d ps) : ∃ g : Dg, RV (env0 M W) (dg g) v := by
  simp only [Value.okWide, ht] at hok
  obtain ⟨cs, rfl, hsz, _⟩ := hok
  obtain ⟨n, hn⟩ := h
  obtain ⟨xs, m, _, _, hl, hxl, hf⟩ := DataW.trod_array ht hn
  rw [ct] at hl
  have hcc : (Value.agg cs).cells.toList = cs.toList := by simp [Value.cells]
  rw [hcc] at hl hf
  have hz : ∀ i, i < 32 → ∃ c : BitVec 8, cs.toList[i]? = some (.int .u8 (c.toNat : Int)) := by
    intro i hi
    have g0 := hf i hi
    rw [ce, Nat.mul_one] at g0
    have hx : ∃ y, xs[i]? = some y := ⟨xs[i]'(by omega), by simp [hxl, hi]⟩
    obtain ⟨y, hy⟩ := hx
    rw [hy] at g0
    obtain ⟨z0, e0, _, w0⟩ := DataW.trod_int he g0
    obtain ⟨b0, rfl⟩ := u8_of w0
    refine ⟨b0, ?_⟩
    have := congrArg (fun l => l[0]?) e0
    simpa [List.getElem?_take, List.getElem?_drop] using this
  obtain ⟨g, hg⟩ := Deep.choose_lt hz
  refine ⟨Dg.mk' g, ?_⟩
  simp only [RV, RS, V.isAgg, R, dg]
  refine ⟨cs.toList, by simp, by rw [Nat.mul_one]; exact hl, fun i hi => ⟨⟨rfl, rfl⟩, ?_⟩⟩
  rw [Nat.mul_one]
  have e1 : (cs.toList.drop i).take 1 = [.int .u8 ((g i).toNat : Int)] := by
    apply List.ext_getElem?
    intro j
    match j with
    | 0 => simpa [List.getElem?_take, List.getElem?_drop] using hg i hi
    | j + 1 => simp [List.getElem?_take]
  rw [e1, Dg.at_mk' _ _ hi]
  simp [Mv.B, R]
end Mv
