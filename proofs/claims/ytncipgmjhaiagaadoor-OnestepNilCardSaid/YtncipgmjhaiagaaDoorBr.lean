/- From a contract to a call in a world. -/
import Derived.Test.YtncipgmjhaiagaaDoorT
import Derived.Carry
import Derived.Lib.LaidTab
import Derived.Deep.SlicePairs
import Derived.Test.YtncipgmjhaiagaaDoorDk
import Derived.OpenShut
set_option linter.unusedSimpArgs false
set_option linter.unusedVariables false
namespace Mv
open Go

/-- What the values are held against when the call begins. -/
def env0 (M : Seat) (W : World) : Env where
  ρ := fun _ => 0
  D := fun _ => False
  im := fun b => ∃ cells el fz, W.heap[b]? = some (.cells cells el fz)
  w := W
  φ := M.φ
  τ := M.τ

theorem Inv.start (M : Seat) (W : World) (hg : GS M (env0 M W)) : Inv M ⟨env0 M W, fun b => ∃ id, hhas [] id = true ∧ (env0 M W).ρ id = b, 0⟩ (env0 M W) [] where
  ev := ⟨rfl, rfl, rfl, Nat.le_refl _, fun _ _ _ => rfl, fun _ => Nat.le_refl _⟩
  blk := fun id h => by simp [hhas] at h
  inj := fun i j h => by simp [hhas] at h
  imo := fun b h => .inl h
  imb := fun b h => h
  rb := fun id h => h.elim
  keep := fun b h => h
  low := fun id h => by simp at h
  gs := hg
  φ := rfl
  τ := rfl

theorem run_start {M : Seat} {f : Nat} {us : List V} {vs : Array Value} {Q : V → Hp → Nat → Prop} (hr : Runs M f us [] 0 Q) (W : World) (hg : GS M (env0 M W)) (ha : Args (env0 M W) us vs) :
    Calls M.P (M.φ f) vs W fun en W' => ∃ x v H' k' e', en = .returned x ∧ RV e' v x ∧ Q v H' k' ∧ RowKit.Below W.heap.size W W' := by
  refine (hr (env0 M W) vs (Inv.start M W hg) (fun id _ h => h) ha).mono ?_
  rintro en W' ⟨x, v, e', H', k', rfl, rfl, hI, hv, _, _, hQ⟩
  refine ⟨x, v, H', k', e', rfl, hv, hQ, hI.ev.os, hI.ev.tape, hI.ev.output, hI.ev.size, fun k hk => hI.ev.frame k hk ?_⟩
  rintro ⟨id, h, _⟩
  simp [hhas] at h

/-- A table, as the walk reads it. -/
theorem tab_R {M : Seat} {W : World} {name : String} {k : IntKind} {zs : List Int} {g : Nat} (h : Lib.TabIs M.P W name k zs) (hg : M.P.globalNamed name = some g) (hpos : 0 < zs.length) :
    R (env0 M W) (.imm (.ar 1 zs.length (fun i => .int k (zs.getD i 0)))) [.pointer (some ⟨g, 0, none⟩)] := by
  have hc : ∀ i, i < zs.length → W.cell? ⟨g, i, none⟩ = some (.int k (zs.getD i 0)) := fun i hi => h.cell hg i hi
  have h0 := hc 0 hpos
  simp only [R]
  cases hb : W.heap[g]? with
  | none => simp [World.cell?, hb] at h0
  | some o =>
    cases o with
    | cells c el fz =>
      have hci : ∀ i, i < zs.length → c[i]? = some (.int k (zs.getD i 0)) := fun i hi => by simpa [World.cell?, hb] using hc i hi
      have hsz : zs.length ≤ c.size := by
        have := hci (zs.length - 1) (by omega)
        have := (Array.getElem?_eq_some_iff.1 this).1
        omega
      refine ⟨g, 0, c, el, fz, rfl, ⟨c, el, fz, hb⟩, hb, by simp only [V.size]; omega, by simp [V.size]; omega, fun i hi => ⟨⟨rfl, rfl⟩, ?_⟩⟩
      simp only [V.size, Nat.mul_one, List.drop_zero]
      have h1 := hci i hi
      have h2 : c.toList[i]? = some (.int k (zs.getD i 0)) := by simpa using h1
      apply List.ext_getElem?
      intro j
      cases j with
      | zero => simp [List.getElem?_take, List.getElem?_drop, hi, h1]
      | succ j => simp [List.getElem?_take]
    | _ => simp [World.cell?, hb] at h0
end Mv
namespace Mv
open Go Go.ChangeShapes Go.WideShapes

end Mv
namespace Mv
open Go Go.ChangeShapes Go.WideShapes

theorem bool_arg {H : Type} {enc : TypeId × Value → H} {M : Seat} {W : World} {t : TypeId} {v : Value} {d : DataW H} {ps : List MemPlace} (ht : M.P.underlying t = some .bool)
    {base : Nat} (hok : Value.okWide M.P W .any base t v) (_h : DataW.Trod enc M.P W 0 (fun _ => true) true t v d ps) : ∃ b : Bool, RV (env0 M W) (.bool b) v := by
  obtain ⟨b, rfl⟩ := okWide_bool ht hok
  exact ⟨b, by simp [RV, RS, V.isAgg, R]⟩

end Mv
namespace Mv
open Go Go.ChangeShapes Go.WideShapes

end Mv
