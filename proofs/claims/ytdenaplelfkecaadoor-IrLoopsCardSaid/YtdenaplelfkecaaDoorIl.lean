/- IrTooMuch. -/
import Derived.Test.YtdenaplelfkecaaDoorT
import Derived.Test.YtdenaplelfkecaaDoorW1
import Derived.Test.YtdenaplelfkecaaDoorIj
set_option linter.unusedSimpArgs false
set_option linter.unusedVariables false
namespace Mv
open Go
end Mv
namespace Mv
open Go
set_option maxRecDepth 20000
set_option maxHeartbeats 4000000
set_option linter.unusedSimpArgs false

abbrev ApT := Int → BitVec 64 → BitVec 64 → BitVec 64 → Option (BitVec 64)
theorem ev_loc (ap : ApT) (P : List Fu) (k : Nat) (s : IrS) (L : Nat → BitVec 64) (nl : Nat) (n : BitVec 64) (h : n.toNat < nl) : ev ap P (k + 1) (.e (lE n)) s L nl = some ⟨if burnB s then L n.toNat else 0#64, false, burn s, L⟩ := by
  simp only [ev, if_true, if_pos h, show ¬ ((27 : Int) = 26) by decide, if_false]
  cases burnB s <;> rfl
theorem ev_l (ap : ApT) (P : List Fu) (k : Nat) (s : IrS) (L : Nat → BitVec 64) (nl : Nat) (kind n : Int) (a b : Ex) (body els : List IrSt) : ev ap P (k + 1) (.l (.mk kind n a b body els)) s L nl =
    if burnB s = false then some ⟨0#64, true, burn s, L⟩
    else match ev ap P k (.e a) (burn s) L nl with
      | none => none
      | some q =>
        if q.s.over then some ⟨0#64, true, q.s, L⟩
        else if q.v = 0#64 then some ⟨0#64, false, q.s, L⟩
        else match ev ap P k (.b body) q.s L nl with
          | none => none
          | some p => if p.back then some ⟨p.v, true, p.s, p.L⟩ else ev ap P k (.l (.mk kind n a b body els)) p.s p.L nl := rfl
theorem ev_s4 (ap : ApT) (P : List Fu) (k : Nat) (s : IrS) (L : Nat → BitVec 64) (nl : Nat) (n : Int) (a b : Ex) (body els : List IrSt) : ev ap P (k + 1) (.s (.mk 4 n a b body els)) s L nl = ev ap P k (.l (.mk 4 n a b body els)) s L nl := by
  conv => lhs; rw [ev]
  rw [if_pos rfl]
theorem ev_c (ap : ApT) (P : List Fu) (k : Nat) (i : Nat) (as : List (BitVec 64)) (s : IrS) (L : Nat → BitVec 64) (nl : Nat) (f : Fu) (h : P[i]? = some f) (hl : 0 ≤ f.locals ∧ f.locals < 1000) : ev ap P (k + 1) (.c i as) s L nl =
    (match ev ap P k (.b f.body) s (fun j => if j < f.locals.toNat then as.getD j 0#64 else 0#64) f.locals.toNat with
      | none => none
      | some q => some ⟨q.v, false, q.s, L⟩) := by
  conv => lhs; rw [ev]
  rw [h]
  simp only [if_pos hl]
  rfl
end Mv
