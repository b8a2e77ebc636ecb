/- merkle: levels, the inner round. -/
import Derived.Test.YtdenaplelfkecaaDoorDb
set_option linter.unusedSimpArgs false
set_option linter.unusedVariables false
namespace Mv
open Go
set_option maxRecDepth 20000
set_option maxHeartbeats 4000000
set_option linter.unusedSimpArgs false

/-- A level above: its items, all of it. -/
def upN (z : Dg) (l : List Dg) (q : Nat) : Dg := pair (l.getD (2 * q) z) (l.getD (2 * q + 1) z)
def up (z : Dg) (l : List Dg) : List Dg := (List.range ((l.length + 1) / 2)).map (upN z l)
/-- The levels. -/
def lev (l : List Dg) : Nat → List Dg
  | 0 => l
  | h + 1 => up (nought h) (lev l h)

/-- A row of digests that is not written. -/
def row (l : List Dg) : V := .lst 32 l.length (dgs l)
/-- Level h, as the code has it. -/
def lvV (l : List Dg) (h : Nat) : V := if h = 0 then row l else if lev l h = [] then .nils else row (lev l h)

theorem lv_cases (l : List Dg) (h : Nat) : lvV l h = .lst 32 (lev l h).length (dgs (lev l h)) ∨ (lvV l h = .nils ∧ lev l h = []) := by
  unfold lvV
  by_cases h0 : h = 0
  · subst h0; exact .inl rfl
  · rw [if_neg h0]
    by_cases h1 : lev l h = []
    · exact .inr ⟨if_pos h1, h1⟩
    · rw [if_neg h1]; exact .inl rfl
end Mv
