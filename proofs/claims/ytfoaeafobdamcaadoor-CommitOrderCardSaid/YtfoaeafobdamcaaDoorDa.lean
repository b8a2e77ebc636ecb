/- Digests; what keccak's functions compute. -/
import Derived.Test.YtfoaeafobdamcaaDoorT
set_option linter.unusedSimpArgs false
set_option linter.unusedVariables false
namespace Mv
open Go

/-- A digest. -/
structure Dg where
  l : List (BitVec 8)
  h : l.length = 32
deriving DecidableEq
def Dg.at (d : Dg) (j : Nat) : BitVec 8 := d.l.getD j 0
def Dg.mk' (f : Nat → BitVec 8) : Dg := ⟨(List.range 32).map f, by simp⟩
theorem Dg.at_mk' (f : Nat → BitVec 8) (j : Nat) (hj : j < 32) : (Dg.mk' f).at j = f j := by
  simp [Dg.at, Dg.mk', List.getD, List.getElem?_map, List.getElem?_range hj]
theorem Dg.ext' {a b : Dg} (h : ∀ j, j < 32 → a.at j = b.at j) : a = b := by
  obtain ⟨l, hl⟩ := a
  obtain ⟨m, hm⟩ := b
  have : l = m := by
    apply List.ext_getElem (by omega)
    intro i h1 h2
    have := h i (by omega)
    simpa [Dg.at, List.getD, h1, h2] using this
  subst this; rfl
def Dg.zero : Dg := Dg.mk' fun _ => 0
theorem Dg.at_zero (j : Nat) : Dg.zero.at j = 0 := by
  by_cases hj : j < 32
  · rw [Dg.zero, Dg.at_mk' _ _ hj]
  · simp only [Dg.at, Dg.zero, Dg.mk', List.getD]
    rw [List.getElem?_eq_none (by simp; omega)]; rfl
instance : Inhabited Dg := ⟨Dg.zero⟩

/-- A digest's value; rows of bytes, of digests. -/
def dg (d : Dg) : V := .ar 1 32 (fun j => B (d.at j))
def dgs (s : List Dg) : Nat → V := fun j => dg (s.getD j Dg.zero)

theorem solid_dg (d : Dg) : (dg d).solid = true := rfl
theorem size_dg (d : Dg) : (dg d).size = 32 := rfl
theorem agg_dg (d : Dg) : (dg d).isAgg = true := rfl
theorem ren_dg (m : List Nat) (d : Dg) : (dg d).ren m = dg d := rfl
theorem dgs_at (s : List Dg) (j : Nat) : dgs s j = dg (s.getD j Dg.zero) := rfl
theorem ren_dgs (m : List Nat) (s : List Dg) (j : Nat) : (dgs s j).ren m = dgs s j := rfl
theorem SimV_dg (H : Hp) (m z : List Nat) (a : Dg) (u : V) : SimV H m z (dg a) u = Sim H m z (dg a) u := rfl
theorem Sim_dg (H : Hp) (m z : List Nat) (a b : Dg) : Sim H m z (dg a) (dg b) ↔ b = a := by
  simp only [Sim, dg, Sim_B, true_and]
  constructor
  · intro h; exact Dg.ext' (fun j hj => h j hj)
  · rintro rfl _ _; rfl
theorem ite_dg {p : Prop} [Decidable p] (a b : Dg) : (if p then dg a else dg b) = dg (if p then a else b) := by split <;> rfl
theorem eqB (a b : BitVec 8) : decide ((a.toNat : Int) = (b.toNat : Int)) = decide (a = b) := by
  rw [decide_eq_decide]
  constructor
  · intro h; exact BitVec.eq_of_toNat_eq (by omega)
  · rintro rfl; rfl
theorem veqP_dg (c : Bool) (a b : Dg) : veqP c (.ar 32 1 false .int) (dg a) (dg b) := by
  simp only [veqP, dg, true_and]
  intro i _
  refine ⟨rfl, rfl, ?_⟩
  simp only [B]
theorem veqV_dg (a b : Dg) : veqV (.ar 32 1 false .int) (dg a) (dg b) = decide (a = b) := by
  have h1 : veqV (.ar 32 1 false .int) (dg a) (dg b) = (List.range 32).all (fun i => decide (a.at i = b.at i)) := by
    simp only [veqV, dg, B, eqB]
  rw [h1, Bool.eq_iff_iff, List.all_eq_true]
  simp only [decide_eq_true_eq, List.mem_range]
  constructor
  · exact fun h => Dg.ext' h
  · rintro rfl _ _; rfl

/-- A word and so many bytes of a piece; a piece absorbed. -/
def pwx (x : BitVec 64) (p : Nat → BitVec 8) (j : Nat) : Nat → BitVec 64
  | 0 => x
  | k + 1 => pwx x p j k ^^^ ((p (8 * j + k)).setWidth 64 <<< (8 * k))
def abq (s : List (BitVec 64)) (p : Nat → BitVec 8) (i k j : Nat) : BitVec 64 :=
  if j < i then pwx (s.getD j 0) p j 8 else if j = i then pwx (s.getD j 0) p j k else s.getD j 0
def mix (s : List (BitVec 64)) (p : Nat → BitVec 8) : List (BitVec 64) := (List.range 25).map (abq s p 17 0)
theorem mix_at (s : List (BitVec 64)) (p : Nat → BitVec 8) (j : Nat) (hj : j < 25) : (mix s p).getD j 0 = abq s p 17 0 j := by
  simp [mix, List.getD, List.getElem?_map, List.getElem?_range hj]
theorem abq_0 (s : List (BitVec 64)) (p : Nat → BitVec 8) (j : Nat) : abq s p 0 0 j = s.getD j 0 := by
  simp only [abq, pwx]
  split
  · omega
  · split <;> rfl
theorem abq_k (s : List (BitVec 64)) (p : Nat → BitVec 8) (i k j : Nat) : (if j = i then abq s p i k i ^^^ ((p (8 * i + k)).setWidth 64 <<< (8 * k)) else abq s p i k j) = abq s p i (k + 1) j := by
  by_cases h : j = i
  · subst h
    simp [abq, pwx]
  · simp only [abq, if_neg h]
theorem abq_i (s : List (BitVec 64)) (p : Nat → BitVec 8) (i j : Nat) : abq s p i 8 j = abq s p (i + 1) 0 j := by
  simp only [abq, pwx]
  by_cases h : j < i
  · rw [if_pos h, if_pos (by omega)]
  · rw [if_neg h]
    by_cases h2 : j = i
    · rw [if_pos h2, if_pos (by omega)]
    · rw [if_neg h2, if_neg (by omega)]
      split <;> rfl

/-- A state's first words, as a digest. -/
def dig (s : List (BitVec 64)) : Dg := Dg.mk' fun i => (s.getD (i / 8) 0 >>> (8 * (i % 8))).setWidth 8

/-- Two digests, as a piece. -/
def pad (a b : Dg) (j : Nat) : BitVec 8 := if j < 32 then a.at j else if j < 64 then b.at (j - 32) else if j = 64 then 1 else if j = 135 then 128 else 0

theorem dg0 : V.ar 1 32 (fun _ => V.int .u8 0) = dg Dg.zero := by
  have h : (fun _ => V.int .u8 0) = fun j => B (Dg.zero.at j) := by
    funext j; rw [Dg.at_zero]; rfl
  simp only [dg, h]
end Mv
