/- keccak over natural numbers: for the kernel to work out. -/
import Derived.Test.YtdenaplelfkecaaDoorDb
import Derived.Test.YtdenaplelfkecaaDoorDl
import Derived.KernelRfl
set_option linter.unusedSimpArgs false
set_option linter.unusedVariables false
namespace Mv

/-- The lane that comes to j, how far it is turned. -/
def srcs : List Nat := [0, 6, 12, 18, 24, 3, 9, 10, 16, 22, 1, 7, 13, 19, 20, 4, 5, 11, 17, 23, 2, 8, 14, 15, 21]
def trns : List Nat := [0, 44, 43, 21, 14, 28, 20, 3, 45, 61, 1, 6, 25, 8, 18, 27, 36, 10, 15, 56, 62, 55, 39, 41, 2]
end Mv
namespace Mv
set_option maxRecDepth 20000

def Ln (p : Nat) : Nat := (lanes.getD p 0).toNat
def Tn (p : Nat) : Nat := (turns.getD p 0).toNat
def pos : Nat → Nat
  | 0 => 1
  | p + 1 => Ln p
theorem Ln_lt : ∀ p, p < 24 → Ln p < 25 := by decide
theorem Ln_ne : ∀ p, p < 24 → ∀ q, q < 24 → p ≠ q → Ln p ≠ Ln q := by decide
theorem Ln_hit : ∀ j, j < 25 → j ≠ 0 → ∃ p, p < 24 ∧ Ln p = j ∧ pos p = srcs.getD j 0 ∧ Tn p = trns.getD j 0 := by decide
theorem Ln_pos : ∀ p, p < 24 → Ln p ≠ 0 := by decide

def valp (a : List (BitVec 64)) : Nat → Nat → BitVec 64
  | 0, j => a.getD j 0
  | p + 1, j => if j = Ln p then rot (a.getD (pos p) 0) (Tn p) else valp a p j
theorem valp_fresh (a : List (BitVec 64)) (j : Nat) : ∀ p, (∀ q, q < p → Ln q ≠ j) → valp a p j = a.getD j 0
  | 0, _ => rfl
  | p + 1, h => by rw [valp, if_neg (fun e => h p (by omega) e.symm), valp_fresh a j p (fun q hq => h q (by omega))]
theorem valp_hit (a : List (BitVec 64)) (p : Nat) : ∀ n, p < n → n ≤ 24 → valp a n (Ln p) = rot (a.getD (pos p) 0) (Tn p)
  | 0, h, _ => by omega
  | n + 1, h, h2 => by
    by_cases e : p = n
    · subst e; rw [valp, if_pos rfl]
    · rw [valp, if_neg (Ln_ne p (by omega) n (by omega) e), valp_hit a p n (by omega) (by omega)]
theorem rps_val (a : List (BitVec 64)) (ha : a.length = 25) : ∀ p, p ≤ 24 → (rps a p).1 = a.getD (pos p) 0 ∧ ∀ j, (rps a p).2.getD j 0 = valp a p j
  | 0, _ => ⟨rfl, fun _ => rfl⟩
  | p + 1, h => by
    obtain ⟨h1, h2⟩ := rps_val a ha p (by omega)
    refine ⟨?_, fun j => ?_⟩
    · show (rps a p).2.getD (Ln p) 0 = a.getD (Ln p) 0
      rw [h2, valp_fresh a _ p (fun q hq => Ln_ne q (by omega) p (by omega) (by omega))]
    · show ((rps a p).2.set (Ln p) (rot (rps a p).1 (Tn p))).getD j 0 = valp a (p + 1) j
      rw [set_at _ _ _ _ (by rw [rps_len a ha]; exact Ln_lt p (by omega)), h1, h2, valp]
theorem rot_0 (x : BitVec 64) : rot x 0 = x := by
  have h : x >>> 64 = 0 := by
    apply BitVec.eq_of_toNat_eq
    rw [BitVec.toNat_ushiftRight, Nat.shiftRight_eq_div_pow, Nat.div_eq_of_lt x.isLt]; rfl
  simp [rot, h]
theorem rps_at (a : List (BitVec 64)) (ha : a.length = 25) (j : Nat) (hj : j < 25) : (rps a 24).2.getD j 0 = rot (a.getD (srcs.getD j 0) 0) (trns.getD j 0) := by
  rw [(rps_val a ha 24 (Nat.le_refl _)).2]
  by_cases h0 : j = 0
  · subst h0
    rw [valp_fresh a 0 24 (fun q hq => Ln_pos q hq)]
    exact (rot_0 _).symm
  · obtain ⟨p, h1, h2, h3, h4⟩ := Ln_hit j hj h0
    rw [← h2, valp_hit a p 24 h1 (Nat.le_refl _), h2, h3, h4]

theorem srcs_lt : ∀ j, j < 25 → srcs.getD j 0 < 25 := by decide
end Mv
namespace Mv
open Go

end Mv
