/- The closure of CommitOrder. -/
import Derived.Test.YtncipgmjhaiagaaDoorDk
import Derived.Test.YtncipgmjhaiagaaDoorT
set_option linter.unusedSimpArgs false
set_option linter.unusedVariables false
namespace Mv
open Go
set_option maxRecDepth 20000
set_option maxHeartbeats 4000000
set_option linter.unusedSimpArgs false

theorem ren_mach (m : List Nat) (f g : Nat → BitVec 64) (pc : BitVec 64) (hl : Bool) (xt : BitVec 64) : (mach f g pc hl xt).ren m = mach f g pc hl xt := rfl
theorem solid_mach (f g : Nat → BitVec 64) (pc : BitVec 64) (hl : Bool) (xt : BitVec 64) : (mach f g pc hl xt).solid = true := rfl
theorem Sim_mach (H : Hp) (m z : List Nat) (f g : Nat → BitVec 64) (pc : BitVec 64) (hl : Bool) (xt : BitVec 64) : Sim H m z (mach f g pc hl xt) (mach f g pc hl xt) := by
  simp only [mach, LT, SimL, ne_eq, Nat.reduceLT, SimA, Sim, SimH, frz, hget, hhas, List.getElem?_cons_zero, List.getElem?_cons_succ, List.getElem?_nil, BEq.rfl, if_true, reduceCtorEq, Option.some.injEq, Nat.reduceEqDiff, if_false, List.contains_cons, List.contains_nil, V.ok, V.get, V.fget, V.fhas, Nat.reduceLeDiff, implies_true, Nat.reduceBEq, Int.cast_ofNat_Int]

/-- The path of a word. -/
def pth (f : Nat → BitVec 64) (i : Nat) : List Dg := (List.range 13).map (fun h => memN f h ((i / 2 ^ h) ^^^ 1))
theorem pth_at (f : Nat → BitVec 64) (i j : Nat) (hj : j < 13) : (pth f i).getD j Dg.zero = memN f j ((i / 2 ^ j) ^^^ 1) := by
  simp [pth, List.getD, List.getElem?_map, List.getElem?_range hj]

theorem xor1_even {n : Nat} (h : n % 2 = 0) : n ^^^ 1 = n + 1 := by
  have h1 : (n ^^^ 1) / 2 = n / 2 := by rw [Nat.xor_div_two]; simp
  have h2 := @Nat.xor_mod_two_eq_one n 1
  omega
theorem xor1_odd {n : Nat} (h : n % 2 ≠ 0) : n ^^^ 1 = n - 1 := by
  have h1 : (n ^^^ 1) / 2 = n / 2 := by rw [Nat.xor_div_two]; simp
  have h2 := @Nat.xor_mod_two_eq_one n 1
  omega

/-- A memory with another word. -/
def upd (f : Nat → BitVec 64) (i : Nat) (v : BitVec 64) (j : Nat) : BitVec 64 := if j = i then v else f j
theorem memN_off (f : Nat → BitVec 64) (i : Nat) (v : BitVec 64) : ∀ q s, s ≠ i / 2 ^ q → memN (upd f i v) q s = memN f q s
  | 0, s, h => by
    have h : s ≠ i := by simpa using h
    simp only [memN, upd, if_neg h]
  | q + 1, s, h => by
    rw [div_pow] at h
    rw [memN, memN, memN_off f i v q _ (by omega), memN_off f i v q _ (by omega)]
theorem fold_mem (f : Nat → BitVec 64) (i : Nat) (hi : i < 8192) (v : BitVec 64) : ∀ q, q ≤ 13 → foldN i (leafD v) (pth f i) q = memN (upd f i v) q (i / 2 ^ q)
  | 0, _ => by simp [foldN, memN, upd, hi]
  | q + 1, h => by
    rw [foldN, fold_mem f i hi v q (by omega), pth_at _ _ _ (by omega), memN, div_pow]
    by_cases he : i / 2 ^ q % 2 = 0
    · rw [if_pos he, xor1_even he]
      have e1 : 2 * (i / 2 ^ q / 2) = i / 2 ^ q := by omega
      rw [e1, memN_off f i v q (i / 2 ^ q + 1) (by omega)]
    · rw [if_neg he, xor1_odd he]
      have e1 : 2 * (i / 2 ^ q / 2) + 1 = i / 2 ^ q := by omega
      have e2 : 2 * (i / 2 ^ q / 2) = i / 2 ^ q - 1 := by omega
      rw [e1, e2, memN_off f i v q (i / 2 ^ q - 1) (by omega)]
theorem upd_same (f : Nat → BitVec 64) (i : Nat) : upd f i (f i) = f := by
  funext j; unfold upd; split
  · rename_i h; rw [h]
  · rfl
theorem fold_self (f : Nat → BitVec 64) (i : Nat) (hi : i < 8192) : foldN i (leafD (f i)) (pth f i) 13 = memN f 13 0 := by
  rw [fold_mem f i hi (f i) 13 (by omega), upd_same, Nat.div_eq_of_lt (by omega)]
theorem fold_upd (f : Nat → BitVec 64) (i : Nat) (hi : i < 8192) (v : BitVec 64) : foldN i (leafD v) (pth f i) 13 = memN (upd f i v) 13 0 := by
  rw [fold_mem f i hi v 13 (by omega), Nat.div_eq_of_lt (by omega)]

/-- A call of what takes no blocks and leaves none; 'z': blocks that it may look at; they are the caller's again. -/
theorem call_pureL {M : Seat} {f : Nat} {us us0 : List V} {H : Hp} {n : Nat} {K : V → Hp → Prop} {v : V} (z : List Nat) (hr : Runs M f us0 [] 0 (fun r H' k' => r = v ∧ H' = [] ∧ k' = 0)) (hus : SimA H [] z us0 us) (hv : v.ren (nums [] n 0) = v) (hn : NoIm v) (hK : K v H) : CallK M f us H n K := by
  refine call_runs hr True [] z List.nodup_nil (by simp) rfl (by simp) hus trivial ?_
  rintro v' H' k' ⟨rfl, rfl, rfl⟩
  refine ⟨⟨by omega, fun _ => ⟨hn, fun id h => by simp [hhas] at h⟩⟩, ?_⟩
  rw [hv]
  simpa [renH, hrest] using hK
end Mv
namespace Mv
open Go
set_option maxRecDepth 20000
set_option maxHeartbeats 4000000
set_option linter.unusedSimpArgs false

end Mv
