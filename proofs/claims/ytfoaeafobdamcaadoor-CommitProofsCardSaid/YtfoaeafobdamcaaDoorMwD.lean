/- Calls by contracts: all other blocks lent. -/
import Derived.Test.YtfoaeafobdamcaaDoorMwC
import Derived.Test.YtfoaeafobdamcaaDoorDl
set_option linter.unusedSimpArgs false
set_option linter.unusedVariables false
namespace Mv
open Go

def ids : Hp → List Nat
  | [] => []
  | (i, _) :: r => i :: ids r
def idsx : Hp → List Nat → List Nat
  | [], _ => []
  | (i, _) :: r, m => if m.contains i then idsx r m else i :: idsx r m
theorem idsx_not (m : List Nat) : ∀ (H : Hp), ∀ i ∈ idsx H m, i ∉ m
  | [], _, h => by cases h
  | (j, _) :: r, i, h => by
    simp only [idsx] at h
    split at h
    · exact idsx_not m r i h
    · rename_i hj
      rcases List.mem_cons.1 h with rfl | h
      · intro hm; exact hj (by simpa [List.contains_iff_mem] using hm)
      · exact idsx_not m r i h
theorem ids_has (j : Nat) : ∀ H : Hp, (ids H).contains j = hhas H j
  | [] => rfl
  | (i, _) :: r => by
    simp only [ids, hhas, List.contains_cons, ids_has j r]
    rw [Bool.beq_comm]
/-- All blocks lent. -/
theorem frzA (H : Hp) (i : Nat) : frz H (ids H) i = (hhas H i && (hget H i).solid) := by
  simp only [frz, ids_has, Bool.and_self]
theorem idsx_has (m : List Nat) (j : Nat) : ∀ H : Hp, (idsx H m).contains j = (hhas H j && !m.contains j)
  | [] => by simp [idsx, hhas]
  | (i, _) :: r => by
    simp only [idsx]
    by_cases h : m.contains i = true
    · rw [if_pos h, idsx_has m j r]
      simp only [hhas]
      by_cases hij : i = j
      · subst hij; rw [h]; simp
      · have : (i == j) = false := by simpa using hij
        rw [this, Bool.false_or]
    · rw [if_neg h]
      simp only [List.contains_cons, idsx_has m j r, hhas]
      by_cases hij : i = j
      · subst hij
        rw [show m.contains i = false by simpa using h]; simp
      · have h1 : (i == j) = false := by simpa using hij
        have h2 : (j == i) = false := by simp; exact fun h => hij h.symm
        rw [h1, h2]; simp
theorem frzX (H : Hp) (m : List Nat) (i : Nat) : frz H (idsx H m) i = ((hhas H i && !m.contains i) && (hget H i).solid) := by
  simp only [frz, idsx_has]
  cases hhas H i <;> simp

def numsF : List Nat → Nat → Nat → List Nat
  | [], _, 0 => []
  | [], n, k + 1 => n :: numsF [] (n + 1) k
  | _ :: _, _, 0 => []
  | a :: m, n, k + 1 => a :: numsF m n k
theorem nums_nil : ∀ (k n : Nat), (List.range k).map (fun i => n + i) = numsF [] n k
  | 0, _ => rfl
  | k + 1, n => by
    rw [List.range_succ_eq_map, List.map_cons, List.map_map, numsF, ← nums_nil k (n + 1)]
    simp only [Nat.add_zero, List.cons.injEq, true_and]
    apply List.map_congr_left
    intro i _
    simp only [Function.comp]; omega
theorem nums_F : ∀ (m : List Nat) (n k : Nat), m.length ≤ k → nums m n k = numsF m n k
  | [], n, k, _ => by simp only [nums, List.length_nil, Nat.sub_zero, List.nil_append]; exact nums_nil k n
  | a :: m, n, 0, h => by simp at h
  | a :: m, n, k + 1, h => by
    rw [numsF, ← nums_F m n k (by simpa using h)]
    simp only [nums, List.length_cons, List.cons_append, Nat.add_sub_add_right]

def NoImL : Hp → Prop
  | [] => True
  | (_, v) :: r => NoIm v ∧ NoImL r
theorem NoImL.H : ∀ {H : Hp}, NoImL H → NoImH H
  | [], _, id, h => by simp [hhas] at h
  | (i, v) :: r, hn, id, h => by
    simp only [NoImL] at hn
    simp only [hget]
    split
    · exact hn.1
    · rename_i hi
      exact NoImL.H hn.2 id (by simpa [hhas, hi] using h)

theorem call_pA {M : Seat} {f : Nat} {us us0 : List V} {H : Hp} {n : Nat} {K : V → Hp → Prop} {v : V} (hr : Runs M f us0 [] 0 (fun r H' k' => r = v ∧ H' = [] ∧ k' = 0)) (hus : SimA H [] (ids H) us0 us) (hv : v.ren (nums [] n 0) = v) (hn : NoIm v) (hK : K v H) : CallK M f us H n K :=
  call_pureL (ids H) hr hus hv hn hK

/-- A call by a contract with an outcome; m: the blocks that are handed over. -/
theorem call_mA {M : Seat} {f : Nat} {us us0 : List V} {H H0 Hn : Hp} {n k kn : Nat} {K : V → Hp → Prop} {v : V} (m : List Nat) (hr : Runs M f us0 H0 k (fun r H' k' => r = v ∧ H' = Hn ∧ k' = kn))
    (hm : (decide m.Nodup && decide (m.length = k) && decide (k ≤ kn) && decide (kn ≤ k + 16)) = true) (hall : (m.all fun i => hhas H i) = true) (hus : SimA H m (idsx H m) us0 us) (hH : SimH H m (idsx H m) H0) (hv : NoIm v) (hn : NoImL Hn)
    (hK : K (v.ren (numsF m n kn)) (renH (numsF m n kn) Hn ++ hrest H m)) : CallK M f us H n K := by
  simp only [Bool.and_eq_true, decide_eq_true_eq] at hm
  obtain ⟨⟨⟨h1, h2⟩, h3⟩, h4⟩ := hm
  refine call_runs hr True m (idsx H m) h1 (idsx_not m H) h2 (by simpa using hall) hus hH ?_
  rintro v' H' k' ⟨rfl, rfl, rfl⟩
  refine ⟨⟨h4, fun _ => ⟨hv, hn.H⟩⟩, ?_⟩
  rw [nums_F m n k' (by omega), if_pos trivial]
  exact hK
theorem call_fA {M : Seat} {f : Nat} {us us0 : List V} {H Hn : Hp} {n kn : Nat} {K : V → Hp → Prop} {v : V} (hr : Runs M f us0 [] 0 (fun r H' k' => r = v ∧ H' = Hn ∧ k' = kn))
    (hk : decide (kn ≤ 16) = true) (hus : SimA H [] (ids H) us0 us) (hv : NoIm v) (hn : NoImL Hn)
    (hK : K (v.ren (numsF [] n kn)) (renH (numsF [] n kn) Hn ++ H)) : CallK M f us H n K := by
  refine call_runs hr True [] (ids H) List.nodup_nil (by simp) rfl (by simp) hus trivial ?_
  rintro v' H' k' ⟨rfl, rfl, rfl⟩
  refine ⟨⟨by have := of_decide_eq_true hk; omega, fun _ => ⟨hv, hn.H⟩⟩, ?_⟩
  rw [nums_F [] n k' (by simp), if_pos trivial]
  exact hK

theorem call_xA {M : Seat} {f : Nat} {us us0 : List V} {H : Hp} {n : Nat} {K : V → Hp → Prop} {Q : V → Hp → Nat → Prop} (hr : Runs M f us0 [] 0 Q) (hus : SimA H [] (ids H) us0 us)
    (hK : ∀ v H' k', Q v H' k' → (k' ≤ 16 ∧ NoIm v ∧ NoImL H') ∧ K (v.ren (numsF [] n k')) (renH (numsF [] n k') H' ++ H)) : CallK M f us H n K := by
  refine call_runs hr True [] (ids H) List.nodup_nil (by simp) rfl (by simp) hus trivial ?_
  intro v' H' k' hq
  obtain ⟨⟨h1, h2, h3⟩, h4⟩ := hK v' H' k' hq
  refine ⟨⟨by simpa using h1, fun _ => ⟨h2, h3.H⟩⟩, ?_⟩
  rw [nums_F [] n k' (by simp), if_pos trivial]
  exact h4
theorem opd_pA {M : Seat} {f : Nat} {us us0 : List V} {H : Hp} {n : Nat} {C : V → Hp → Prop} {v : V} (hr : Runs M f us0 [] 0 (fun r H' k' => r = v ∧ H' = [] ∧ k' = 0)) (hus : SimA H [] (ids H) us0 us) (hv : v.ren (nums [] n 0) = v) (hn : NoIm v) (hC : C v H) : OpDC M f us H n C :=
  ⟨v, H, call_pA hr hus hv hn ⟨rfl, rfl⟩, hC⟩
theorem opd_fA {M : Seat} {f : Nat} {us us0 : List V} {H Hn : Hp} {n kn : Nat} {C : V → Hp → Prop} {v : V} (hr : Runs M f us0 [] 0 (fun r H' k' => r = v ∧ H' = Hn ∧ k' = kn))
    (hk : decide (kn ≤ 16) = true) (hus : SimA H [] (ids H) us0 us) (hv : NoIm v) (hn : NoImL Hn)
    (hC : C (v.ren (numsF [] n kn)) (renH (numsF [] n kn) Hn ++ H)) : OpDC M f us H n C :=
  ⟨_, _, call_fA hr hk hus hv hn ⟨rfl, rfl⟩, hC⟩
theorem opd_mA {M : Seat} {f : Nat} {us us0 : List V} {H H0 Hn : Hp} {n k kn : Nat} {C : V → Hp → Prop} {v : V} (m : List Nat) (hr : Runs M f us0 H0 k (fun r H' k' => r = v ∧ H' = Hn ∧ k' = kn))
    (hm : (decide m.Nodup && decide (m.length = k) && decide (k ≤ kn) && decide (kn ≤ k + 16)) = true) (hall : (m.all fun i => hhas H i) = true) (hus : SimA H m (idsx H m) us0 us) (hH : SimH H m (idsx H m) H0) (hv : NoIm v) (hn : NoImL Hn)
    (hC : C (v.ren (numsF m n kn)) (renH (numsF m n kn) Hn ++ hrest H m)) : OpDC M f us H n C :=
  ⟨_, _, call_mA m hr hm hall hus hH hv hn ⟨rfl, rfl⟩, hC⟩
theorem NoIm_W (w : BitVec 64) : NoIm (W w) = True := rfl
theorem NoIm_B (w : BitVec 8) : NoIm (B w) = True := rfl
theorem NoIm_dg' (d : Dg) : NoIm (dg d) = True := eq_true (by simp only [NoIm, dg, B, implies_true])
end Mv
