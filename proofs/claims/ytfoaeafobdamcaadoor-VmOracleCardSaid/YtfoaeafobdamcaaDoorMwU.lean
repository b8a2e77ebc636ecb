/- Numbers. -/
import Derived.Test.YtfoaeafobdamcaaDoorMwQ
set_option linter.unusedSimpArgs false
set_option linter.unusedVariables false
namespace Mv
open Go
theorem fdiv_pow (a k : Nat) : (a : Int).fdiv (2 ^ k) = ((a / 2 ^ k : Nat) : Int) := by
  rw [Int.fdiv_eq_ediv_of_nonneg _ (Int.pow_nonneg (by omega)), Int.natCast_ediv, Int.natCast_pow]; rfl
theorem pow2_n (k : Nat) : (2 : Int) ^ k = ((2 ^ k : Nat) : Int) := by rw [Int.natCast_pow]; rfl
theorem ofInt_n (n : Nat) (w : Nat) : BitVec.ofInt w (n : Int) = BitVec.ofNat w n := by
  apply BitVec.eq_of_toNat_eq
  rw [BitVec.toNat_ofInt, BitVec.toNat_ofNat]
  have : ((2 ^ w : Nat) : Int) = (2 : Int) ^ w := by rw [Int.natCast_pow]; rfl
  rw [← Int.natCast_emod]; rfl
theorem xorI {a b : Nat} (ha : a < 9223372036854775808) (hb : b < 9223372036854775808) (H : Hp) : vari .xor (.int .i64 (a : Int)) (.int .i64 (b : Int)) H = ⟨True, .int .i64 ((a ^^^ b : Nat) : Int), H⟩ := by
  have h3 : a ^^^ b < 2 ^ 63 := Nat.xor_lt_two_pow (by omega) (by omega)
  simp only [vari]
  rw [ofInt_n, ofInt_n, bits_i64, BitVec.toNat_xor, BitVec.toNat_ofNat, BitVec.toNat_ofNat, Nat.mod_eq_of_lt (by omega), Nat.mod_eq_of_lt (by omega), wrap_i64 (by omega)]
theorem xor1I {a : Nat} (ha : a < 9223372036854775808) (H : Hp) : vari .xor (.int .i64 (a : Int)) (.int .i64 1) H = ⟨True, .int .i64 ((a ^^^ 1 : Nat) : Int), H⟩ := xorI (b := 1) ha (by omega) H
theorem wrNat (n : Nat) (h : n < 9223372036854775808) : IntKind.i64.wrap (n : Int) = n := wrap_i64 (by omega)
theorem xor1_lt {a b : Nat} (h : a < 2 * b) : a ^^^ 1 < 2 * b := by
  have h1 : (a ^^^ 1) / 2 = a / 2 := by rw [Nat.xor_div_two]; simp
  omega
theorem tdiv_n (a b : Nat) : (a : Int).tdiv (b : Int) = ((a / b : Nat) : Int) := by
  rw [Int.tdiv_eq_ediv_of_nonneg (by omega), Int.natCast_ediv]
theorem tmod_n (a b : Nat) : (a : Int).tmod (b : Int) = ((a % b : Nat) : Int) := by
  rw [Int.tmod_eq_emod_of_nonneg (by omega), Int.natCast_emod]
def Dg.put (d : Dg) (k : Nat) (b : BitVec 8) : Dg := Dg.mk' fun j => if j = k then b else d.at j
theorem Dg.at_out (d : Dg) (j : Nat) (hj : ¬ j < 32) : d.at j = 0 := by
  rw [Dg.at, List.getD_eq_getElem?_getD, List.getElem?_eq_none (by rw [d.h]; omega)]; rfl
theorem set_dg {k : Nat} (hk : k < 32) (d : Dg) (b : BitVec 8) : V.set (B b) [.i 1 k] (dg d) = dg (d.put k b) := by
  simp only [dg, V.set, ite_B]
  congr 1
  funext j
  congr 1
  by_cases hj : j < 32
  · rw [Dg.put, Dg.at_mk' _ _ hj]
  · rw [Dg.at_out _ _ hj, if_neg (by omega), Dg.at_out _ _ hj]
theorem get_dg (k : Nat) (d : Dg) : V.get [.i 1 k] (dg d) = B (d.at k) := rfl
theorem ok_dg (k : Nat) (d : Dg) : V.ok [.i 1 k] (dg d) = (k < 32) := by simp [dg, V.ok]
end Mv
