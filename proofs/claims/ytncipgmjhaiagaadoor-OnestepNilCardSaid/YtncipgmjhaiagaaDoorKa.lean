/- keccak over natural numbers: for the kernel to work out. -/
import Derived.Test.YtncipgmjhaiagaaDoorDb
set_option linter.unusedSimpArgs false
set_option linter.unusedVariables false
namespace Mv

/-- Digits of w bits, the lowest first. -/
def packW (w : Nat) (v : Nat → Nat) : Nat → Nat
  | 0 => 0
  | k + 1 => packW w v k + (v k) <<< (w * k)
theorem packW_lt (w : Nat) (v : Nat → Nat) (hv : ∀ k, v k < 2 ^ w) : ∀ n, packW w v n < 2 ^ (w * n)
  | 0 => by simp [packW]
  | n + 1 => by
    have h := packW_lt w v hv n
    have h2 := hv n
    simp only [packW, Nat.shiftLeft_eq]
    rw [Nat.mul_succ, Nat.pow_add, Nat.mul_comm (2 ^ (w * n))]
    have h3 : (v n + 1) * 2 ^ (w * n) ≤ 2 ^ w * 2 ^ (w * n) := Nat.mul_le_mul_right _ h2
    rw [Nat.add_mul] at h3
    omega
theorem packW_digit (w : Nat) (v : Nat → Nat) (hv : ∀ k, v k < 2 ^ w) : ∀ n i, (packW w v n >>> (w * i)) % 2 ^ w = if i < n then v i else 0
  | 0, i => by simp [packW]
  | n + 1, i => by
    have ih := packW_digit w v hv n i
    have hlt := packW_lt w v hv n
    simp only [packW, Nat.shiftLeft_eq, Nat.shiftRight_eq_div_pow] at ih ⊢
    by_cases h1 : i < n
    · rw [if_pos h1] at ih
      rw [if_pos (by omega)]
      have e1 : w * n = w * i + (w + w * (n - i - 1)) := by
        have : n = i + 1 + (n - i - 1) := by omega
        rw [this, Nat.mul_add, Nat.mul_add]
        have e : i + 1 + (n - i - 1) - i - 1 = n - i - 1 := by omega
        rw [e]; omega
      have e2 : v n * 2 ^ (w * n) = 2 ^ (w * i) * (2 ^ w * (v n * 2 ^ (w * (n - i - 1)))) := by
        rw [e1, Nat.pow_add, Nat.pow_add]
        simp only [Nat.mul_assoc, Nat.mul_comm, Nat.mul_left_comm]
      rw [e2, Nat.add_mul_div_left _ _ (Nat.pow_pos (by omega)), Nat.add_mul_mod_self_left]
      exact ih
    · by_cases h2 : i = n
      · subst h2
        rw [if_pos (by omega), Nat.add_mul_div_right _ _ (Nat.pow_pos (by omega)), Nat.div_eq_of_lt hlt, Nat.zero_add, Nat.mod_eq_of_lt (hv i)]
      · rw [if_neg (by omega)]
        have h3 : packW w v n + v n * 2 ^ (w * n) < 2 ^ (w * i) := by
          have := packW_lt w v hv (n + 1)
          simp only [packW, Nat.shiftLeft_eq] at this
          exact Nat.lt_of_lt_of_le this (Nat.pow_le_pow_right (by omega) (Nat.mul_le_mul_left _ (by omega)))
        rw [Nat.div_eq_of_lt h3]; rfl
theorem packW_congr (w : Nat) {u v : Nat → Nat} : ∀ n, (∀ k, k < n → u k = v k) → packW w u n = packW w v n
  | 0, _ => rfl
  | n + 1, h => by rw [packW, packW, packW_congr w n (fun k hk => h k (by omega)), h n (by omega)]

def lane (s i : Nat) : Nat := (s >>> (64 * i)) % 18446744073709551616
def rolN (x k : Nat) : Nat := (x <<< k) % 18446744073709551616 ||| x >>> (64 - k)
def parN (s x : Nat) : Nat := lane s x ^^^ lane s (x + 5) ^^^ lane s (x + 10) ^^^ lane s (x + 15) ^^^ lane s (x + 20)
def dthN (s x : Nat) : Nat := parN s ((x + 4) % 5) ^^^ rolN (parN s ((x + 1) % 5)) 1
def thN (s j : Nat) : Nat := lane s j ^^^ dthN s (j % 5)
/-- The lane that comes to j, how far it is turned. -/
def srcs : List Nat := [0, 6, 12, 18, 24, 3, 9, 10, 16, 22, 1, 7, 13, 19, 20, 4, 5, 11, 17, 23, 2, 8, 14, 15, 21]
def trns : List Nat := [0, 44, 43, 21, 14, 28, 20, 3, 45, 61, 1, 6, 25, 8, 18, 27, 36, 10, 15, 56, 62, 55, 39, 41, 2]
def bN (s j : Nat) : Nat := rolN (thN s (srcs.getD j 0)) (trns.getD j 0)
def chiN (s j : Nat) : Nat := bN s j ^^^ ((18446744073709551615 ^^^ bN s (5 * (j / 5) + (j + 1) % 5)) &&& bN s (5 * (j / 5) + (j + 2) % 5))
def rcN (n : Nat) : Nat := (rounds.getD n 0).toNat
def rndN (s n : Nat) : Nat := packW 64 (fun k => chiN s k ^^^ (if k = 0 then rcN n else 0)) 25
def prmN (s : Nat) : Nat → Nat
  | 0 => s
  | n + 1 => rndN (prmN s n) n
def byteN (a j : Nat) : Nat := (a >>> (8 * j)) % 256
def padN (a b j : Nat) : Nat := if j < 32 then byteN a j else if j < 64 then byteN b (j - 32) else if j = 64 then 1 else if j = 135 then 128 else 0
def xwN (p : Nat → Nat) (j : Nat) : Nat → Nat
  | 0 => 0
  | k + 1 => xwN p j k ^^^ ((p (8 * j + k) <<< (8 * k)) % 18446744073709551616)
def inN (a b : Nat) : Nat := packW 64 (fun i => if i < 17 then xwN (padN a b) i 8 else 0) 25
def digN (s : Nat) : Nat := packW 8 (fun i => (lane s (i / 8) >>> (8 * (i % 8))) % 256) 32
/-- The digest of two digests, as numbers, the first byte the lowest. -/
def pairN (a b : Nat) : Nat := digN (prmN (inN a b) 24)

/-- A digest as a number. -/
def toN (d : Dg) : Nat := packW 8 (fun i => (d.at i).toNat) 32
theorem toN_byte (d : Dg) (i : Nat) (hi : i < 32) : byteN (toN d) i = (d.at i).toNat := by
  have h := packW_digit 8 (fun i => (d.at i).toNat) (fun k => (d.at k).isLt) 32 i
  rw [if_pos hi] at h
  exact h

/-- A state as a number. -/
def St (s : Nat) (l : List (BitVec 64)) : Prop := ∀ i, i < 25 → lane s i = (l.getD i 0).toNat

theorem rolN_rot (x : BitVec 64) (k : Nat) : rolN x.toNat k = (rot x k).toNat := rotl_rot x k
theorem par_St {s : Nat} {l : List (BitVec 64)} (h : St s l) (x : Nat) (hx : x < 5) : parN s x = (par l x).toNat := by
  simp only [parN, par, BitVec.toNat_xor, h x (by omega), h (x + 5) (by omega), h (x + 10) (by omega), h (x + 15) (by omega), h (x + 20) (by omega)]
theorem dth_St {s : Nat} {l : List (BitVec 64)} (h : St s l) (x : Nat) : dthN s x = (dth l x).toNat := by
  simp only [dthN, dth, BitVec.toNat_xor, par_St h _ (Nat.mod_lt _ (by omega : 0 < 5)), rolN_rot]
theorem th_St {s : Nat} {l : List (BitVec 64)} (h : St s l) (j : Nat) (hj : j < 25) : thN s j = ((th l).getD j 0).toNat := by
  rw [th_at _ _ hj, thq, if_pos (by omega), BitVec.toNat_xor, thN, h j hj, dth_St h]
end Mv
namespace Mv
set_option maxRecDepth 20000

def Ln (p : Nat) : Nat := (lanes.getD p 0).toNat
def Tn (p : Nat) : Nat := (turns.getD p 0).toNat
def pos : Nat → Nat
  | 0 => 1
  | p + 1 => Ln p
theorem Ln_lt : ∀ p, p < 24 → Ln p < 25 := by decide
theorem Ln_ne : ∀ p, p < 24 → ∀ q, q < 24 → p ≠ q → Ln p ≠ Ln q := by decide
theorem Ln_hit : ∀ j, j < 25 → j ≠ 0 → ∃ p, p < 24 ∧ Ln p = j ∧ pos p = srcs.getD j 0 ∧ Tn p = trns.getD j 0 := by decide
theorem Ln_pos : ∀ p, p < 24 → Ln p ≠ 0 := by decide

def valp (a : List (BitVec 64)) : Nat → Nat → BitVec 64
  | 0, j => a.getD j 0
  | p + 1, j => if j = Ln p then rot (a.getD (pos p) 0) (Tn p) else valp a p j
theorem valp_fresh (a : List (BitVec 64)) (j : Nat) : ∀ p, (∀ q, q < p → Ln q ≠ j) → valp a p j = a.getD j 0
  | 0, _ => rfl
  | p + 1, h => by rw [valp, if_neg (fun e => h p (by omega) e.symm), valp_fresh a j p (fun q hq => h q (by omega))]
theorem valp_hit (a : List (BitVec 64)) (p : Nat) : ∀ n, p < n → n ≤ 24 → valp a n (Ln p) = rot (a.getD (pos p) 0) (Tn p)
  | 0, h, _ => by omega
  | n + 1, h, h2 => by
    by_cases e : p = n
    · subst e; rw [valp, if_pos rfl]
    · rw [valp, if_neg (Ln_ne p (by omega) n (by omega) e), valp_hit a p n (by omega) (by omega)]
theorem rps_val (a : List (BitVec 64)) (ha : a.length = 25) : ∀ p, p ≤ 24 → (rps a p).1 = a.getD (pos p) 0 ∧ ∀ j, (rps a p).2.getD j 0 = valp a p j
  | 0, _ => ⟨rfl, fun _ => rfl⟩
  | p + 1, h => by
    obtain ⟨h1, h2⟩ := rps_val a ha p (by omega)
    refine ⟨?_, fun j => ?_⟩
    · show (rps a p).2.getD (Ln p) 0 = a.getD (Ln p) 0
      rw [h2, valp_fresh a _ p (fun q hq => Ln_ne q (by omega) p (by omega) (by omega))]
    · show ((rps a p).2.set (Ln p) (rot (rps a p).1 (Tn p))).getD j 0 = valp a (p + 1) j
      rw [set_at _ _ _ _ (by rw [rps_len a ha]; exact Ln_lt p (by omega)), h1, h2, valp]
theorem rot_0 (x : BitVec 64) : rot x 0 = x := by
  have h : x >>> 64 = 0 := by
    apply BitVec.eq_of_toNat_eq
    rw [BitVec.toNat_ushiftRight, Nat.shiftRight_eq_div_pow, Nat.div_eq_of_lt x.isLt]; rfl
  simp [rot, h]
theorem rps_at (a : List (BitVec 64)) (ha : a.length = 25) (j : Nat) (hj : j < 25) : (rps a 24).2.getD j 0 = rot (a.getD (srcs.getD j 0) 0) (trns.getD j 0) := by
  rw [(rps_val a ha 24 (Nat.le_refl _)).2]
  by_cases h0 : j = 0
  · subst h0
    rw [valp_fresh a 0 24 (fun q hq => Ln_pos q hq)]
    exact (rot_0 _).symm
  · obtain ⟨p, h1, h2, h3, h4⟩ := Ln_hit j hj h0
    rw [← h2, valp_hit a p 24 h1 (Nat.le_refl _), h2, h3, h4]

theorem srcs_lt : ∀ j, j < 25 → srcs.getD j 0 < 25 := by decide
theorem b_St {s : Nat} {l : List (BitVec 64)} (h : St s l) (j : Nat) (hj : j < 25) : bN s j = ((rps (th l) 24).2.getD j 0).toNat := by
  rw [rps_at _ (th_len l) j hj, bN, th_St h _ (srcs_lt j hj), rolN_rot]
theorem not_toN (x : BitVec 64) : (~~~x).toNat = 18446744073709551615 ^^^ x.toNat := by
  have h2 : BitVec.allOnes 64 ^^^ x = ~~~x := BitVec.allOnes_xor
  rw [← h2, BitVec.toNat_xor]; rfl
theorem chi_St {s : Nat} {l : List (BitVec 64)} (h : St s l) (j : Nat) (hj : j < 25) : chiN s j = (chq (rps (th l) 24).2 5 j).toNat := by
  rw [chq, if_pos (by omega), BitVec.toNat_xor, BitVec.toNat_and, not_toN, chiN, b_St h j hj, b_St h _ (by omega), b_St h _ (by omega)]
theorem rc_N (n : Nat) (hn : n < 24) : rcN n = (rc.getD n 0).toNat := by
  have := rc_at n hn
  rw [rcN, ← this]; rfl
theorem rnd_St {s : Nat} {l : List (BitVec 64)} (h : St s l) (n : Nat) (hn : n < 24) : St (rndN s n) (rnd l n) := by
  intro i hi
  have hw : ∀ k, (fun k => if k < 25 then ((rnd l n).getD k 0).toNat else 0) k < 2 ^ 64 := by
    intro k
    simp only
    split
    · exact BitVec.isLt _
    · exact Nat.pow_pos (by omega)
  have e : rndN s n = packW 64 (fun k => if k < 25 then ((rnd l n).getD k 0).toNat else 0) 25 := by
    unfold rndN
    refine packW_congr 64 25 (fun k hk => ?_)
    rw [if_pos hk, rnd_at _ _ _ hk, chi_St h k hk]
    by_cases h0 : k = 0
    · subst h0
      rw [if_pos rfl, if_pos rfl, BitVec.toNat_xor, rc_N n hn]
    · rw [if_neg h0, if_neg h0, Nat.xor_zero]
  have := packW_digit 64 _ hw 25 i
  rw [if_pos hi] at this
  simp only [if_pos hi] at this
  rw [lane, e]
  exact this
theorem prm_St {s : Nat} {l : List (BitVec 64)} (h : St s l) : ∀ n, n ≤ 24 → St (prmN s n) (permN l n)
  | 0, _ => h
  | n + 1, hn => rnd_St (prm_St h n (by omega)) n (by omega)

theorem xw_St (p : Nat → BitVec 8) (q : Nat → Nat) (j : Nat) : ∀ k, k ≤ 8 → (∀ i, i < 8 → q (8 * j + i) = (p (8 * j + i)).toNat) → xwN q j k = (pwx 0 p j k).toNat
  | 0, _, _ => rfl
  | k + 1, hk, h => by
    rw [xwN, pwx, BitVec.toNat_xor, xw_St p q j k (by omega) h, h k (by omega), BitVec.toNat_shiftLeft, BitVec.toNat_setWidth]
    have hb := (p (8 * j + k)).isLt
    rw [Nat.mod_eq_of_lt (by omega : (p (8 * j + k)).toNat < 2 ^ 64)]
theorem pad_N (a b : Dg) (k : Nat) (hk : k < 136) : padN (toN a) (toN b) k = (pad a b k).toNat := by
  unfold padN pad
  by_cases h1 : k < 32
  · rw [if_pos h1, if_pos h1, toN_byte a k h1]
  · rw [if_neg h1, if_neg h1]
    by_cases h2 : k < 64
    · rw [if_pos h2, if_pos h2, toN_byte b _ (by omega)]
    · rw [if_neg h2, if_neg h2]
      split
      · rfl
      · split <;> rfl
theorem in_St (a b : Dg) : St (inN (toN a) (toN b)) (mix (List.replicate 25 0) (pad a b)) := by
  intro i hi
  have hrep : (List.replicate 25 (0 : BitVec 64)).getD i 0 = 0 := by rw [List.getD, List.getElem?_replicate, if_pos hi]; rfl
  have hw : ∀ k, (fun k => if k < 17 then (pwx 0 (pad a b) k 8).toNat else 0) k < 2 ^ 64 := by
    intro k
    simp only
    split
    · exact BitVec.isLt _
    · exact Nat.pow_pos (by omega)
  have e : inN (toN a) (toN b) = packW 64 (fun k => if k < 17 then (pwx 0 (pad a b) k 8).toNat else 0) 25 := by
    unfold inN
    refine packW_congr 64 25 (fun k hk => ?_)
    by_cases h1 : k < 17
    · rw [if_pos h1, if_pos h1]
      exact xw_St (pad a b) _ k 8 (Nat.le_refl _) (fun i hi => pad_N a b _ (by omega))
    · rw [if_neg h1, if_neg h1]
  have := packW_digit 64 _ hw 25 i
  rw [if_pos hi] at this
  rw [lane, e]
  refine Eq.trans this ?_
  rw [mix_at _ _ _ hi, abq, hrep]
  by_cases h1 : i < 17
  · simp only [if_pos h1]
  · simp only [if_neg h1]
    split <;> rfl
theorem dig_St {s : Nat} {l : List (BitVec 64)} (h : St s l) : digN s = toN (dig l) := by
  unfold digN toN
  refine packW_congr 8 32 (fun k hk => ?_)
  rw [dig, Dg.at_mk' _ _ hk, BitVec.toNat_setWidth, BitVec.toNat_ushiftRight, h (k / 8) (by omega)]
theorem pair_N (a b : Dg) : toN (pair a b) = pairN (toN a) (toN b) := by
  rw [pairN, pair, absd, perm]
  exact (dig_St (prm_St (in_St a b) 24 (Nat.le_refl _))).symm

/-- Noughts, folds. -/
def noughtN : Nat → Nat
  | 0 => 0
  | h + 1 => pairN (noughtN h) (noughtN h)
theorem zero_N : toN Dg.zero = 0 := by
  have h : toN Dg.zero = packW 8 (fun _ => 0) 32 := packW_congr 8 32 (fun k _ => by simp only [Dg.at_zero]; rfl)
  rw [h]; decide
theorem nought_N : ∀ h, toN (nought h) = noughtN h
  | 0 => zero_N
  | h + 1 => by rw [nought, pair_N, nought_N h, noughtN]
end Mv
