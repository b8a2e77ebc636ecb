/- A part. -/
import Derived.Test.YtncipgmjhaiagaaGreatDoorBC
set_option linter.all false
set_option maxRecDepth 20000
set_option maxHeartbeats 4000000
namespace Mv
open Go
variable {M : Seat}
structure OkX (M : Seat) : Prop where
 k90 : Al M 90 YK = true
 k226 : Al M 226 Ah9 = true
 k227 : Al M 227 Lf = true
 k228 : Al M 228 Ahc = true
 k229 : Al M 229 Agf = true
 k230 : Al M 230 QQ = true
 k335 : Al M 335 ZO = true
 k336 : Al M 336 Adt = true
def Ka (r n b : BitVec 64) : Prop := r >>> 63 = 1#64 ∨ n ≤ (r <<< 1 ||| b)
instance (r n b : BitVec 64) : Decidable (Ka r n b) := inferInstanceAs (Decidable (_ ∨ _))
theorem Vb (r n b q : BitVec 64) (P : Nat) (hb : b.toNat < 2) (hn : 0 < n.toNat) (hr : r.toNat = P % n.toNat) (hq : q.toNat = P / n.toNat % 18446744073709551616) :
 (if Ka r n b then (r <<< 1 ||| b) - n else (r <<< 1 ||| b)).toNat = (2 * P + b.toNat) % n.toNat ∧
 (if Ka r n b then q <<< 1 ||| 1#64 else q <<< 1).toNat = (2 * P + b.toNat) / n.toNat % 18446744073709551616 := by
 have hrn : r.toNat < n.toNat := by rw [hr]; exact Nat.mod_lt _ hn
 have hnl := n.isLt
 have e1 : (r <<< 1 ||| b).toNat = 2 * r.toNat % 18446744073709551616 + b.toNat := by
  rw [BitVec.toNat_or, BitVec.toNat_shiftLeft, Nat.shiftLeft_eq]
  have h2 : r.toNat * 2 ^ 1 % 2 ^ 64 = 2 * (r.toNat % 2 ^ 63) := Aa
  rw [h2, show 2 * (r.toNat % 2 ^ 63) = (r.toNat % 2 ^ 63) <<< 1 by rw [Nat.shiftLeft_eq]; omega, ← Nat.shiftLeft_add_eq_or_of_lt Aa, Nat.shiftLeft_eq]
  omega
 have e2 : (r >>> 63 = 1#64) ↔ 18446744073709551616 ≤ 2 * r.toNat := by
  have e : (r >>> 63).toNat = r.toNat / 9223372036854775808 := by rw [BitVec.toNat_ushiftRight, Nat.shiftRight_eq_div_pow]
  constructor
  ·intro h
   rw [h] at e
   have e' : 1 = r.toNat / 9223372036854775808 := e
   omega
  ·intro h
   apply BitVec.eq_of_toNat_eq
   rw [e]
   show _ = 1
   have := r.isLt
   omega
 have hc : Ka r n b ↔ n.toNat ≤ 2 * r.toNat + b.toNat := by
  unfold Ka
  rw [e2, BitVec.le_def, e1]
  omega
 have eP := Nat.div_add_mod P n.toNat
 rw [← hr] at eP
 have eq1 : (q <<< 1).toNat = 2 * (P / n.toNat) % 18446744073709551616 := by
  rw [BitVec.toNat_shiftLeft, Nat.shiftLeft_eq, hq]; omega
 have eq2 : (q <<< 1 ||| 1#64).toNat = (2 * (P / n.toNat) + 1) % 18446744073709551616 := by
  rw [BitVec.toNat_or, eq1, show (1#64 : BitVec 64).toNat = 1 from rfl]
  have h3 : 2 * (P / n.toNat) % 18446744073709551616 = (P / n.toNat % 9223372036854775808) <<< 1 := by rw [Nat.shiftLeft_eq]; omega
  rw [h3, ← Nat.shiftLeft_add_eq_or_of_lt Aa, Nat.shiftLeft_eq]
  omega
 by_cases h : Ka r n b
 ·rw [if_pos h, if_pos h]
  have h' := hc.1 h
  have er : (r <<< 1 ||| b) - n = BitVec.ofNat 64 (2 * r.toNat + b.toNat - n.toNat) := by
   apply BitVec.eq_of_toNat_eq
   rw [BitVec.toNat_sub, e1, BitVec.toNat_ofNat]
   omega
  have e3 : 2 * P + b.toNat = n.toNat * (2 * (P / n.toNat) + 1) + (2 * r.toNat + b.toNat - n.toNat) := by
   rw [Nat.mul_add, Nat.mul_one, Nat.mul_left_comm]
   omega
  constructor
  ·rw [er, BitVec.toNat_ofNat, e3, Nat.mul_add_mod, Nat.mod_eq_of_lt (a := 2 * r.toNat + b.toNat - n.toNat) (b := n.toNat) Aa, Nat.mod_eq_of_lt Aa]
  ·rw [eq2, e3, Nat.mul_add_div hn, Nat.div_eq_of_lt (a := 2 * r.toNat + b.toNat - n.toNat) (b := n.toNat) Aa, Nat.add_zero]
 ·rw [if_neg h, if_neg h]
  have h' : ¬ n.toNat ≤ 2 * r.toNat + b.toNat := fun x => h (hc.2 x)
  have e3 : 2 * P + b.toNat = n.toNat * (2 * (P / n.toNat)) + (2 * r.toNat + b.toNat) := by
   rw [Nat.mul_left_comm]
   omega
  constructor
  ·rw [e1, e3, Nat.mul_add_mod, Nat.mod_eq_of_lt (a := 2 * r.toNat + b.toNat) (b := n.toNat) Aa]
   omega
  ·rw [eq1, e3, Nat.mul_add_div hn, Nat.div_eq_of_lt (a := 2 * r.toNat + b.toNat) (b := n.toNat) Aa, Nat.add_zero]
theorem On (ok : OkX M) (t : Bool) : Af M 228 [.bool t] [] 0 (Q3 (W (Vg t)) [] 0) := by
 refine Ac ok.k228 rfl fun x hx => ?_
 cases t
 all_goals refine es 2000 ?_; (simp only [Ahc, Alz, LZ, seval])
 all_goals (have zz := @Vg.eq_1; exact Bg hx [] ⟨rfl, rfl, rfl⟩)
theorem Ac1 (a : BitVec 64) : (9223372036854775808#64 ≤ a) = (a.toInt < 0) := by
 rw [BitVec.le_def, BitVec.toInt_eq_toNat_cond]
 have := a.isLt
 have e : (9223372036854775808#64 : BitVec 64).toNat = 9223372036854775808 := rfl
 rw [e]
 apply propext
 split <;> omega
theorem BT (ok : OkX M) (a : BitVec 64) : Af M 336 [W a] [] 0 (Q3 (.bool (decide (a.toInt < 0))) [] 0) := by
 refine Ac ok.k336 rfl fun x hx => ?_
 refine es 2000 ?_; (simp only [Adt, Amh, Ac1, LZ, seval])
 exact Aq.mkZ hx [] ⟨rfl, rfl, rfl⟩
def Rf (a : BitVec 64) : BitVec 64 := if a.toInt < 0 then -a else a
theorem Gm (ok : OkX M) (a : BitVec 64) : Af M 335 [W a] [] 0 (Q3 (W (Rf a)) [] 0) := by
 refine Ac ok.k335 rfl fun x hx => ?_
 rcases Classical.propComplete (a.toInt < 0) with h | h
 ·have e : Rf a = 0#64 - a := by rw [Rf, if_pos (of_eq_true h), BitVec.zero_sub]
  rw [e]
  refine es 2000 ?_; (simp only [ZO, Agk, LZ, seval])
  refine Ah (BT ok a) ?_
  (simp only [h, LZ, seval])
  exact Aq.mkZ hx [] ⟨rfl, rfl, rfl⟩
 ·have e : Rf a = a := by rw [Rf, if_neg (of_eq_false h)]
  rw [e]
  refine es 2000 ?_; (simp only [ZO, Agk, LZ, seval])
  refine Ah (BT ok a) ?_
  (simp only [h, LZ, seval])
  exact Aq.mkZ hx [] ⟨rfl, rfl, rfl⟩
theorem Ab1 (a b : BitVec 64) : ((a &&& 4294967295#64) * (b >>> 32) + ((a >>> 32) * (b &&& 4294967295#64) + ((a &&& 4294967295#64) * (b &&& 4294967295#64)) >>> 32 &&& 4294967295#64)) <<< 32 ||| ((a &&& 4294967295#64) * (b &&& 4294967295#64) &&& 4294967295#64) = a * b := by
 have ha := a.isLt
 have hb := b.isLt
 have l1 : (a &&& 4294967295#64).toNat < 4294967296 := by rw [Ly]; omega
 have l2 : (b &&& 4294967295#64).toNat < 4294967296 := by rw [Ly]; omega
 have l3 : (a >>> 32).toNat < 4294967296 := by rw [Eu]; omega
 have l4 : (b >>> 32).toNat < 4294967296 := by rw [Eu]; omega
 have m1 := Q0 l1 l2
 have m2 := Q0 l3 l2
 have m3 := Q0 l1 l4
 have b1 := IL l1 l2
 have b2 := IL l3 l2
 have b3 := IL l1 l4
 have ea : a.toNat = (a >>> 32).toNat * 4294967296 + (a &&& 4294967295#64).toNat := ZV
 have eb : b.toNat = (b >>> 32).toNat * 4294967296 + (b &&& 4294967295#64).toNat := ZV
 have ep : a.toNat * b.toNat = (a >>> 32).toNat * (b >>> 32).toNat * 18446744073709551616 + ((a >>> 32).toNat * (b &&& 4294967295#64).toNat + (a &&& 4294967295#64).toNat * (b >>> 32).toNat) * 4294967296 + (a &&& 4294967295#64).toNat * (b &&& 4294967295#64).toNat := by
  rw [ea, eb]
  generalize (a >>> 32).toNat = p
  generalize (b >>> 32).toNat = q
  generalize (a &&& 4294967295#64).toNat = r
  generalize (b &&& 4294967295#64).toNat = s
  rw [Nat.add_mul, Nat.mul_add, Nat.mul_add, Nat.mul_mul_mul_comm, Nat.mul_right_comm p _ s, ← Nat.mul_assoc r q, Nat.add_mul]
  omega
 apply BitVec.eq_of_toNat_eq
 rw [BitVec.toNat_mul, ep]
 generalize (a &&& 4294967295#64) = x0 at *
 generalize (b &&& 4294967295#64) = y0 at *
 generalize (a >>> 32) = x1 at *
 generalize (b >>> 32) = y1 at *
 have t1 : (x1 * y0 + (x0 * y0) >>> 32).toNat = x1.toNat * y0.toNat + x0.toNat * y0.toNat / 4294967296 := by
  rw [Rg (by rw [Eu, m1, m2]; omega), Eu, m1, m2]
 have t2 : (x0 * y1 + ((x1 * y0 + (x0 * y0) >>> 32) &&& 4294967295#64)).toNat = x0.toNat * y1.toNat + (x1.toNat * y0.toNat + x0.toNat * y0.toNat / 4294967296) % 4294967296 := by
  rw [Rg (by rw [Ly, t1, m3]; omega), Ly, t1, m3]
 rw [BitVec.toNat_or, BitVec.toNat_shiftLeft, t2, Ly, m1, Nat.shiftLeft_eq]
 generalize x0.toNat * y0.toNat = A at *
 generalize x1.toNat * y0.toNat = B at *
 generalize x0.toNat * y1.toNat = C at *
 have e1 : (C + (B + A / 4294967296) % 4294967296) * 2 ^ 32 % 2 ^ 64 = ((C + (B + A / 4294967296) % 4294967296) % 4294967296) <<< 32 := by
  rw [Nat.shiftLeft_eq]; omega
 rw [e1, ← Nat.shiftLeft_add_eq_or_of_lt Aa, Nat.shiftLeft_eq]
 omega
theorem Iw (ok : OkX M) (a b : BitVec 64) : Af M 226 [W a, W b] [] 0 (Q3 (Ao (W (UH a b)) (W (a * b))) [] 0) := by
 refine Ac ok.k226 rfl fun x hx => ?_
 have e : UH a b = (a >>> 32) * (b >>> 32) + ((a >>> 32) * (b &&& 4294967295#64) + ((a &&& 4294967295#64) * (b &&& 4294967295#64)) >>> 32) >>> 32 + ((a &&& 4294967295#64) * (b >>> 32) + ((a >>> 32) * (b &&& 4294967295#64) + ((a &&& 4294967295#64) * (b &&& 4294967295#64)) >>> 32 &&& 4294967295#64)) >>> 32 := by
  rw [UH, BitVec.add_comm ((a &&& 4294967295#64) * (b >>> 32))]
 rw [e, ← Ab1 a b]
 refine es 2000 ?_; (simp only [Ah9, Ald, LZ, seval])
 have zz := @Ao.eq_1; exact Bg hx [] ⟨rfl, rfl, rfl⟩
def E4 (hi lo : BitVec 64) : Nat := hi.toNat * 18446744073709551616 + lo.toNat
theorem Adw (hi lo : BitVec 64) (k : Nat) (h : 64 ≤ k) : (hi >>> (k - 64) &&& 1#64).toNat = E4 hi lo / 2 ^ k % 2 := by
 obtain ⟨j, rfl⟩ : ∃ j, k = 64 + j := ⟨k - 64, by omega⟩
 rw [BitVec.toNat_and, BitVec.toNat_ushiftRight, Nat.shiftRight_eq_div_pow, show 64 + j - 64 = j by omega, show (1#64 : BitVec 64).toNat = 1 from rfl, Nat.and_one_is_mod, Nat.pow_add, ← Nat.div_div_eq_div_mul, E4]
 have := lo.isLt
 have e : (hi.toNat * 18446744073709551616 + lo.toNat) / 2 ^ 64 = hi.toNat := by
  have e2 : (2 : Nat) ^ 64 = 18446744073709551616 := Ak
  rw [e2]; omega
 rw [e]
theorem Aed (hi lo : BitVec 64) (k : Nat) (h : k < 64) : (lo >>> k &&& 1#64).toNat = E4 hi lo / 2 ^ k % 2 := by
 rw [BitVec.toNat_and, BitVec.toNat_ushiftRight, Nat.shiftRight_eq_div_pow, show (1#64 : BitVec 64).toNat = 1 from rfl, Nat.and_one_is_mod, E4]
 have e : hi.toNat * 18446744073709551616 = 2 ^ k * (2 * (hi.toNat * 2 ^ (63 - k))) := by
  have e2 : (18446744073709551616 : Nat) = 2 ^ k * 2 * 2 ^ (63 - k) := by
   rw [← Nat.pow_succ, ← Nat.pow_add, show k + 1 + (63 - k) = 64 by omega]
  rw [e2, Nat.mul_assoc (2 ^ k), Nat.mul_left_comm hi.toNat, Nat.mul_left_comm hi.toNat]
 rw [e, Nat.mul_add_div (Nat.pow_pos Ak)]
 omega
def rsQ (hi lo n : BitVec 64) : BitVec 64 := BitVec.ofNat 64 (E4 hi lo / n.toNat)
def rsR (hi lo n : BitVec 64) : BitVec 64 := BitVec.ofNat 64 (E4 hi lo % n.toNat)
def rsI (hi lo n : BitVec 64) (s : Nat × BitVec 64 × BitVec 64) : Prop := s.1 ≤ 128 ∧ s.2.2.toNat = E4 hi lo / 2 ^ s.1 % n.toNat ∧ s.2.1.toNat = E4 hi lo / 2 ^ s.1 / n.toNat % 18446744073709551616
theorem XY {hi lo n : BitVec 64} (hn : 0 < n.toNat) {k : Nat} {q r b q' r' : BitVec 64} (h : rsI hi lo n (k + 1, q, r)) (hb : b.toNat = E4 hi lo / 2 ^ k % 2)
 (hr : r' = if Ka r n b then (r <<< 1 ||| b) - n else (r <<< 1 ||| b)) (hq : q' = if Ka r n b then q <<< 1 ||| 1#64 else q <<< 1) : rsI hi lo n (k, q', r') := by
 obtain ⟨h1, h2, h3⟩ := h
 dsimp only at h1 h2 h3
 have hs := Vb r n b q _ Aa hn h2 h3
 have e : 2 * (E4 hi lo / 2 ^ (k + 1)) + b.toNat = E4 hi lo / 2 ^ k := by
  rw [Nat.pow_succ, ← Nat.div_div_eq_div_mul, hb]; omega
 rw [e] at hs
 exact ⟨by show k ≤ 128; omega, by rw [hr]; exact hs.1, by rw [hq]; exact hs.2⟩
theorem D6 (ok : OkX M) (hi lo n : BitVec 64) (hn : 0 < n.toNat) : Af M 229 [W hi, W lo, W n] [] 0 (Q3 (Ao (W (rsQ hi lo n)) (W (rsR hi lo n))) [] 0) := by
 refine Ac ok.k229 rfl fun x hx => ?_
 generalize hF : rsQ hi lo n = F
 generalize hG : rsR hi lo n = G
 refine es 2000 ?_; (simp only [Agf, Ajc, LZ, seval])
 refine Ag (σ := Nat × BitVec 64 × BitVec 64) (rsI hi lo n) (fun s => fr 52 [(0, W hi), (1, W lo), (2, W n), (8, W s.2.1), (9, W s.2.2), (10, .int .i64 ((s.1 : Int) - 1))]) (fun _ => []) (fun _ => 0) (fun s => s.1) (128, 0#64, 0#64) ?_ ?_ ?_
 ·have hT : E4 hi lo / 2 ^ 128 = 0 := by
   refine Nat.div_eq_of_lt ?_
   have h1 := hi.isLt
   have h2 := lo.isLt
   have e : (2 : Nat) ^ 128 = 18446744073709551616 * 18446744073709551616 := Ak
   rw [E4, e]; omega
  refine ⟨Nat.le_refl _, ?_, ?_⟩
  ·show 0 = _; rw [hT, Nat.zero_mod]
  ·show 0 = _; rw [hT, Nat.zero_div]
 ·refine Aj.fr [] [] hx Ax Ak ?_ ?_
  ·simp only [LY, seval]
  ·trivial
 ·rintro ⟨k, q, r⟩ hI
  refine es 2000 ?_
  cases k with
  | zero =>
    have hz : (((0 : Nat) : Int) - 1) = -1 := rfl
    obtain ⟨_, h2, h3⟩ := hI
    dsimp only at h2 h3
    rw [Nat.pow_zero, Nat.div_one] at h2 h3
    have e1 : q = F := by rw [← hF]; exact BitVec.eq_of_toNat_eq (by rw [h3, rsQ, BitVec.toNat_ofNat])
    have e2 : r = G := by rw [← hG]; exact BitVec.eq_of_toNat_eq (by rw [h2, rsR, BitVec.toNat_ofNat]; exact (Nat.mod_eq_of_lt (Nat.lt_trans (Nat.mod_lt _ hn) n.isLt)).symm)
    subst e1 e2
    (simp only [hz, LZ, seval])
    exact Aq.mkZ hx [] ⟨rfl, rfl, rfl⟩
  | succ k =>
    have hk := hI.1
    dsimp only at hk
    have hz : (((k + 1 : Nat) : Int) - 1) = k := Aa
    have g0 : (0 ≤ (k : Int)) = True := eq_true Aa
    have w1 : IntKind.i64.wrap ((k : Int) - 1) = (k : Int) - 1 := AI Aa
    have hstep := fun b q' r' => XY (b := b) (q' := q') (r' := r') hn hI
    have tl : ∀ b : BitVec 64, (r >>> 63 = 1#64) = True → Ka r n b := fun b h => Or.inl (of_eq_true h)
    have tr : ∀ b : BitVec 64, (n ≤ (r <<< 1 ||| b)) = True → Ka r n b := fun b h => Or.inr (of_eq_true h)
    have tn : ∀ b : BitVec 64, (r >>> 63 = 1#64) = False → (n ≤ (r <<< 1 ||| b)) = False → ¬ Ka r n b := fun b h h' x => x.elim (of_eq_false h) (of_eq_false h')
    by_cases h64 : 64 ≤ k
    ·have g64 : ((64 : Int) ≤ (k : Int)) = True := eq_true Aa
     have w2 : IntKind.i64.wrap ((k : Int) - 64) = ((k - 64 : Nat) : Int) := A9
     have w3 := Ih (k - 64) Aa
     have hb := Adw hi lo k h64
     obtain ⟨b, hbe⟩ : ∃ b, (hi >>> (k - 64) &&& 1#64) = b := ⟨_, rfl⟩
     rw [hbe] at hb
     rcases Classical.propComplete (r >>> 63 = 1#64) with c1 | c1
     ·skip
      (simp only [hz, g0, g64, w1, w2, w3, hbe, c1, LZ, seval])
      refine ⟨(k, q <<< 1 ||| 1#64, (r <<< 1 ||| b) - n), hstep b _ _ hb Aax Aax, Nat.lt_succ_self k, ?_⟩
      refine Aj.fr [] [] hx Ax Ak ?_ ?_
      ·simp only [LY, seval]
      ·trivial
     ·rcases Classical.propComplete (n ≤ (r <<< 1 ||| b)) with c2 | c2
      ·skip
       (simp only [hz, g0, g64, w1, w2, w3, hbe, c1, c2, LZ, seval])
       refine ⟨(k, q <<< 1 ||| 1#64, (r <<< 1 ||| b) - n), hstep b _ _ hb Abk Abk, Nat.lt_succ_self k, ?_⟩
       refine Aj.fr [] [] hx Ax Ak ?_ ?_
       ·simp only [LY, seval]
       ·trivial
      ·skip
       (simp only [hz, g0, g64, w1, w2, w3, hbe, c1, c2, LZ, seval])
       refine ⟨(k, q <<< 1, r <<< 1 ||| b), hstep b _ _ hb Abz Abz, Nat.lt_succ_self k, ?_⟩
       refine Aj.fr [] [] hx Ax Ak ?_ ?_
       ·simp only [LY, seval]
       ·trivial
    ·have g64 : ((64 : Int) ≤ (k : Int)) = False := eq_false Aa
     have w3 := Ih k Aa
     have hb := Aed hi lo k Aa
     obtain ⟨b, hbe⟩ : ∃ b, (lo >>> k &&& 1#64) = b := ⟨_, rfl⟩
     rw [hbe] at hb
     rcases Classical.propComplete (r >>> 63 = 1#64) with c1 | c1
     ·skip
      (simp only [hz, g0, g64, w1, w3, hbe, c1, LZ, seval])
      refine ⟨(k, q <<< 1 ||| 1#64, (r <<< 1 ||| b) - n), hstep b _ _ hb Aax Aax, Nat.lt_succ_self k, ?_⟩
      refine Aj.fr [] [] hx Ax Ak ?_ ?_
      ·simp only [LY, seval]
      ·trivial
     ·rcases Classical.propComplete (n ≤ (r <<< 1 ||| b)) with c2 | c2
      ·skip
       (simp only [hz, g0, g64, w1, w3, hbe, c1, c2, LZ, seval])
       refine ⟨(k, q <<< 1 ||| 1#64, (r <<< 1 ||| b) - n), hstep b _ _ hb Abk Abk, Nat.lt_succ_self k, ?_⟩
       refine Aj.fr [] [] hx Ax Ak ?_ ?_
       ·simp only [LY, seval]
       ·trivial
      ·skip
       (simp only [hz, g0, g64, w1, w3, hbe, c1, c2, LZ, seval])
       refine ⟨(k, q <<< 1, r <<< 1 ||| b), hstep b _ _ hb Abz Abz, Nat.lt_succ_self k, ?_⟩
       refine Aj.fr [] [] hx Ax Ak ?_ ?_
       ·simp only [LY, seval]
       ·trivial
theorem FM (a b : BitVec 64) (hb : ¬ b = 0#64) : rsQ 0#64 a b = a / b ∧ rsR 0#64 a b = a % b := by
 have ha := a.isLt
 have e : E4 0#64 a = a.toNat := by simp [E4]
 refine ⟨BitVec.eq_of_toNat_eq ?_, BitVec.eq_of_toNat_eq ?_⟩
 ·rw [rsQ, e, BitVec.toNat_ofNat, BitVec.toNat_udiv, Nat.mod_eq_of_lt (Nat.lt_of_le_of_lt (Nat.div_le_self _ _) ha)]
 ·rw [rsR, e, BitVec.toNat_ofNat, BitVec.toNat_umod, Nat.mod_eq_of_lt (Nat.lt_of_le_of_lt (Nat.mod_le _ _) ha)]
theorem Ge (b : BitVec 64) (hb : ¬ b = 0#64) : ¬ Rf b = 0#64 := by
 unfold Rf
 split
 ·exact fun h => hb (by have := congrArg (fun x => -x) h; simpa using this)
 ·exact hb
theorem M4 (b : BitVec 64) (h : ¬ b = 0#64) : 0 < b.toNat := Nat.pos_of_ne_zero fun e => h (BitVec.eq_of_toNat_eq (by simpa using e))
theorem VP (ok : OkX M) (a b : BitVec 64) : Af M 227 [.int .i64 4, W a, W b] [] 0 (Q3 (W (E3 4 a b)) [] 0) := by
 refine Ac ok.k227 rfl fun x hx => ?_
 by_cases hb : b = 0#64
 ·subst hb
  refine es 2000 ?_; (simp only [Lf, Ob, LZ, seval])
  have zz := @E3.eq_1; exact Bg hx [] ⟨rfl, rfl, rfl⟩
 ·have r1 := D6 ok 0#64 a b (M4 b hb)
  rw [(FM a b hb).1, (FM a b hb).2] at r1
  have z0 : (b = 0#64) = False := eq_false hb
  generalize hF : E3 4 a b = F
  simp only [E3, hb, CD, seval] at hF
  subst hF
  refine es 2000 ?_; (simp only [Lf, Ob, z0, LZ, seval])
  refine Ah (r1) ?_
  (simp only [Cb, seval])
  exact Aq.mkZ hx [] ⟨rfl, rfl, rfl⟩
theorem Yn (ok : OkX M) (a b : BitVec 64) : Af M 227 [.int .i64 6, W a, W b] [] 0 (Q3 (W (E3 6 a b)) [] 0) := by
 refine Ac ok.k227 rfl fun x hx => ?_
 by_cases hb : b = 0#64
 ·subst hb
  refine es 2000 ?_; (simp only [Lf, Ob, LZ, seval])
  have zz := @E3.eq_1; exact Bg hx [] ⟨rfl, rfl, rfl⟩
 ·have r1 := D6 ok 0#64 a b (M4 b hb)
  rw [(FM a b hb).1, (FM a b hb).2] at r1
  have z0 : (b = 0#64) = False := eq_false hb
  generalize hF : E3 6 a b = F
  simp only [E3, hb, CD, seval] at hF
  subst hF
  refine es 2000 ?_; (simp only [Lf, Ob, z0, LZ, seval])
  refine Ah (r1) ?_
  (simp only [Cb, seval])
  exact Aq.mkZ hx [] ⟨rfl, rfl, rfl⟩
theorem W7 (ok : OkX M) (a b : BitVec 64) : Af M 227 [.int .i64 5, W a, W b] [] 0 (Q3 (W (E3 5 a b)) [] 0) := by
 refine Ac ok.k227 rfl fun x hx => ?_
 by_cases hb : b = 0#64
 ·subst hb
  refine es 2000 ?_; (simp only [Lf, Ob, LZ, seval])
  have zz := @E3.eq_1; exact Bg hx [] ⟨rfl, rfl, rfl⟩
 ·have r2 := D6 ok 0#64 (Rf a) (Rf b) (M4 _ (Ge b hb))
  rw [(FM _ _ (Ge b hb)).1, (FM _ _ (Ge b hb)).2] at r2
  have s1 := Gm ok a
  have s2 := Gm ok b
  have n1 := BT ok a
  have n2 := BT ok b
  have e1 : (Rf a) = if a.toInt < 0 then -a else a := rfl
  have e2 : (Rf b) = if b.toInt < 0 then -b else b := rfl
  generalize hF : E3 5 a b = F
  have z0 : (b = 0#64) = False := eq_false hb
  rcases Classical.propComplete (a.toInt < 0) with h1 | h1 <;> rcases Classical.propComplete (b.toInt < 0) with h2 | h2
  all_goals
   simp only [h1, h2, CD] at e1 e2
   simp only [E3, hb, h1, h2, Vj, iff_self, iff_true, iff_false, true_iff, false_iff, not_false_eq_true, seval] at hF
   simp only [e1, e2] at s1 s2 r2
   simp only [h1, h2, decide_true, decide_false] at n1 n2
   try rw [← BitVec.zero_sub] at hF
   subst hF
   refine es 2000 ?_; (simp only [Lf, Ob, z0, LZ, seval])
   refine Ah (s1) ?_
   (simp only [LZ, seval])
   refine Ah (s2) ?_
   (simp only [LZ, seval])
   refine Ah (r2) ?_
   (simp only [Cb, seval])
   try (refine Ah (n1) ?_)
   (simp only [LZ, seval])
   try (refine Ah (n2) ?_)
   try (simp only [LZ, seval])
   exact Aq.mkZ hx [] ⟨rfl, rfl, rfl⟩
theorem VV (ok : OkX M) (a b : BitVec 64) : Af M 227 [.int .i64 7, W a, W b] [] 0 (Q3 (W (E3 7 a b)) [] 0) := by
 refine Ac ok.k227 rfl fun x hx => ?_
 by_cases hb : b = 0#64
 ·subst hb
  refine es 2000 ?_; (simp only [Lf, Ob, LZ, seval])
  have zz := @E3.eq_1; exact Bg hx [] ⟨rfl, rfl, rfl⟩
 ·have r2 := D6 ok 0#64 (Rf a) (Rf b) (M4 _ (Ge b hb))
  rw [(FM _ _ (Ge b hb)).1, (FM _ _ (Ge b hb)).2] at r2
  have s1 := Gm ok a
  have s2 := Gm ok b
  have n1 := BT ok a
  have n2 := BT ok b
  have e1 : (Rf a) = if a.toInt < 0 then -a else a := rfl
  have e2 : (Rf b) = if b.toInt < 0 then -b else b := rfl
  generalize hF : E3 7 a b = F
  have z0 : (b = 0#64) = False := eq_false hb
  rcases Classical.propComplete (a.toInt < 0) with h1 | h1 <;> rcases Classical.propComplete (b.toInt < 0) with h2 | h2
  all_goals
   simp only [h1, h2, CD] at e1 e2
   simp only [E3, hb, h1, h2, Vj, iff_self, iff_true, iff_false, true_iff, false_iff, not_false_eq_true, seval] at hF
   simp only [e1, e2] at s1 s2 r2
   simp only [h1, h2, decide_true, decide_false] at n1 n2
   try rw [← BitVec.zero_sub] at hF
   subst hF
   refine es 2000 ?_; (simp only [Lf, Ob, z0, LZ, seval])
   refine Ah (s1) ?_
   (simp only [LZ, seval])
   refine Ah (s2) ?_
   (simp only [LZ, seval])
   refine Ah (r2) ?_
   (simp only [Cb, seval])
   try (refine Ah (n1) ?_)
   (simp only [LZ, seval])
   try (refine Ah (n2) ?_)
   try (simp only [LZ, seval])
   exact Aq.mkZ hx [] ⟨rfl, rfl, rfl⟩
end Mv
