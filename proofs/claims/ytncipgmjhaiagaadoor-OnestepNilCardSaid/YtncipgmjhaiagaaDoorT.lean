/- Small laws for runs. -/
import Derived.Test.YtncipgmjhaiagaaDoorQ
set_option linter.unusedSimpArgs false
set_option linter.unusedVariables false
namespace Mv
open Go
theorem solid_int (k : IntKind) (n : Int) : (V.int k n).solid = true := rfl
theorem size_int (k : IntKind) (n : Int) : (V.int k n).size = 1 := rfl
theorem agg_int (k : IntKind) (n : Int) : (V.int k n).isAgg = false := rfl
theorem solid_bool (b : Bool) : (V.bool b).solid = true := rfl
theorem size_bool (b : Bool) : (V.bool b).size = 1 := rfl
theorem agg_bool (b : Bool) : (V.bool b).isAgg = false := rfl
theorem solid_str (s : ByteArray) : (V.str s).solid = true := rfl
theorem size_str (s : ByteArray) : (V.str s).size = 1 := rfl
theorem agg_str (s : ByteArray) : (V.str s).isAgg = false := rfl
theorem solid_nilp : V.nilp.solid = true := rfl
theorem size_nilp : V.nilp.size = 1 := rfl
theorem agg_nilp : V.nilp.isAgg = false := rfl
theorem solid_ptr (i : Nat) (p : List Stp) : (V.ptr i p).solid = true := rfl
theorem size_ptr (i : Nat) (p : List Stp) : (V.ptr i p).size = 1 := rfl
theorem agg_ptr (i : Nat) (p : List Stp) : (V.ptr i p).isAgg = false := rfl
theorem solid_imm (v : V) : (V.imm v).solid = true := rfl
theorem size_imm (v : V) : (V.imm v).size = 1 := rfl
theorem agg_imm (v : V) : (V.imm v).isAgg = false := rfl
theorem solid_nils : V.nils.solid = true := rfl
theorem size_nils : V.nils.size = 1 := rfl
theorem agg_nils : V.nils.isAgg = false := rfl
theorem solid_sl (i : Nat) (p : List Stp) (o n sz : Nat) : (V.sl i p o n sz).solid = true := rfl
theorem size_sl (i : Nat) (p : List Stp) (o n sz : Nat) : (V.sl i p o n sz).size = 1 := rfl
theorem agg_sl (i : Nat) (p : List Stp) (o n sz : Nat) : (V.sl i p o n sz).isAgg = false := rfl
theorem solid_lst (sz n : Nat) (f : Nat → V) : (V.lst sz n f).solid = true := rfl
theorem size_lst (sz n : Nat) (f : Nat → V) : (V.lst sz n f).size = 1 := rfl
theorem agg_lst (sz n : Nat) (f : Nat → V) : (V.lst sz n f).isAgg = false := rfl
theorem solid_nilm : V.nilm.solid = true := rfl
theorem size_nilm : V.nilm.size = 1 := rfl
theorem agg_nilm : V.nilm.isAgg = false := rfl
theorem solid_map (i : Nat) : (V.map i).solid = true := rfl
theorem size_map (i : Nat) : (V.map i).size = 1 := rfl
theorem agg_map (i : Nat) : (V.map i).isAgg = false := rfl
theorem solid_nilf : V.nilf.solid = true := rfl
theorem size_nilf : V.nilf.size = 1 := rfl
theorem agg_nilf : V.nilf.isAgg = false := rfl
theorem solid_fn (f : Nat) (c : V) : (V.fn f c).solid = true := rfl
theorem size_fn (f : Nat) (c : V) : (V.fn f c).size = 1 := rfl
theorem agg_fn (f : Nat) (c : V) : (V.fn f c).isAgg = false := rfl
theorem solid_nili : V.nili.solid = true := rfl
theorem size_nili : V.nili.size = 1 := rfl
theorem agg_nili : V.nili.isAgg = false := rfl
theorem solid_ifc (t : Nat) (v : V) : (V.ifc t v).solid = true := rfl
theorem size_ifc (t : Nat) (v : V) : (V.ifc t v).size = 1 := rfl
theorem agg_ifc (t : Nat) (v : V) : (V.ifc t v).isAgg = false := rfl
theorem solid_st (n : Nat) (fs : V) : (V.st n fs).solid = true := rfl
theorem size_st (n : Nat) (fs : V) : (V.st n fs).size = n := rfl
theorem agg_st (n : Nat) (fs : V) : (V.st n fs).isAgg = true := rfl
theorem solid_ar (sz n : Nat) (f : Nat → V) : (V.ar sz n f).solid = true := rfl
theorem size_ar (sz n : Nat) (f : Nat → V) : (V.ar sz n f).size = n * sz := rfl
theorem agg_ar (sz n : Nat) (f : Nat → V) : (V.ar sz n f).isAgg = true := rfl

theorem wrap_u (n : Int) : IntKind.u64.wrap n = n % 18446744073709551616 := by simp [IntKind.wrap, IntKind.bits, IntKind.signed]
theorem wrap_b (n : Int) : IntKind.u8.wrap n = n % 256 := by simp [IntKind.wrap, IntKind.bits, IntKind.signed]
theorem wrap_u64 {n : Int} (h : 0 ≤ n ∧ n < 18446744073709551616) : IntKind.u64.wrap n = n := by
  rw [wrap_u]; omega
theorem wrap_i (n : Int) : IntKind.i64.wrap n = if n % 18446744073709551616 ≥ 9223372036854775808 then n % 18446744073709551616 - 18446744073709551616 else n % 18446744073709551616 := by simp [IntKind.wrap, IntKind.bits, IntKind.signed]
theorem wrap_i64 {n : Int} (h : -9223372036854775808 ≤ n ∧ n < 9223372036854775808) : IntKind.i64.wrap n = n := by
  rw [wrap_i]; split <;> omega
theorem ite_int {p : Prop} [Decidable p] (k : IntKind) (a b : Int) : (if p then V.int k a else V.int k b) = V.int k (if p then a else b) := by split <;> rfl
theorem ite_bool {p : Prop} [Decidable p] (a b : Bool) : (if p then V.bool a else V.bool b) = V.bool (if p then a else b) := by split <;> rfl

/-- A weaker state: these blocks are kept, in this order. -/
theorem Weak.at {M : Seat} {c : Ctx} {A : List V} {H : Hp} {N : Nat} (m z : List Nat) {k : Nat} (hck : c.k = k) {A' : List V} {H' : Hp} {N' : Nat} (hm : (decide m.Nodup && z.all (fun i => !m.contains i) && decide (m.length ≤ N') && decide (k ≤ N') && (List.range k).all (fun j => m[j]? == some j)) = true)
    (hA : SimA H m z A' A) (hH : SimH H m z H') : Weak M c A H N A' H' N' := by
  simp only [Bool.and_eq_true, decide_eq_true_eq, List.all_eq_true, List.mem_range, beq_iff_eq, Bool.not_eq_true', List.contains_eq_mem, decide_eq_false_iff_not] at hm
  obtain ⟨⟨⟨⟨h1, h2⟩, h3⟩, h4⟩, h5⟩ := hm
  exact Weak.sim m z h1 h2 h3 (by omega) (fun j hj => h5 j (by omega)) hA hH
/-- Operations, written short. -/
abbrev A0 (l : LO) : LOp := ⟨none, .lo l, none⟩
abbrev A1 (d : Nat) (l : LO) : LOp := ⟨some d, .lo l, none⟩
abbrev A2 (d t : Nat) (b : Bool) (l : LO) : LOp := ⟨some d, .lo l, some (t, b)⟩
end Mv
namespace Mv
open Go

theorem put_none (A : List V) (v : V) : put A none v = A := rfl
theorem put_length (A : List V) (d : Option Nat) (v : V) : (put A d v).length = A.length := by cases d <;> simp [put]
theorem put_same {A : List V} {i : Nat} {v : V} (h : i < A.length) : (put A (some i) v).getD i .junk = v := by simp [put, List.getD, h]
theorem put_ne {A : List V} {i t : Nat} {v : V} (h : i ≠ t) : (put A (some i) v).getD t .junk = A.getD t .junk := by simp [put, List.getD, List.getElem?_set_ne h]

/-- A frame of n slots, in which these stand. -/
def fr (n : Nat) : List (Nat × V) → List V
  | [] => List.replicate n .junk
  | (t, v) :: r => put (fr n r) (some t) v

theorem fr_length (n : Nat) : ∀ l, (fr n l).length = n
  | [] => by simp [fr]
  | (t, v) :: r => by simp [fr, put_length, fr_length n r]

theorem fr_nil (n t : Nat) : (fr n []).getD t .junk = .junk := by
  simp only [fr, List.getD, List.getElem?_replicate]
  split <;> rfl

theorem fr_same {n t : Nat} {v : V} {r : List (Nat × V)} (h : t < n) : (fr n ((t, v) :: r)).getD t .junk = v := put_same (by rw [fr_length]; exact h)
theorem fr_ne {n t i : Nat} {v : V} {r : List (Nat × V)} (h : i ≠ t) : (fr n ((i, v) :: r)).getD t .junk = (fr n r).getD t .junk := put_ne h
theorem put_fr (n t : Nat) (v : V) (r : List (Nat × V)) : put (fr n r) (some t) v = fr n ((t, v) :: r) := rfl

def num : Nat → List V → List (Nat × V) → List (Nat × V)
  | _, [], acc => acc
  | i, u :: r, acc => num (i + 1) r ((i, u) :: acc)

theorem num_fr (n : Nat) : ∀ (us : List V) (i : Nat) (acc : List (Nat × V)) (pre : List V), pre.length = i → fr n acc = pre ++ List.replicate (n - i) .junk → i + us.length ≤ n → fr n (num i us acc) = pre ++ us ++ List.replicate (n - i - us.length) .junk
  | [], i, acc, pre, _, h, _ => by simpa [num] using h
  | u :: r, i, acc, pre, hp, h, hl => by
    simp only [List.length_cons] at hl
    have h2 : fr n ((i, u) :: acc) = (pre ++ [u]) ++ List.replicate (n - (i + 1)) .junk := by
      simp only [fr, put, h]
      have e1 : n - i = (n - (i + 1)) + 1 := by omega
      rw [e1, List.replicate_succ]
      apply List.ext_getElem?
      intro k
      by_cases hk : k = i
      · subst hk
        rw [List.getElem?_set_self (by simp [hp])]
        rw [List.getElem?_append_left (by simp [hp])]
        rw [List.getElem?_append_right (by omega)]
        simp [hp]
      · rw [List.getElem?_set_ne (Ne.symm hk)]
        by_cases hk2 : k < i
        · rw [List.getElem?_append_left (by omega), List.getElem?_append_left (by simp; omega), List.getElem?_append_left (by omega)]
        · rw [List.getElem?_append_right (by omega), List.getElem?_append_right (by simp; omega)]
          have e2 : k - pre.length = (k - (pre ++ [u]).length) + 1 := by simp; omega
          rw [e2, List.getElem?_cons_succ]
    have := num_fr n r (i + 1) ((i, u) :: acc) (pre ++ [u]) (by simp [hp]) h2 (by omega)
    simp only [num]
    rw [this]
    have e3 : n - (i + 1) - r.length = n - i - (u :: r).length := by simp; omega
    rw [e3]
    simp

theorem frame0_fr {us : List V} {n : Nat} (h : us.length ≤ n) : frame0 us n = fr n (num 0 us []) := by
  rw [num_fr n us 0 [] [] rfl (by simp [fr]) (by omega)]
  simp [frame0]

/-- A body, its frame a short list. -/
theorem runs_fr {M : Seat} {f : Nat} {lf : LF} {us : List V} {H : Hp} {k : Nat} {Q : V → Hp → Nat → Prop} (hf : chkF M f lf = true) (hn : decide (us.length ≤ lf.nt) = true)
    (h : ∀ x : Ctx, x.k = k → SemK M x (RetS M x lf.rs Q) [.code lf.c] k (fr lf.nt (num 0 us [])) H) : Runs M f us H k Q := by
  refine runs_body hf fun x hx => ?_
  rw [frame0_fr (of_decide_eq_true hn)]
  exact h x hx

/-- What is kept of a frame. -/
def SimL (H : Hp) (m z : List Nat) (A : List V) : List (Nat × V) → Prop
  | [] => True
  | (t, v) :: r => SimV H m z v (A.getD t .junk) ∧ SimL H m z A r

theorem SimA_of {H : Hp} {m z : List Nat} : ∀ {A B : List V}, A.length = B.length → (∀ t, SimV H m z (A.getD t .junk) (B.getD t .junk)) → SimA H m z A B
  | [], [], _, _ => trivial
  | _ :: _, _ :: _, hl, h => ⟨by simpa using h 0, SimA_of (by simpa using hl) (fun t => by simpa using h (t + 1))⟩
  | [], _ :: _, hl, _ => by simp at hl
  | _ :: _, [], hl, _ => by simp at hl

theorem SimL_get {H : Hp} {m z : List Nat} {A : List V} {n : Nat} : ∀ {l : List (Nat × V)}, SimL H m z A l → ∀ t, t < n → SimV H m z ((fr n l).getD t .junk) (A.getD t .junk)
  | [], _, t, _ => by rw [fr_nil]; trivial
  | (i, v) :: r, h, t, ht => by
    by_cases hit : i = t
    · subst hit; rw [fr_same ht]; exact h.1
    · rw [fr_ne hit]; exact SimL_get h.2 t ht

/-- A weaker state. -/
theorem Weak.fr {M : Seat} {c : Ctx} {A : List V} {H : Hp} {N n : Nat} (m z : List Nat) {k : Nat} (hck : c.k = k) {l : List (Nat × V)} {H' : Hp} {N' : Nat} (hlen : A.length = n)
    (hm : (decide m.Nodup && z.all (fun i => !m.contains i) && decide (m.length ≤ N') && decide (k ≤ N') && (List.range k).all (fun j => m[j]? == some j)) = true)
    (hA : SimL H m z A l) (hH : SimH H m z H') : Weak M c A H N (Mv.fr n l) H' N' := by
  refine Weak.at m z hck hm (SimA_of (by rw [fr_length, hlen]) (fun t => ?_)) hH
  by_cases ht : t < n
  · exact SimL_get hA t ht
  · have : (Mv.fr n l).getD t .junk = .junk := by rw [List.getD_eq_getElem?_getD, List.getElem?_eq_none (by rw [fr_length]; omega)]; rfl
    rw [this]; trivial
end Mv
namespace Mv
open Go

theorem ofInt_nat (n : Nat) (a : Nat) : BitVec.ofInt n (a : Int) = BitVec.ofNat n a := by
  apply BitVec.eq_of_toNat_eq
  simp

theorem or_nat {a b : Nat} (ha : a < 18446744073709551616) (hb : b < 18446744073709551616) : IntKind.u64.wrap (((BitVec.ofInt IntKind.u64.bits (a : Int) ||| BitVec.ofInt IntKind.u64.bits (b : Int)).toNat : Nat) : Int) = ((a ||| b : Nat) : Int) := by
  have h : a ||| b < 2 ^ 64 := Nat.or_lt_two_pow (by omega) (by omega)
  rw [ofInt_nat, ofInt_nat, BitVec.toNat_or, BitVec.toNat_ofNat, BitVec.toNat_ofNat, Nat.mod_eq_of_lt (by simpa [IntKind.bits] using ha), Nat.mod_eq_of_lt (by simpa [IntKind.bits] using hb)]
  exact wrap_u64 (by omega)

theorem and_nat {a b : Nat} (ha : a < 18446744073709551616) (hb : b < 18446744073709551616) : IntKind.u64.wrap (((BitVec.ofInt IntKind.u64.bits (a : Int) &&& BitVec.ofInt IntKind.u64.bits (b : Int)).toNat : Nat) : Int) = ((a &&& b : Nat) : Int) := by
  have h : a &&& b < 2 ^ 64 := Nat.lt_of_le_of_lt Nat.and_le_left (by omega)
  rw [ofInt_nat, ofInt_nat, BitVec.toNat_and, BitVec.toNat_ofNat, BitVec.toNat_ofNat, Nat.mod_eq_of_lt (by simpa [IntKind.bits] using ha), Nat.mod_eq_of_lt (by simpa [IntKind.bits] using hb)]
  exact wrap_u64 (by omega)

theorem xor_nat {a b : Nat} (ha : a < 18446744073709551616) (hb : b < 18446744073709551616) : IntKind.u64.wrap (((BitVec.ofInt IntKind.u64.bits (a : Int) ^^^ BitVec.ofInt IntKind.u64.bits (b : Int)).toNat : Nat) : Int) = ((a ^^^ b : Nat) : Int) := by
  have h : a ^^^ b < 2 ^ 64 := Nat.xor_lt_two_pow (by omega) (by omega)
  rw [ofInt_nat, ofInt_nat, BitVec.toNat_xor, BitVec.toNat_ofNat, BitVec.toNat_ofNat, Nat.mod_eq_of_lt (by simpa [IntKind.bits] using ha), Nat.mod_eq_of_lt (by simpa [IntKind.bits] using hb)]
  exact wrap_u64 (by omega)

theorem not_nat {a : Nat} (ha : a < 18446744073709551616) : IntKind.u64.wrap (((BitVec.ofInt IntKind.u64.bits (if IntKind.u64.signed = true then -1 else IntKind.u64.max) ^^^ BitVec.ofInt IntKind.u64.bits (a : Int)).toNat : Nat) : Int) = ((18446744073709551615 ^^^ a : Nat) : Int) := by
  have e1 : (if IntKind.u64.signed = true then (-1 : Int) else IntKind.u64.max) = ((18446744073709551615 : Nat) : Int) := by rfl
  rw [e1, xor_nat (by omega) ha]

theorem shl_nat {a k : Nat} (hk : k < 64) : IntKind.u64.wrap ((a : Int) * 2 ^ min (k : Int).toNat IntKind.u64.bits) = ((a <<< k % 18446744073709551616 : Nat) : Int) := by
  have e1 : min (k : Int).toNat IntKind.u64.bits = k := by simp only [IntKind.bits]; omega
  rw [e1, wrap_u, Nat.shiftLeft_eq, Int.natCast_emod, Int.natCast_mul, Int.natCast_pow]
  rfl

theorem shr_nat {a k : Nat} (hk : k ≤ 64) : (a : Int).fdiv (2 ^ min (k : Int).toNat IntKind.u64.bits) = ((a >>> k : Nat) : Int) := by
  have e1 : min (k : Int).toNat IntKind.u64.bits = k := by simp only [IntKind.bits]; omega
  rw [e1, Int.fdiv_eq_ediv_of_nonneg _ (Int.pow_nonneg (by omega)), Nat.shiftRight_eq_div_pow, Int.natCast_ediv, Int.natCast_pow]
  rfl

/-- A word turned. -/
def rotl (x k : Nat) : Nat := (x <<< k % 18446744073709551616) ||| (x >>> (64 - k))

theorem rotl_lt {x k : Nat} (hx : x < 18446744073709551616) : rotl x k < 18446744073709551616 := by
  have h1 : x <<< k % 18446744073709551616 < 2 ^ 64 := Nat.mod_lt _ (by omega)
  have h2 : x >>> (64 - k) < 2 ^ 64 := by
    rw [Nat.shiftRight_eq_div_pow]
    exact Nat.lt_of_le_of_lt (Nat.div_le_self _ _) (by omega)
  exact Nat.or_lt_two_pow h1 h2
end Mv
namespace Mv
open Go

/-- A word. -/
def W (w : BitVec 64) : V := .int .u64 (w.toNat : Int)
/-- A byte. -/
def B (b : BitVec 8) : V := .int .u8 (b.toNat : Int)

theorem lt_W (w : BitVec 64) : w.toNat < 18446744073709551616 := w.isLt

theorem vari_xor (a b : BitVec 64) (H : Hp) : vari .xor (W a) (W b) H = ⟨True, W (a ^^^ b), H⟩ := by
  have h := xor_nat (lt_W a) (lt_W b)
  simp only [vari, W]
  rw [h, BitVec.toNat_xor]
theorem vari_and (a b : BitVec 64) (H : Hp) : vari .and (W a) (W b) H = ⟨True, W (a &&& b), H⟩ := by
  have h := and_nat (lt_W a) (lt_W b)
  simp only [vari, W]
  rw [h, BitVec.toNat_and]
theorem vari_or (a b : BitVec 64) (H : Hp) : vari .or (W a) (W b) H = ⟨True, W (a ||| b), H⟩ := by
  have h := or_nat (lt_W a) (lt_W b)
  simp only [vari, W]
  rw [h, BitVec.toNat_or]
theorem vun_xor (a : BitVec 64) (H : Hp) : vun .xor (W a) H = ⟨True, W (~~~a), H⟩ := by
  have h : (18446744073709551615 ^^^ a.toNat : Nat) = (~~~a).toNat := by
    have h2 : BitVec.allOnes 64 ^^^ a = ~~~a := BitVec.allOnes_xor
    rw [← h2, BitVec.toNat_xor]; rfl
  have h3 := not_nat (lt_W a)
  simp only [vun, W]
  rw [h3, h]

/-- A word turned. -/
def rot (x : BitVec 64) (k : Nat) : BitVec 64 := x <<< k ||| x >>> (64 - k)

theorem rotl_rot (x : BitVec 64) (k : Nat) : rotl x.toNat k = (rot x k).toNat := by
  simp only [rotl, rot, BitVec.toNat_or, BitVec.toNat_shiftLeft, BitVec.toNat_ushiftRight]

/-- Rows of words, of bytes. -/
def ws (s : List (BitVec 64)) : Nat → V := fun j => W (s.getD j 0)
def bys (s : List (BitVec 8)) : Nat → V := fun j => B (s.getD j 0)

theorem ws_at (s : List (BitVec 64)) (j : Nat) : ws s j = W (s.getD j 0) := rfl
theorem bys_at (s : List (BitVec 8)) (j : Nat) : bys s j = B (s.getD j 0) := rfl
theorem solid_W (w : BitVec 64) : (W w).solid = true := rfl
theorem size_W (w : BitVec 64) : (W w).size = 1 := rfl
theorem agg_W (w : BitVec 64) : (W w).isAgg = false := rfl
theorem solid_B (w : BitVec 8) : (B w).solid = true := rfl
theorem size_B (w : BitVec 8) : (B w).size = 1 := rfl
theorem agg_B (w : BitVec 8) : (B w).isAgg = false := rfl
theorem Sim_W (H : Hp) (m z : List Nat) (a b : BitVec 64) : Sim H m z (W a) (W b) ↔ b = a := by
  simp only [Sim, W, V.int.injEq, true_and]
  constructor
  · intro h; exact BitVec.eq_of_toNat_eq (by omega)
  · rintro rfl; rfl
theorem Sim_B (H : Hp) (m z : List Nat) (a b : BitVec 8) : Sim H m z (B a) (B b) ↔ b = a := by
  simp only [Sim, B, V.int.injEq, true_and]
  constructor
  · intro h; exact BitVec.eq_of_toNat_eq (by omega)
  · rintro rfl; rfl
theorem ite_W {p : Prop} [Decidable p] (a b : BitVec 64) : (if p then W a else W b) = W (if p then a else b) := by split <;> rfl
theorem ite_B {p : Prop} [Decidable p] (a b : BitVec 8) : (if p then B a else B b) = B (if p then a else b) := by split <;> rfl
theorem SimV_junk (H : Hp) (m z : List Nat) (u : V) : SimV H m z .junk u = True := rfl
theorem SimV_int (H : Hp) (m z : List Nat) (k : IntKind) (n : Int) (u : V) : SimV H m z (V.int k n) u = Sim H m z (V.int k n) u := rfl
theorem SimV_bool (H : Hp) (m z : List Nat) (b : Bool) (u : V) : SimV H m z (V.bool b) u = Sim H m z (V.bool b) u := rfl
theorem SimV_str (H : Hp) (m z : List Nat) (s : ByteArray) (u : V) : SimV H m z (V.str s) u = Sim H m z (V.str s) u := rfl
theorem SimV_nilp (H : Hp) (m z : List Nat) (u : V) : SimV H m z V.nilp u = Sim H m z V.nilp u := rfl
theorem SimV_ptr (H : Hp) (m z : List Nat) (i : Nat) (p : List Stp) (u : V) : SimV H m z (V.ptr i p) u = Sim H m z (V.ptr i p) u := rfl
theorem SimV_imm (H : Hp) (m z : List Nat) (v : V) (u : V) : SimV H m z (V.imm v) u = Sim H m z (V.imm v) u := rfl
theorem SimV_nils (H : Hp) (m z : List Nat) (u : V) : SimV H m z V.nils u = Sim H m z V.nils u := rfl
theorem SimV_sl (H : Hp) (m z : List Nat) (i : Nat) (p : List Stp) (o n sz : Nat) (u : V) : SimV H m z (V.sl i p o n sz) u = Sim H m z (V.sl i p o n sz) u := rfl
theorem SimV_lst (H : Hp) (m z : List Nat) (sz n : Nat) (f : Nat → V) (u : V) : SimV H m z (V.lst sz n f) u = Sim H m z (V.lst sz n f) u := rfl
theorem SimV_nilm (H : Hp) (m z : List Nat) (u : V) : SimV H m z V.nilm u = Sim H m z V.nilm u := rfl
theorem SimV_map (H : Hp) (m z : List Nat) (i : Nat) (u : V) : SimV H m z (V.map i) u = Sim H m z (V.map i) u := rfl
theorem SimV_nilf (H : Hp) (m z : List Nat) (u : V) : SimV H m z V.nilf u = Sim H m z V.nilf u := rfl
theorem SimV_fn (H : Hp) (m z : List Nat) (f : Nat) (c : V) (u : V) : SimV H m z (V.fn f c) u = Sim H m z (V.fn f c) u := rfl
theorem SimV_nili (H : Hp) (m z : List Nat) (u : V) : SimV H m z V.nili u = Sim H m z V.nili u := rfl
theorem SimV_ifc (H : Hp) (m z : List Nat) (t : Nat) (v : V) (u : V) : SimV H m z (V.ifc t v) u = Sim H m z (V.ifc t v) u := rfl
theorem SimV_st (H : Hp) (m z : List Nat) (n : Nat) (fs : V) (u : V) : SimV H m z (V.st n fs) u = Sim H m z (V.st n fs) u := rfl
theorem SimV_ar (H : Hp) (m z : List Nat) (sz n : Nat) (f : Nat → V) (u : V) : SimV H m z (V.ar sz n f) u = Sim H m z (V.ar sz n f) u := rfl
theorem SimV_tup (H : Hp) (m z : List Nat) (fs : V) (u : V) : SimV H m z (V.tup fs) u = Sim H m z (V.tup fs) u := rfl
theorem SimV_W (H : Hp) (m z : List Nat) (a : BitVec 64) (u : V) : SimV H m z (W a) u = Sim H m z (W a) u := rfl
theorem SimV_B (H : Hp) (m z : List Nat) (a : BitVec 8) (u : V) : SimV H m z (B a) u = Sim H m z (B a) u := rfl
theorem ren_W (m : List Nat) (a : BitVec 64) : (W a).ren m = W a := rfl
theorem ren_B (m : List Nat) (a : BitVec 8) : (B a).ren m = B a := rfl
theorem ren_ws (m : List Nat) (s : List (BitVec 64)) (j : Nat) : (ws s j).ren m = ws s j := rfl
/-- A call of what neither takes nor leaves blocks. -/
theorem call_pure {M : Seat} {f : Nat} {us us0 : List V} {H : Hp} {n : Nat} {K : V → Hp → Prop} {v : V} (hr : Runs M f us0 [] 0 (fun r H' k' => r = v ∧ H' = [] ∧ k' = 0)) (hus : SimA H [] [] us0 us) (hv : v.ren (nums [] n 0) = v) (hK : K v H) : CallK M f us H n K := by
  refine call_runs hr False [] [] List.nodup_nil (by simp) rfl (by simp) hus trivial ?_
  rintro v' H' k' ⟨rfl, rfl, rfl⟩
  refine ⟨⟨by omega, fun h => h.elim⟩, ?_⟩
  rw [hv]
  simpa [renH, hrest] using hK

theorem ren_bys (m : List Nat) (s : List (BitVec 8)) (j : Nat) : (bys s j).ren m = bys s j := rfl
theorem v_add (k : IntKind) (a b : Int) (H : Hp) : vari .add (.int k a) (.int k b) H = ⟨True, .int k (k.wrap (a + b)), H⟩ := by simp [vari]
theorem v_sub (k : IntKind) (a b : Int) (H : Hp) : vari .sub (.int k a) (.int k b) H = ⟨True, .int k (k.wrap (a - b)), H⟩ := by simp [vari]
theorem v_mul (k : IntKind) (a b : Int) (H : Hp) : vari .mul (.int k a) (.int k b) H = ⟨True, .int k (k.wrap (a * b)), H⟩ := by simp [vari]
theorem v_quo (k : IntKind) (a b : Int) (H : Hp) : vari .quo (.int k a) (.int k b) H = ⟨b ≠ 0, .int k (k.wrap (a.tdiv b)), H⟩ := by simp [vari]
theorem v_rem (k : IntKind) (a b : Int) (H : Hp) : vari .rem (.int k a) (.int k b) H = ⟨b ≠ 0, .int k (a.tmod b), H⟩ := by simp [vari]
theorem v_shl (k k' : IntKind) (a b : Int) (H : Hp) : vari .shl (.int k a) (.int k' b) H = ⟨0 ≤ b, .int k (k.wrap (a * 2 ^ min b.toNat k.bits)), H⟩ := rfl
theorem v_shr (k k' : IntKind) (a b : Int) (H : Hp) : vari .shr (.int k a) (.int k' b) H = ⟨0 ≤ b, .int k (a.fdiv (2 ^ min b.toNat k.bits)), H⟩ := rfl
theorem v_lss (k : IntKind) (a b : Int) (H : Hp) : vari .lss (.int k a) (.int k b) H = ⟨True, .bool (decide (a < b)), H⟩ := by simp [vari]
theorem v_leq (k : IntKind) (a b : Int) (H : Hp) : vari .leq (.int k a) (.int k b) H = ⟨True, .bool (decide (a ≤ b)), H⟩ := by simp [vari]
theorem v_gtr (k : IntKind) (a b : Int) (H : Hp) : vari .gtr (.int k a) (.int k b) H = ⟨True, .bool (decide (b < a)), H⟩ := by simp [vari]
theorem v_geq (k : IntKind) (a b : Int) (H : Hp) : vari .geq (.int k a) (.int k b) H = ⟨True, .bool (decide (b ≤ a)), H⟩ := by simp [vari]
theorem v_eql (k : IntKind) (a b : Int) (H : Hp) : vari .eql (.int k a) (.int k b) H = ⟨True, .bool (decide (a = b)), H⟩ := by simp [vari]
theorem v_neq (k : IntKind) (a b : Int) (H : Hp) : vari .neq (.int k a) (.int k b) H = ⟨True, .bool (!decide (a = b)), H⟩ := by simp [vari]
theorem v_and (k : IntKind) (a b : Int) (H : Hp) : vari .and (.int k a) (.int k b) H = ⟨True, .int k (k.wrap ((BitVec.ofInt k.bits a &&& BitVec.ofInt k.bits b).toNat)), H⟩ := by simp [vari]
theorem v_or (k : IntKind) (a b : Int) (H : Hp) : vari .or (.int k a) (.int k b) H = ⟨True, .int k (k.wrap ((BitVec.ofInt k.bits a ||| BitVec.ofInt k.bits b).toNat)), H⟩ := by simp [vari]
theorem v_xor (k : IntKind) (a b : Int) (H : Hp) : vari .xor (.int k a) (.int k b) H = ⟨True, .int k (k.wrap ((BitVec.ofInt k.bits a ^^^ BitVec.ofInt k.bits b).toNat)), H⟩ := by simp [vari]
theorem v_not (b : Bool) (H : Hp) : vun .not (.bool b) H = ⟨True, .bool (!b), H⟩ := rfl
end Mv
namespace Mv
open Go

def vconv (k : IntKind) (v : V) (H : Hp) : Out := match v with
  | .int _ a => ⟨True, .int k (k.wrap a), H⟩
  | _ => bad H
theorem step_conv (A : List V) (H : Hp) (n : Nat) (k : IntKind) (x : X) : step A H n (.conv k x) = vconv k (x.ev A) H := rfl
theorem vconv_int (k k' : IntKind) (a : Int) (H : Hp) : vconv k (.int k' a) H = ⟨True, .int k (k.wrap a), H⟩ := rfl
theorem vconv_B (b : BitVec 8) (H : Hp) : vconv .u64 (B b) H = ⟨True, W (b.setWidth 64), H⟩ := by
  have h := b.isLt
  simp only [vconv, B, W, wrap_u, BitVec.toNat_setWidth]
  congr 2
theorem vconv_W (w : BitVec 64) (H : Hp) : vconv .u8 (W w) H = ⟨True, B (w.setWidth 8), H⟩ := by
  simp only [vconv, B, W, wrap_b, BitVec.toNat_setWidth]
  congr 2
theorem vconv_Wi (w : BitVec 64) (H : Hp) : vconv .i64 (W w) H = ⟨True, .int .i64 (IntKind.i64.wrap (w.toNat : Int)), H⟩ := rfl
theorem vconv_Bi (w : BitVec 8) (H : Hp) : vconv .i64 (B w) H = ⟨True, .int .i64 (w.toNat : Int), H⟩ := by
  have h := w.isLt
  simp only [vconv, B]
  rw [wrap_i64 (by omega)]

theorem vari_shl (a : BitVec 64) (k : IntKind) (b : Int) (H : Hp) : vari .shl (W a) (.int k b) H = ⟨0 ≤ b, W (a <<< b.toNat), H⟩ := by
  simp only [vari, W, wrap_u, BitVec.toNat_shiftLeft, Nat.shiftLeft_eq, IntKind.bits]
  congr 2
  by_cases hb : b.toNat ≤ 64
  · rw [Nat.min_eq_left hb]
    rw [Int.natCast_emod, Int.natCast_mul, Int.natCast_pow]
    rfl
  · rw [Nat.min_eq_right (by omega)]
    have e1 : a.toNat * 2 ^ b.toNat % 2 ^ 64 = 0 := by
      have : b.toNat = 64 + (b.toNat - 64) := by omega
      rw [this, Nat.pow_add, ← Nat.mul_assoc, Nat.mul_right_comm]
      exact Nat.mul_mod_left _ _
    rw [e1]
    have e2 : (2 : Int) ^ 64 = 18446744073709551616 := by decide
    rw [e2]; omega
theorem vari_shr (a : BitVec 64) (k : IntKind) (b : Int) (H : Hp) : vari .shr (W a) (.int k b) H = ⟨0 ≤ b, W (a >>> b.toNat), H⟩ := by
  have ha := a.isLt
  simp only [vari, W, BitVec.toNat_ushiftRight, Nat.shiftRight_eq_div_pow, IntKind.bits]
  congr 2
  rw [Int.fdiv_eq_ediv_of_nonneg _ (Int.pow_nonneg (by omega)), Int.natCast_ediv, Int.natCast_pow]
  by_cases hb : b.toNat ≤ 64
  · rw [Nat.min_eq_left hb]; rfl
  · rw [Nat.min_eq_right (by omega)]
    have h1 : (a.toNat : Int) / 2 ^ 64 = 0 := Int.ediv_eq_zero_of_lt (by omega) (by omega)
    have h2 : a.toNat / 2 ^ b.toNat = 0 := Nat.div_eq_of_lt (Nat.lt_of_lt_of_le ha (Nat.pow_le_pow_right (by omega) (by omega)))
    have h3 : (a.toNat : Int) / ((2 : Nat) : Int) ^ b.toNat = 0 := by
      rw [← Int.natCast_pow, ← Int.natCast_ediv, h2]; rfl
    rw [h1]; exact h3.symm

theorem eqW (a b : BitVec 64) : decide ((a.toNat : Int) = (b.toNat : Int)) = decide (a = b) := by
  rw [decide_eq_decide]
  constructor
  · intro h; exact BitVec.eq_of_toNat_eq (by omega)
  · rintro rfl; rfl
theorem vari_eql_W (a b : BitVec 64) (H : Hp) : vari .eql (W a) (W b) H = ⟨True, .bool (decide (a = b)), H⟩ := by
  simp only [vari, W, eqW]
theorem vari_neq_W (a b : BitVec 64) (H : Hp) : vari .neq (W a) (W b) H = ⟨True, .bool (!decide (a = b)), H⟩ := by
  simp only [vari, W, eqW]
theorem vari_eql_Wc (a : BitVec 64) (c : Int) (H : Hp) : vari .eql (W a) (.int .u64 c) H = ⟨True, .bool (decide ((a.toNat : Int) = c)), H⟩ := by
  simp only [vari, W]
theorem vari_geq_Wc (a : BitVec 64) (c : Int) (H : Hp) : vari .geq (W a) (.int .u64 c) H = ⟨True, .bool (decide (c ≤ (a.toNat : Int))), H⟩ := by
  simp only [vari, W]
theorem vari_rem_Wc (a : BitVec 64) (c : Int) (H : Hp) : vari .rem (W a) (.int .u64 c) H = ⟨c ≠ 0, .int .u64 ((a.toNat : Int).tmod c), H⟩ := by
  simp only [vari, W, true_and]
theorem xor_B (a b : BitVec 8) (H : Hp) : vari .xor (B a) (B b) H = ⟨True, B (a ^^^ b), H⟩ := by
  simp only [vari, B, wrap_b]
  congr 2
  rw [ofInt_nat, ofInt_nat]
  have e1 : BitVec.ofNat IntKind.u8.bits a.toNat = a := by apply BitVec.eq_of_toNat_eq; simp [IntKind.bits]
  have e2 : BitVec.ofNat IntKind.u8.bits b.toNat = b := by apply BitVec.eq_of_toNat_eq; simp [IntKind.bits]
  have h3 : (BitVec.ofNat IntKind.u8.bits a.toNat ^^^ BitVec.ofNat IntKind.u8.bits b.toNat).toNat = (a ^^^ b).toNat := by
    rw [BitVec.toNat_xor, BitVec.toNat_xor, e1, e2]; rfl
  rw [h3]
  have := (a ^^^ b).isLt
  omega

/-- Literals. -/
theorem W_lit (n : Nat) (h : n < 18446744073709551616) : V.int .u64 (n : Int) = W (BitVec.ofNat 64 n) := by
  simp only [W, BitVec.toNat_ofNat]; rw [Nat.mod_eq_of_lt (by omega)]
theorem B_lit (n : Nat) (h : n < 256) : V.int .u8 (n : Int) = B (BitVec.ofNat 8 n) := by
  simp only [B, BitVec.toNat_ofNat]; rw [Nat.mod_eq_of_lt (by omega)]
/-- A call of what neither takes nor leaves blocks; 'z': blocks that it may look at; they are never written again. -/
theorem call_pureZ {M : Seat} {f : Nat} {us us0 : List V} {H : Hp} {n : Nat} {K : V → Hp → Prop} {v : V} (z : List Nat) (hr : Runs M f us0 [] 0 (fun r H' k' => r = v ∧ H' = [] ∧ k' = 0)) (hus : SimA H [] z us0 us) (hv : v.ren (nums [] n 0) = v) (hK : K v (hrest H z)) : CallK M f us H n K := by
  refine call_runs hr False [] z List.nodup_nil (by simp) rfl (by simp) hus trivial ?_
  rintro v' H' k' ⟨rfl, rfl, rfl⟩
  refine ⟨⟨by omega, fun h => h.elim⟩, ?_⟩
  rw [hv]
  simpa [renH] using hK
end Mv
namespace Mv
open Go

theorem exZ (M : Seat) (x : Ctx) (Q : List V → Hp → Nat → Prop) (k : List It) (N : Nat) (A : List V) (H : Hp) : ex M x Q 0 k N A H = SemK M x Q k N A H := by cases k <;> rfl
theorem exN (M : Seat) (x : Ctx) (Q : List V → Hp → Nat → Prop) (n : Nat) (N : Nat) (A : List V) (H : Hp) : ex M x Q (n + 1) [] N A H = Q A H N := rfl
theorem exSkip (M : Seat) (x : Ctx) (Q : List V → Hp → Nat → Prop) (n : Nat) (k : List It) (N : Nat) (A : List V) (H : Hp) : ex M x Q (n + 1) (.code .skip :: k) N A H = ex M x Q n k N A H := rfl
theorem exReg (M : Seat) (x : Ctx) (Q : List V → Hp → Nat → Prop) (n : Nat) (ops : List LOp) (k : List It) (N : Nat) (A : List V) (H : Hp) : ex M x Q (n + 1) (.code (.reg ops) :: k) N A H = Ro M (ex M x Q n k (N + 16 * ops.length)) ops N A H := rfl
theorem exRegd (M : Seat) (x : Ctx) (Q : List V → Hp → Nat → Prop) (n : Nat) (L : List DOp) (k : List It) (N : Nat) (A : List V) (H : Hp) : ex M x Q (n + 1) (.code (.regd L) :: k) N A H = RoD M (ex M x Q n k (N + 32 * L.length)) L.length N (wmask L 0) L 0 A H [(0, H)] [] := rfl
theorem exSeq (M : Seat) (x : Ctx) (Q : List V → Hp → Nat → Prop) (n : Nat) (c d : LC) (k : List It) (N : Nat) (A : List V) (H : Hp) : ex M x Q (n + 1) (.code (.seq c d) :: k) N A H = ex M x Q n (.code c :: .code d :: k) N A H := rfl
theorem exBlock (M : Seat) (x : Ctx) (Q : List V → Hp → Nat → Prop) (n : Nat) (id : Nat) (c : LC) (k : List It) (N : Nat) (A : List V) (H : Hp) : ex M x Q (n + 1) (.code (.block id c) :: k) N A H = ex M x Q n (.code c :: .blk id :: k) N A H := rfl
theorem exLoop (M : Seat) (x : Ctx) (Q : List V → Hp → Nat → Prop) (n : Nat) (c : LC) (k : List It) (N : Nat) (A : List V) (H : Hp) : ex M x Q (n + 1) (.code (.loop c) :: k) N A H = LoopK M x Q c k A H N := rfl
theorem exExit (M : Seat) (x : Ctx) (Q : List V → Hp → Nat → Prop) (n : Nat) (id : Nat) (k : List It) (N : Nat) (A : List V) (H : Hp) : ex M x Q (n + 1) (.code (.exit id) :: k) N A H = (match dropTo id k with | some k' => ex M x Q n k' N A H | none => False) := rfl
theorem exRet (M : Seat) (x : Ctx) (Q : List V → Hp → Nat → Prop) (n : Nat) (k : List It) (N : Nat) (A : List V) (H : Hp) : ex M x Q (n + 1) (.code .ret :: k) N A H = Q A H N := rfl
theorem exBlk (M : Seat) (x : Ctx) (Q : List V → Hp → Nat → Prop) (n : Nat) (i : Nat) (k : List It) (N : Nat) (A : List V) (H : Hp) : ex M x Q (n + 1) (.blk i :: k) N A H = ex M x Q n k N A H := rfl
theorem exInv (M : Seat) (x : Ctx) (Q : List V → Hp → Nat → Prop) (n : Nat) (J : List V → Hp → Nat → Prop) (k : List It) (N : Nat) (A : List V) (H : Hp) : ex M x Q (n + 1) (.inv J :: k) N A H = J A H N := rfl
theorem RoN (M : Seat) (K : List V → Hp → Prop) (n : Nat) (A : List V) (H : Hp) : Ro M K [] n A H = K A H := rfl
theorem RoDN (M : Seat) (K : List V → Hp → Prop) (m N wm p : Nat) (A : List V) (H : Hp) (bd : List (Nat × Hp)) (al : List (Nat × Nat × V)) : RoD M K m N wm [] p A H bd al = K A H := rfl
end Mv
namespace Mv
open Go
set_option maxRecDepth 10000

def rc : List (BitVec 64) := rounds.map (BitVec.ofInt 64)

theorem rc_at : ∀ j, j < 24 → ((rc.getD j 0).toNat : Int) = rounds.getD j 0 := by decide

theorem GLv1 : GLv 1 = .ar 1 24 (ws rc) := by
  have : (fun i => V.int .u64 (rounds.getD i 0)) = ws rc := by
    funext j
    by_cases hj : j < 24
    · simp only [ws, W, rc_at j hj]
    · have h1 : rounds.getD j 0 = 0 := by rw [List.getD_eq_getElem?_getD, List.getElem?_eq_none (by simp [rounds]; omega)]; rfl
      have h2 : rc.getD j 0 = 0 := by rw [List.getD_eq_getElem?_getD, List.getElem?_eq_none (by simp [rc, rounds]; omega)]; rfl
      simp only [ws, W, h1, h2]
      rfl
  simp only [GLv, this]

theorem GLv2 : GLv 2 = .ar 1 24 (fun i => .int .i64 (lanes.getD i 0)) := rfl
theorem GLv3 : GLv 3 = .ar 1 24 (fun i => .int .i64 (turns.getD i 0)) := rfl
theorem turns_ok : ∀ p, p < 24 → 0 ≤ turns.getD p 0 ∧ turns.getD p 0 < 64 := by decide
theorem lanes_ok : ∀ p, p < 24 → 0 ≤ lanes.getD p 0 ∧ lanes.getD p 0 < 25 := by decide
end Mv
