/- Words' arithmetic; runs that stop at calls and at what is not decided. -/
import Derived.Test.YtfoaeafobdamcaaDoorMwA
set_option linter.unusedSimpArgs false
set_option linter.unusedVariables false
namespace Mv
open Go

theorem W_lit' (n : Nat) (h : n < 18446744073709551616) : V.int .u64 (no_index (OfNat.ofNat n : Int)) = W (BitVec.ofNat 64 n) := W_lit n h
theorem B_lit' (n : Nat) (h : n < 256) : V.int .u8 (no_index (OfNat.ofNat n : Int)) = B (BitVec.ofNat 8 n) := B_lit n h

theorem vW_add (a b : BitVec 64) (H : Hp) : vari .add (W a) (W b) H = ⟨True, W (a + b), H⟩ := by
  simp only [vari, W, wrap_u, BitVec.toNat_add]; congr 2
theorem vW_sub (a b : BitVec 64) (H : Hp) : vari .sub (W a) (W b) H = ⟨True, W (a - b), H⟩ := by
  have h1 := a.isLt; have h2 := b.isLt
  simp only [vari, W, wrap_u, BitVec.toNat_sub]; congr 2; omega
theorem vW_mul (a b : BitVec 64) (H : Hp) : vari .mul (W a) (W b) H = ⟨True, W (a * b), H⟩ := by
  simp only [vari, W, wrap_u, BitVec.toNat_mul]; congr 2
theorem vW_quo (a b : BitVec 64) (H : Hp) : vari .quo (W a) (W b) H = ⟨b ≠ 0, W (a / b), H⟩ := by
  have h1 := a.isLt
  have h2 : a.toNat / b.toNat ≤ a.toNat := Nat.div_le_self _ _
  have e : ((b.toNat : Int) ≠ 0) = (b ≠ 0) := by
    refine propext (not_congr ⟨fun h => BitVec.eq_of_toNat_eq (by simpa using h), ?_⟩)
    rintro rfl; rfl
  simp only [vari, W, wrap_u, BitVec.toNat_udiv, true_and]
  rw [e]; congr 2
  rw [Int.tdiv_eq_ediv_of_nonneg (by omega), ← Int.natCast_ediv]
  generalize a.toNat / b.toNat = q at *; omega
theorem vW_rem (a b : BitVec 64) (H : Hp) : vari .rem (W a) (W b) H = ⟨b ≠ 0, W (a % b), H⟩ := by
  have e : ((b.toNat : Int) ≠ 0) = (b ≠ 0) := by
    refine propext (not_congr ⟨fun h => BitVec.eq_of_toNat_eq (by simpa using h), ?_⟩)
    rintro rfl; rfl
  simp only [vari, W, BitVec.toNat_umod, true_and]
  rw [e]; congr 2
theorem vW_lss (a b : BitVec 64) (H : Hp) : vari .lss (W a) (W b) H = ⟨True, .bool (decide (a < b)), H⟩ := by
  simp only [vari, W, BitVec.lt_def, Int.ofNat_lt]
theorem vW_leq (a b : BitVec 64) (H : Hp) : vari .leq (W a) (W b) H = ⟨True, .bool (decide (a ≤ b)), H⟩ := by
  simp only [vari, W, BitVec.le_def, Int.ofNat_le]
theorem vW_gtr (a b : BitVec 64) (H : Hp) : vari .gtr (W a) (W b) H = ⟨True, .bool (decide (b < a)), H⟩ := by
  simp only [vari, W, BitVec.lt_def, Int.ofNat_lt]
theorem vW_geq (a b : BitVec 64) (H : Hp) : vari .geq (W a) (W b) H = ⟨True, .bool (decide (b ≤ a)), H⟩ := by
  simp only [vari, W, BitVec.le_def, Int.ofNat_le]
theorem vW_neg (a : BitVec 64) (H : Hp) : vun .neg (W a) H = ⟨True, W (-a), H⟩ := by
  have h1 := a.isLt
  simp only [vun, W, wrap_u, BitVec.toNat_neg]; congr 2; omega
theorem vW_shlW (a b : BitVec 64) (H : Hp) : vari .shl (W a) (W b) H = ⟨True, W (a <<< b.toNat), H⟩ := by
  have := vari_shl a .u64 (b.toNat : Int) H
  simp only [Int.toNat_natCast] at this
  rw [show W b = V.int .u64 (b.toNat : Int) from rfl, this]; congr 1; simp
theorem vW_shrW (a b : BitVec 64) (H : Hp) : vari .shr (W a) (W b) H = ⟨True, W (a >>> b.toNat), H⟩ := by
  have := vari_shr a .u64 (b.toNat : Int) H
  simp only [Int.toNat_natCast] at this
  rw [show W b = V.int .u64 (b.toNat : Int) from rfl, this]; congr 1; simp
theorem vB_eql (a b : BitVec 8) (H : Hp) : vari .eql (B a) (B b) H = ⟨True, .bool (decide (a = b)), H⟩ := by
  simp only [vari, B, eqB]
theorem vB_neq (a b : BitVec 8) (H : Hp) : vari .neq (B a) (B b) H = ⟨True, .bool (!decide (a = b)), H⟩ := by
  simp only [vari, B, eqB]

theorem wrap_toInt (w : BitVec 64) : IntKind.i64.wrap (w.toNat : Int) = w.toInt := by
  have := w.isLt
  rw [wrap_i, BitVec.toInt_eq_toNat_cond]
  split <;> split <;> omega
theorem cv_i64W (w : BitVec 64) (H : Hp) : vconv .i64 (W w) H = ⟨True, .int .i64 w.toInt, H⟩ := by
  rw [vconv_Wi, wrap_toInt]
theorem cv_i64 (k : IntKind) (a : Int) (H : Hp) : vconv .i64 (.int k a) H = ⟨True, .int .i64 (IntKind.i64.wrap a), H⟩ := rfl
theorem cv_i32 (k : IntKind) (a : Int) (H : Hp) : vconv .i32 (.int k a) H = ⟨True, .int .i32 (IntKind.i32.wrap a), H⟩ := rfl
theorem cv_u32 (k : IntKind) (a : Int) (H : Hp) : vconv .u32 (.int k a) H = ⟨True, .int .u32 (IntKind.u32.wrap a), H⟩ := rfl
theorem cv_u64 (k : IntKind) (a : Int) (H : Hp) : vconv .u64 (.int k a) H = ⟨True, W (BitVec.ofInt 64 a), H⟩ := by
  simp only [vconv, W, wrap_u, BitVec.toNat_ofInt]; congr 2; omega
theorem cv_u64W (w : BitVec 64) (H : Hp) : vconv .u64 (W w) H = ⟨True, W w, H⟩ := by
  have := w.isLt
  simp only [vconv, W, wrap_u]; congr 2; omega
theorem cv_u8 (k : IntKind) (a : Int) (H : Hp) : vconv .u8 (.int k a) H = ⟨True, B (BitVec.ofInt 8 a), H⟩ := by
  simp only [vconv, B, wrap_b, BitVec.toNat_ofInt]; congr 2; omega
theorem cv_i32W (w : BitVec 64) (H : Hp) : vconv .i32 (W w) H = ⟨True, .int .i32 (w.setWidth 32).toInt, H⟩ := by
  have := w.isLt
  have h : IntKind.i32.wrap (w.toNat : Int) = (w.setWidth 32).toInt := by
    have e : IntKind.i32.wrap (w.toNat : Int) = if (w.toNat : Int) % 4294967296 ≥ 2147483648 then (w.toNat : Int) % 4294967296 - 4294967296 else (w.toNat : Int) % 4294967296 := by simp [IntKind.wrap, IntKind.bits, IntKind.signed]
    rw [e, BitVec.toInt_eq_toNat_cond, BitVec.toNat_setWidth]
    split <;> split <;> omega
  simp only [vconv, W, h]
theorem cv_u8B (b : BitVec 8) (H : Hp) : vconv .u8 (B b) H = ⟨True, B b, H⟩ := by
  have := b.isLt
  simp only [vconv, B, wrap_b]; congr 2; omega

theorem wr_i64 (n : Int) (h1 : -9223372036854775808 ≤ n) (h2 : n < 9223372036854775808) : IntKind.i64.wrap n = n := wrap_i64 ⟨h1, h2⟩
theorem wr_u64 (n : Int) (h1 : 0 ≤ n) (h2 : n < 18446744073709551616) : IntKind.u64.wrap n = n := wrap_u64 ⟨h1, h2⟩

theorem v_shlW (k : IntKind) (a : Int) (w : BitVec 64) (H : Hp) : vari .shl (.int k a) (W w) H = ⟨True, .int k (k.wrap (a * 2 ^ min w.toNat k.bits)), H⟩ := by
  simp only [vari, W, Int.toNat_natCast]; congr 1; simp
theorem v_shrW (k : IntKind) (a : Int) (w : BitVec 64) (H : Hp) : vari .shr (.int k a) (W w) H = ⟨True, .int k (a.fdiv (2 ^ min w.toNat k.bits)), H⟩ := by
  simp only [vari, W, Int.toNat_natCast]; congr 1; simp
theorem ofInt_nat' (n : Int) (h0 : 0 ≤ n) (h : n < 18446744073709551616) : (BitVec.ofInt 64 n).toNat = n.toNat := by
  rw [BitVec.toNat_ofInt]; omega
theorem bits_i64 : IntKind.i64.bits = 64 := rfl
theorem bits_u64 : IntKind.u64.bits = 64 := rfl
/- Runs that stop. -/
def RoL (M : Seat) (K : List V → Hp → Prop) (d : Option Nat) (r : List LOp) (n : Nat) (A : List V) (v : V) (H : Hp) : Prop := Ro M K r n (put A d v) H
theorem RoLE (M : Seat) (K : List V → Hp → Prop) (d : Option Nat) (r : List LOp) (n : Nat) (A : List V) (v : V) (H : Hp) : RoL M K d r n A v H = Ro M K r n (put A d v) H := rfl
theorem RoC' (M : Seat) (K : List V → Hp → Prop) (d : Option Nat) (f : Nat) (xs : List X) (r : List LOp) (n : Nat) (A : List V) (H : Hp) : Ro M K (⟨d, .call f xs, none⟩ :: r) n A H = CallK M f (xs.map (X.ev A)) H n (RoL M K d r (n + 16) A) := rfl
theorem RoY' (M : Seat) (K : List V → Hp → Prop) (d : Option Nat) (u : X) (xs : List X) (r : List LOp) (n : Nat) (A : List V) (H : Hp) : Ro M K (⟨d, .dyn u xs, none⟩ :: r) n A H = DynK M (u.ev A) (xs.map (X.ev A)) H n (RoL M K d r (n + 16) A) := rfl

/-- An outcome, and what stands behind it. -/
def outK (o : Out) (M : Seat) (K : List V → Hp → Prop) (d : Option Nat) (r : List LOp) (n : Nat) (A : List V) : Prop := o.pre ∧ Ro M K r n (put A d o.v) o.H
theorem RoO' (M : Seat) (K : List V → Hp → Prop) (d : Option Nat) (o : LO) (r : List LOp) (n : Nat) (A : List V) (H : Hp) : Ro M K (⟨d, .lo o, none⟩ :: r) n A H = outK (step A H n o) M K d r (n + 16) A := rfl
theorem outKE (P : Prop) (v : V) (H : Hp) (M : Seat) (K : List V → Hp → Prop) (d : Option Nat) (r : List LOp) (n : Nat) (A : List V) : outK ⟨P, v, H⟩ M K d r n A = (P ∧ Ro M K r n (put A d v) H) := rfl

/-- An operation that waits for a condition. -/
def GuardK (v : V) (b : Bool) (M : Seat) (K : List V → Hp → Prop) (d : Option Nat) (k : LK) (r : List LOp) (n : Nat) (A : List V) (H : Hp) : Prop :=
  match v with
  | .bool b' => (b' = b → Ro M K (⟨d, k, none⟩ :: r) n A H) ∧ (b' = !b → Ro M K r (n + 16) (put A d (.tup .fnil)) H)
  | .tup _ => Ro M K r (n + 16) (put A d (.tup .fnil)) H
  | _ => False
theorem RoG' (M : Seat) (K : List V → Hp → Prop) (d : Option Nat) (k : LK) (t : Nat) (b : Bool) (r : List LOp) (n : Nat) (A : List V) (H : Hp) : Ro M K (⟨d, k, some (t, b)⟩ :: r) n A H = GuardK (A.getD t .junk) b M K d k r n A H := by
  first | rfl | (simp only [Ro, GuardK]; cases A.getD t .junk <;> rfl)
theorem GuardTT (M : Seat) (K : List V → Hp → Prop) (d : Option Nat) (k : LK) (r : List LOp) (n : Nat) (A : List V) (H : Hp) : GuardK (.bool true) true M K d k r n A H = Ro M K (⟨d, k, none⟩ :: r) n A H := by simp [GuardK]
theorem GuardFF (M : Seat) (K : List V → Hp → Prop) (d : Option Nat) (k : LK) (r : List LOp) (n : Nat) (A : List V) (H : Hp) : GuardK (.bool false) false M K d k r n A H = Ro M K (⟨d, k, none⟩ :: r) n A H := by simp [GuardK]
theorem GuardTF (M : Seat) (K : List V → Hp → Prop) (d : Option Nat) (k : LK) (r : List LOp) (n : Nat) (A : List V) (H : Hp) : GuardK (.bool true) false M K d k r n A H = Ro M K r (n + 16) (put A d (.tup .fnil)) H := by simp [GuardK]
theorem GuardFT (M : Seat) (K : List V → Hp → Prop) (d : Option Nat) (k : LK) (r : List LOp) (n : Nat) (A : List V) (H : Hp) : GuardK (.bool false) true M K d k r n A H = Ro M K r (n + 16) (put A d (.tup .fnil)) H := by simp [GuardK]
theorem GuardU (v : V) (b : Bool) (M : Seat) (K : List V → Hp → Prop) (d : Option Nat) (k : LK) (r : List LOp) (n : Nat) (A : List V) (H : Hp) : GuardK (.tup v) b M K d k r n A H = Ro M K r (n + 16) (put A d (.tup .fnil)) H := rfl

/-- A condition. -/
def CondK (v : V) (M : Seat) (x : Ctx) (Q : List V → Hp → Nat → Prop) (n : Nat) (c d : LC) (k : List It) (N : Nat) (A : List V) (H : Hp) : Prop :=
  match v with
  | .bool t => (t = true → ex M x Q n (.code c :: k) N A H) ∧ (t = false → ex M x Q n (.code d :: k) N A H)
  | _ => False
theorem exCond' (M : Seat) (x : Ctx) (Q : List V → Hp → Nat → Prop) (n : Nat) (y : X) (c d : LC) (k : List It) (N : Nat) (A : List V) (H : Hp) : ex M x Q (n + 1) (.code (.cond y c d) :: k) N A H = CondK (y.ev A) M x Q n c d k N A H := rfl
theorem CondT (M : Seat) (x : Ctx) (Q : List V → Hp → Nat → Prop) (n : Nat) (c d : LC) (k : List It) (N : Nat) (A : List V) (H : Hp) : CondK (.bool true) M x Q n c d k N A H = ex M x Q n (.code c :: k) N A H := by simp [CondK]
theorem CondF (M : Seat) (x : Ctx) (Q : List V → Hp → Nat → Prop) (n : Nat) (c d : LC) (k : List It) (N : Nat) (A : List V) (H : Hp) : CondK (.bool false) M x Q n c d k N A H = ex M x Q n (.code d :: k) N A H := by simp [CondK]

/- What is not decided: both ways. -/
theorem CondK.by {b : Bool} {M : Seat} {x : Ctx} {Q : List V → Hp → Nat → Prop} {n : Nat} {c d : LC} {k : List It} {N : Nat} {A : List V} {H : Hp} (h1 : b = true → ex M x Q n (.code c :: k) N A H) (h2 : b = false → ex M x Q n (.code d :: k) N A H) : CondK (.bool b) M x Q n c d k N A H := ⟨h1, h2⟩
theorem CondK.dec {p : Prop} [Decidable p] {M : Seat} {x : Ctx} {Q : List V → Hp → Nat → Prop} {n : Nat} {c d : LC} {k : List It} {N : Nat} {A : List V} {H : Hp} (h1 : p → ex M x Q n (.code c :: k) N A H) (h2 : ¬ p → ex M x Q n (.code d :: k) N A H) : CondK (.bool (decide p)) M x Q n c d k N A H := ⟨fun h => h1 (of_decide_eq_true h), fun h => h2 (of_decide_eq_false h)⟩
theorem CondK.ndec {p : Prop} [Decidable p] {M : Seat} {x : Ctx} {Q : List V → Hp → Nat → Prop} {n : Nat} {c d : LC} {k : List It} {N : Nat} {A : List V} {H : Hp} (h1 : ¬ p → ex M x Q n (.code c :: k) N A H) (h2 : p → ex M x Q n (.code d :: k) N A H) : CondK (.bool (!decide p)) M x Q n c d k N A H := ⟨fun h => h1 (by simpa using h), fun h => h2 (by simpa using h)⟩

/- Regions that draw their order. -/
def RoDC (M : Seat) (K : List V → Hp → Prop) (m N wm bf : Nat) (d : Option Nat) (k : LK) (r : List DOp) (p : Nat) (A : List V) (bd : List (Nat × Hp)) (al : List (Nat × Nat × V)) (v : V) (H' : Hp) : Prop :=
  (epk A (bs N m p k) k v wm bf al bd ∧ (bif k.isW then idsOK (N + 16 * p) (N + 16 * m) H' else True)) ∧
      RoD M K m N wm r (p + 1) (put A d v) H' (bif k.isW then (p + 1, H') :: bd else bd) (bif k.isA then (p, bs N m p k, hget H' (bs N m p k)) :: al else al)
def OpDC (M : Seat) (f : Nat) (us : List V) (H : Hp) (b : Nat) (C : V → Hp → Prop) : Prop := ∃ v H', CallK M f us H b (fun v' H'' => v' = v ∧ H'' = H') ∧ C v H'
def OpDO (o : Out) (C : V → Hp → Prop) : Prop := o.pre ∧ C o.v o.H
theorem OpDOE (P : Prop) (v : V) (H : Hp) (C : V → Hp → Prop) : OpDO ⟨P, v, H⟩ C = (P ∧ C v H) := rfl
theorem RoDC_call (M : Seat) (K : List V → Hp → Prop) (m N wm ix bf : Nat) (d : Option Nat) (f : Nat) (xs : List X) (r : List DOp) (p : Nat) (A : List V) (H : Hp) (bd : List (Nat × Hp)) (al : List (Nat × Nat × V)) : RoD M K m N wm (⟨ix, bf, ⟨d, .call f xs, none⟩⟩ :: r) p A H bd al =
    OpDC M f (xs.map (X.ev A)) H (bs N m p (.call f xs)) (RoDC M K m N wm bf d (.call f xs) r p A bd al) := rfl
theorem RoDO_lo (M : Seat) (K : List V → Hp → Prop) (m N wm ix bf : Nat) (d : Option Nat) (o : LO) (r : List DOp) (p : Nat) (A : List V) (H : Hp) (bd : List (Nat × Hp)) (al : List (Nat × Nat × V)) : RoD M K m N wm (⟨ix, bf, ⟨d, .lo o, none⟩⟩ :: r) p A H bd al =
    OpDO (step A H (bs N m p (.lo o)) o) (RoDC M K m N wm bf d (.lo o) r p A bd al) := rfl
def OpDY (M : Seat) (u : V) (us : List V) (H : Hp) (b : Nat) (C : V → Hp → Prop) : Prop := ∃ v H', DynK M u us H b (fun v' H'' => v' = v ∧ H'' = H') ∧ C v H'
theorem RoDC_dyn (M : Seat) (K : List V → Hp → Prop) (m N wm ix bf : Nat) (d : Option Nat) (x : X) (xs : List X) (r : List DOp) (p : Nat) (A : List V) (H : Hp) (bd : List (Nat × Hp)) (al : List (Nat × Nat × V)) : RoD M K m N wm (⟨ix, bf, ⟨d, .dyn x xs, none⟩⟩ :: r) p A H bd al =
    OpDY M (x.ev A) (xs.map (X.ev A)) H (bs N m p (.dyn x xs)) (RoDC M K m N wm bf d (.dyn x xs) r p A bd al) := rfl
theorem RoDCE (M : Seat) (K : List V → Hp → Prop) (m N wm bf : Nat) (d : Option Nat) (k : LK) (r : List DOp) (p : Nat) (A : List V) (bd : List (Nat × Hp)) (al : List (Nat × Nat × V)) (v : V) (H' : Hp) : RoDC M K m N wm bf d k r p A bd al v H' =
  ((epk A (bs N m p k) k v wm bf al bd ∧ (bif k.isW then idsOK (N + 16 * p) (N + 16 * m) H' else True)) ∧
      RoD M K m N wm r (p + 1) (put A d v) H' (bif k.isW then (p + 1, H') :: bd else bd) (bif k.isA then (p, bs N m p k, hget H' (bs N m p k)) :: al else al)) := rfl
def GuardD (v : V) (b : Bool) (M : Seat) (K : List V → Hp → Prop) (m N wm ix bf : Nat) (d : Option Nat) (k : LK) (r : List DOp) (p : Nat) (A : List V) (H : Hp) (bd : List (Nat × Hp)) (al : List (Nat × Nat × V)) : Prop :=
  match v with
  | .bool b' => (b' = b → RoD M K m N wm (⟨ix, bf, ⟨d, k, none⟩⟩ :: r) p A H bd al) ∧ (b' = !b → RoD M K m N wm r (p + 1) (put A d (.tup .fnil)) H (bif k.isW then (p + 1, H) :: bd else bd) al)
  | .tup _ => RoD M K m N wm r (p + 1) (put A d (.tup .fnil)) H (bif k.isW then (p + 1, H) :: bd else bd) al
  | _ => False
theorem RoDG' (M : Seat) (K : List V → Hp → Prop) (m N wm ix bf : Nat) (d : Option Nat) (k : LK) (t : Nat) (b : Bool) (r : List DOp) (p : Nat) (A : List V) (H : Hp) (bd : List (Nat × Hp)) (al : List (Nat × Nat × V)) : RoD M K m N wm (⟨ix, bf, ⟨d, k, some (t, b)⟩⟩ :: r) p A H bd al = GuardD (A.getD t .junk) b M K m N wm ix bf d k r p A H bd al := by
  rw [RoD]; unfold GuardD; cases A.getD t .junk <;> rfl
section
variable (M : Seat) (K : List V → Hp → Prop) (m N wm ix bf : Nat) (d : Option Nat) (k : LK) (r : List DOp) (p : Nat) (A : List V) (H : Hp) (bd : List (Nat × Hp)) (al : List (Nat × Nat × V))
theorem GuardDTT : GuardD (.bool true) true M K m N wm ix bf d k r p A H bd al = RoD M K m N wm (⟨ix, bf, ⟨d, k, none⟩⟩ :: r) p A H bd al := by simp [GuardD]
theorem GuardDFF : GuardD (.bool false) false M K m N wm ix bf d k r p A H bd al = RoD M K m N wm (⟨ix, bf, ⟨d, k, none⟩⟩ :: r) p A H bd al := by simp [GuardD]
theorem GuardDTF : GuardD (.bool true) false M K m N wm ix bf d k r p A H bd al = RoD M K m N wm r (p + 1) (put A d (.tup .fnil)) H (bif k.isW then (p + 1, H) :: bd else bd) al := by simp [GuardD]
theorem GuardDFT : GuardD (.bool false) true M K m N wm ix bf d k r p A H bd al = RoD M K m N wm r (p + 1) (put A d (.tup .fnil)) H (bif k.isW then (p + 1, H) :: bd else bd) al := by simp [GuardD]
theorem GuardDU (v : V) (b : Bool) : GuardD (.tup v) b M K m N wm ix bf d k r p A H bd al = RoD M K m N wm r (p + 1) (put A d (.tup .fnil)) H (bif k.isW then (p + 1, H) :: bd else bd) al := rfl
end
theorem GuardK.by {b' b : Bool} {M : Seat} {K : List V → Hp → Prop} {d : Option Nat} {k : LK} {r : List LOp} {n : Nat} {A : List V} {H : Hp} (h1 : b' = b → Ro M K (⟨d, k, none⟩ :: r) n A H) (h2 : b' = !b → Ro M K r (n + 16) (put A d (.tup .fnil)) H) : GuardK (.bool b') b M K d k r n A H := ⟨h1, h2⟩
end Mv
