/- A part. -/
import Derived.Test.YtpcgkiecjakknaaGreatDoorAS
set_option linter.all false
set_option maxRecDepth 20000
set_option maxHeartbeats 4000000
namespace Mv
open Go

theorem W_lit' (n : Nat) (h : n < 18446744073709551616) : V.int .u64 (no_index (OfNat.ofNat n : Int)) = W (BitVec.ofNat 64 n) := W_lit n h
theorem B_lit' (n : Nat) (h : n < 256) : V.int .u8 (no_index (OfNat.ofNat n : Int)) = B (BitVec.ofNat 8 n) := B_lit n h

theorem vW_add (a b : BitVec 64) (H : Hp) : vari .add (W a) (W b) H = ⟨True, W (a + b), H⟩ := by
  simp only [vari, W, wrap_u, BitVec.toNat_add]; congr 2
theorem vW_sub (a b : BitVec 64) (H : Hp) : vari .sub (W a) (W b) H = ⟨True, W (a - b), H⟩ := by
  have h1 := a.isLt; have h2 := b.isLt
  simp only [vari, W, wrap_u, BitVec.toNat_sub]; congr 2; omega
theorem vW_mul (a b : BitVec 64) (H : Hp) : vari .mul (W a) (W b) H = ⟨True, W (a * b), H⟩ := by
  simp only [vari, W, wrap_u, BitVec.toNat_mul]; congr 2
theorem vW_quo (a b : BitVec 64) (H : Hp) : vari .quo (W a) (W b) H = ⟨b ≠ 0, W (a / b), H⟩ := by
  have h1 := a.isLt
  have h2 : a.toNat / b.toNat ≤ a.toNat := Nat.div_le_self _ _
  have e : ((b.toNat : Int) ≠ 0) = (b ≠ 0) := by
    refine propext (not_congr ⟨fun h => BitVec.eq_of_toNat_eq (by simpa using h), ?_⟩)
    rintro rfl; rfl
  simp only [vari, W, wrap_u, BitVec.toNat_udiv, true_and]
  rw [e]; congr 2
  rw [Int.tdiv_eq_ediv_of_nonneg (by omega), ← Int.natCast_ediv]
  generalize a.toNat / b.toNat = q at *; omega
theorem vW_rem (a b : BitVec 64) (H : Hp) : vari .rem (W a) (W b) H = ⟨b ≠ 0, W (a % b), H⟩ := by
  have e : ((b.toNat : Int) ≠ 0) = (b ≠ 0) := by
    refine propext (not_congr ⟨fun h => BitVec.eq_of_toNat_eq (by simpa using h), ?_⟩)
    rintro rfl; rfl
  simp only [vari, W, BitVec.toNat_umod, true_and]
  rw [e]; congr 2
theorem vW_lss (a b : BitVec 64) (H : Hp) : vari .lss (W a) (W b) H = ⟨True, .bool (decide (a < b)), H⟩ := by
  simp only [vari, W, BitVec.lt_def, Int.ofNat_lt]
theorem vW_leq (a b : BitVec 64) (H : Hp) : vari .leq (W a) (W b) H = ⟨True, .bool (decide (a ≤ b)), H⟩ := by
  simp only [vari, W, BitVec.le_def, Int.ofNat_le]
theorem vW_gtr (a b : BitVec 64) (H : Hp) : vari .gtr (W a) (W b) H = ⟨True, .bool (decide (b < a)), H⟩ := by
  simp only [vari, W, BitVec.lt_def, Int.ofNat_lt]
theorem vW_geq (a b : BitVec 64) (H : Hp) : vari .geq (W a) (W b) H = ⟨True, .bool (decide (b ≤ a)), H⟩ := by
  simp only [vari, W, BitVec.le_def, Int.ofNat_le]
theorem vW_neg (a : BitVec 64) (H : Hp) : vun .neg (W a) H = ⟨True, W (-a), H⟩ := by
  have h1 := a.isLt
  simp only [vun, W, wrap_u, BitVec.toNat_neg]; congr 2; omega
theorem vW_shlW (a b : BitVec 64) (H : Hp) : vari .shl (W a) (W b) H = ⟨True, W (a <<< b.toNat), H⟩ := by
  have := vari_shl a .u64 (b.toNat : Int) H
  simp only [Int.toNat_natCast] at this
  rw [show W b = V.int .u64 (b.toNat : Int) from rfl, this]; congr 1; simp
theorem vW_shrW (a b : BitVec 64) (H : Hp) : vari .shr (W a) (W b) H = ⟨True, W (a >>> b.toNat), H⟩ := by
  have := vari_shr a .u64 (b.toNat : Int) H
  simp only [Int.toNat_natCast] at this
  rw [show W b = V.int .u64 (b.toNat : Int) from rfl, this]; congr 1; simp
theorem vB_eql (a b : BitVec 8) (H : Hp) : vari .eql (B a) (B b) H = ⟨True, .bool (decide (a = b)), H⟩ := by
  simp only [vari, B, eqB]
theorem vB_neq (a b : BitVec 8) (H : Hp) : vari .neq (B a) (B b) H = ⟨True, .bool (!decide (a = b)), H⟩ := by
  simp only [vari, B, eqB]

theorem wrap_toInt (w : BitVec 64) : IntKind.i64.wrap (w.toNat : Int) = w.toInt := by
  have := w.isLt
  rw [wrap_i, BitVec.toInt_eq_toNat_cond]
  split <;> split <;> omega
theorem cv_i64W (w : BitVec 64) (H : Hp) : vconv .i64 (W w) H = ⟨True, .int .i64 w.toInt, H⟩ := by
  rw [vconv_Wi, wrap_toInt]
theorem cv_i64 (k : IntKind) (a : Int) (H : Hp) : vconv .i64 (.int k a) H = ⟨True, .int .i64 (IntKind.i64.wrap a), H⟩ := rfl
theorem cv_i32 (k : IntKind) (a : Int) (H : Hp) : vconv .i32 (.int k a) H = ⟨True, .int .i32 (IntKind.i32.wrap a), H⟩ := rfl
theorem cv_u32 (k : IntKind) (a : Int) (H : Hp) : vconv .u32 (.int k a) H = ⟨True, .int .u32 (IntKind.u32.wrap a), H⟩ := rfl
theorem cv_u64 (k : IntKind) (a : Int) (H : Hp) : vconv .u64 (.int k a) H = ⟨True, W (BitVec.ofInt 64 a), H⟩ := by
  simp only [vconv, W, wrap_u, BitVec.toNat_ofInt]; congr 2; omega
theorem cv_u64W (w : BitVec 64) (H : Hp) : vconv .u64 (W w) H = ⟨True, W w, H⟩ := by
  have := w.isLt
  simp only [vconv, W, wrap_u]; congr 2; omega
theorem cv_u8 (k : IntKind) (a : Int) (H : Hp) : vconv .u8 (.int k a) H = ⟨True, B (BitVec.ofInt 8 a), H⟩ := by
  simp only [vconv, B, wrap_b, BitVec.toNat_ofInt]; congr 2; omega
theorem cv_i32W (w : BitVec 64) (H : Hp) : vconv .i32 (W w) H = ⟨True, .int .i32 (w.setWidth 32).toInt, H⟩ := by
  have := w.isLt
  have h : IntKind.i32.wrap (w.toNat : Int) = (w.setWidth 32).toInt := by
    have e : IntKind.i32.wrap (w.toNat : Int) = if (w.toNat : Int) % 4294967296 ≥ 2147483648 then (w.toNat : Int) % 4294967296 - 4294967296 else (w.toNat : Int) % 4294967296 := by simp [IntKind.wrap, IntKind.bits, IntKind.signed]
    rw [e, BitVec.toInt_eq_toNat_cond, BitVec.toNat_setWidth]
    split <;> split <;> omega
  simp only [vconv, W, h]
theorem cv_u8B (b : BitVec 8) (H : Hp) : vconv .u8 (B b) H = ⟨True, B b, H⟩ := by
  have := b.isLt
  simp only [vconv, B, wrap_b]; congr 2; omega

theorem v_shlW (k : IntKind) (a : Int) (w : BitVec 64) (H : Hp) : vari .shl (.int k a) (W w) H = ⟨True, .int k (k.wrap (a * 2 ^ min w.toNat k.bits)), H⟩ := by
  simp only [vari, W, Int.toNat_natCast]; congr 1; simp
theorem v_shrW (k : IntKind) (a : Int) (w : BitVec 64) (H : Hp) : vari .shr (.int k a) (W w) H = ⟨True, .int k (a.fdiv (2 ^ min w.toNat k.bits)), H⟩ := by
  simp only [vari, W, Int.toNat_natCast]; congr 1; simp
theorem bits_i64 : IntKind.i64.bits = 64 := rfl
theorem bits_u64 : IntKind.u64.bits = 64 := rfl
/- Runs that stop. -/
def RoL (M : Seat) (K : List V → Hp → Prop) (d : Option Nat) (r : List LOp) (n : Nat) (A : List V) (v : V) (H : Hp) : Prop := Ro M K r n (put A d v) H
theorem RoLE (M : Seat) (K : List V → Hp → Prop) (d : Option Nat) (r : List LOp) (n : Nat) (A : List V) (v : V) (H : Hp) : RoL M K d r n A v H = Ro M K r n (put A d v) H := rfl
theorem RoC' (M : Seat) (K : List V → Hp → Prop) (d : Option Nat) (f : Nat) (xs : List X) (r : List LOp) (n : Nat) (A : List V) (H : Hp) : Ro M K (⟨d, .call f xs, none⟩ :: r) n A H = CallK M f (xs.map (X.ev A)) H n (RoL M K d r (n + 16) A) := rfl
theorem RoY' (M : Seat) (K : List V → Hp → Prop) (d : Option Nat) (u : X) (xs : List X) (r : List LOp) (n : Nat) (A : List V) (H : Hp) : Ro M K (⟨d, .dyn u xs, none⟩ :: r) n A H = DynK M (u.ev A) (xs.map (X.ev A)) H n (RoL M K d r (n + 16) A) := rfl

/-- An outcome, and what stands behind it. -/
def outK (o : Out) (M : Seat) (K : List V → Hp → Prop) (d : Option Nat) (r : List LOp) (n : Nat) (A : List V) : Prop := o.pre ∧ Ro M K r n (put A d o.v) o.H
theorem RoO' (M : Seat) (K : List V → Hp → Prop) (d : Option Nat) (o : LO) (r : List LOp) (n : Nat) (A : List V) (H : Hp) : Ro M K (⟨d, .lo o, none⟩ :: r) n A H = outK (step A H n o) M K d r (n + 16) A := rfl
theorem outKE (P : Prop) (v : V) (H : Hp) (M : Seat) (K : List V → Hp → Prop) (d : Option Nat) (r : List LOp) (n : Nat) (A : List V) : outK ⟨P, v, H⟩ M K d r n A = (P ∧ Ro M K r n (put A d v) H) := rfl

/-- An operation that waits for a condition. -/
def GuardK (v : V) (b : Bool) (M : Seat) (K : List V → Hp → Prop) (d : Option Nat) (k : LK) (r : List LOp) (n : Nat) (A : List V) (H : Hp) : Prop :=
  match v with
  | .bool b' => (b' = b → Ro M K (⟨d, k, none⟩ :: r) n A H) ∧ (b' = !b → Ro M K r (n + 16) (put A d (.tup .fnil)) H)
  | .tup _ => Ro M K r (n + 16) (put A d (.tup .fnil)) H
  | _ => False
theorem RoG' (M : Seat) (K : List V → Hp → Prop) (d : Option Nat) (k : LK) (t : Nat) (b : Bool) (r : List LOp) (n : Nat) (A : List V) (H : Hp) : Ro M K (⟨d, k, some (t, b)⟩ :: r) n A H = GuardK (A.getD t .junk) b M K d k r n A H := by
  first | rfl | (simp only [Ro, GuardK]; cases A.getD t .junk <;> rfl)
theorem GuardTT (M : Seat) (K : List V → Hp → Prop) (d : Option Nat) (k : LK) (r : List LOp) (n : Nat) (A : List V) (H : Hp) : GuardK (.bool true) true M K d k r n A H = Ro M K (⟨d, k, none⟩ :: r) n A H := by simp [GuardK]
theorem GuardFF (M : Seat) (K : List V → Hp → Prop) (d : Option Nat) (k : LK) (r : List LOp) (n : Nat) (A : List V) (H : Hp) : GuardK (.bool false) false M K d k r n A H = Ro M K (⟨d, k, none⟩ :: r) n A H := by simp [GuardK]
theorem GuardTF (M : Seat) (K : List V → Hp → Prop) (d : Option Nat) (k : LK) (r : List LOp) (n : Nat) (A : List V) (H : Hp) : GuardK (.bool true) false M K d k r n A H = Ro M K r (n + 16) (put A d (.tup .fnil)) H := by simp [GuardK]
theorem GuardFT (M : Seat) (K : List V → Hp → Prop) (d : Option Nat) (k : LK) (r : List LOp) (n : Nat) (A : List V) (H : Hp) : GuardK (.bool false) true M K d k r n A H = Ro M K r (n + 16) (put A d (.tup .fnil)) H := by simp [GuardK]
theorem GuardU (v : V) (b : Bool) (M : Seat) (K : List V → Hp → Prop) (d : Option Nat) (k : LK) (r : List LOp) (n : Nat) (A : List V) (H : Hp) : GuardK (.tup v) b M K d k r n A H = Ro M K r (n + 16) (put A d (.tup .fnil)) H := rfl

/-- A condition. -/
def CondK (v : V) (M : Seat) (x : Ctx) (Q : List V → Hp → Nat → Prop) (n : Nat) (c d : LC) (k : List It) (N : Nat) (A : List V) (H : Hp) : Prop :=
  match v with
  | .bool t => (t = true → ex M x Q n (.code c :: k) N A H) ∧ (t = false → ex M x Q n (.code d :: k) N A H)
  | _ => False
theorem exCond' (M : Seat) (x : Ctx) (Q : List V → Hp → Nat → Prop) (n : Nat) (y : X) (c d : LC) (k : List It) (N : Nat) (A : List V) (H : Hp) : ex M x Q (n + 1) (.code (.cond y c d) :: k) N A H = CondK (y.ev A) M x Q n c d k N A H := rfl
theorem CondT (M : Seat) (x : Ctx) (Q : List V → Hp → Nat → Prop) (n : Nat) (c d : LC) (k : List It) (N : Nat) (A : List V) (H : Hp) : CondK (.bool true) M x Q n c d k N A H = ex M x Q n (.code c :: k) N A H := by simp [CondK]
theorem CondF (M : Seat) (x : Ctx) (Q : List V → Hp → Nat → Prop) (n : Nat) (c d : LC) (k : List It) (N : Nat) (A : List V) (H : Hp) : CondK (.bool false) M x Q n c d k N A H = ex M x Q n (.code d :: k) N A H := by simp [CondK]

/- What is not decided: both ways. -/
theorem CondK.by {b : Bool} {M : Seat} {x : Ctx} {Q : List V → Hp → Nat → Prop} {n : Nat} {c d : LC} {k : List It} {N : Nat} {A : List V} {H : Hp} (h1 : b = true → ex M x Q n (.code c :: k) N A H) (h2 : b = false → ex M x Q n (.code d :: k) N A H) : CondK (.bool b) M x Q n c d k N A H := ⟨h1, h2⟩
/- Regions that draw their order. -/
def RoDC (M : Seat) (K : List V → Hp → Prop) (m N wm bf : Nat) (d : Option Nat) (k : LK) (r : List DOp) (p : Nat) (A : List V) (bd : List (Nat × Hp)) (al : List (Nat × Nat × V)) (v : V) (H' : Hp) : Prop :=
  (epk A (bs N m p k) k v wm bf al bd ∧ (bif k.isW then idsOK (N + 16 * p) (N + 16 * m) H' else True)) ∧
      RoD M K m N wm r (p + 1) (put A d v) H' (bif k.isW then (p + 1, H') :: bd else bd) (bif k.isA then (p, bs N m p k, hget H' (bs N m p k)) :: al else al)
def OpDC (M : Seat) (f : Nat) (us : List V) (H : Hp) (b : Nat) (C : V → Hp → Prop) : Prop := ∃ v H', CallK M f us H b (fun v' H'' => v' = v ∧ H'' = H') ∧ C v H'
def OpDO (o : Out) (C : V → Hp → Prop) : Prop := o.pre ∧ C o.v o.H
theorem OpDOE (P : Prop) (v : V) (H : Hp) (C : V → Hp → Prop) : OpDO ⟨P, v, H⟩ C = (P ∧ C v H) := rfl
theorem RoDC_call (M : Seat) (K : List V → Hp → Prop) (m N wm ix bf : Nat) (d : Option Nat) (f : Nat) (xs : List X) (r : List DOp) (p : Nat) (A : List V) (H : Hp) (bd : List (Nat × Hp)) (al : List (Nat × Nat × V)) : RoD M K m N wm (⟨ix, bf, ⟨d, .call f xs, none⟩⟩ :: r) p A H bd al =
    OpDC M f (xs.map (X.ev A)) H (bs N m p (.call f xs)) (RoDC M K m N wm bf d (.call f xs) r p A bd al) := rfl
theorem RoDO_lo (M : Seat) (K : List V → Hp → Prop) (m N wm ix bf : Nat) (d : Option Nat) (o : LO) (r : List DOp) (p : Nat) (A : List V) (H : Hp) (bd : List (Nat × Hp)) (al : List (Nat × Nat × V)) : RoD M K m N wm (⟨ix, bf, ⟨d, .lo o, none⟩⟩ :: r) p A H bd al =
    OpDO (step A H (bs N m p (.lo o)) o) (RoDC M K m N wm bf d (.lo o) r p A bd al) := rfl
def OpDY (M : Seat) (u : V) (us : List V) (H : Hp) (b : Nat) (C : V → Hp → Prop) : Prop := ∃ v H', DynK M u us H b (fun v' H'' => v' = v ∧ H'' = H') ∧ C v H'
theorem RoDC_dyn (M : Seat) (K : List V → Hp → Prop) (m N wm ix bf : Nat) (d : Option Nat) (x : X) (xs : List X) (r : List DOp) (p : Nat) (A : List V) (H : Hp) (bd : List (Nat × Hp)) (al : List (Nat × Nat × V)) : RoD M K m N wm (⟨ix, bf, ⟨d, .dyn x xs, none⟩⟩ :: r) p A H bd al =
    OpDY M (x.ev A) (xs.map (X.ev A)) H (bs N m p (.dyn x xs)) (RoDC M K m N wm bf d (.dyn x xs) r p A bd al) := rfl
theorem RoDCE (M : Seat) (K : List V → Hp → Prop) (m N wm bf : Nat) (d : Option Nat) (k : LK) (r : List DOp) (p : Nat) (A : List V) (bd : List (Nat × Hp)) (al : List (Nat × Nat × V)) (v : V) (H' : Hp) : RoDC M K m N wm bf d k r p A bd al v H' =
  ((epk A (bs N m p k) k v wm bf al bd ∧ (bif k.isW then idsOK (N + 16 * p) (N + 16 * m) H' else True)) ∧
      RoD M K m N wm r (p + 1) (put A d v) H' (bif k.isW then (p + 1, H') :: bd else bd) (bif k.isA then (p, bs N m p k, hget H' (bs N m p k)) :: al else al)) := rfl
def GuardD (v : V) (b : Bool) (M : Seat) (K : List V → Hp → Prop) (m N wm ix bf : Nat) (d : Option Nat) (k : LK) (r : List DOp) (p : Nat) (A : List V) (H : Hp) (bd : List (Nat × Hp)) (al : List (Nat × Nat × V)) : Prop :=
  match v with
  | .bool b' => (b' = b → RoD M K m N wm (⟨ix, bf, ⟨d, k, none⟩⟩ :: r) p A H bd al) ∧ (b' = !b → RoD M K m N wm r (p + 1) (put A d (.tup .fnil)) H (bif k.isW then (p + 1, H) :: bd else bd) al)
  | .tup _ => RoD M K m N wm r (p + 1) (put A d (.tup .fnil)) H (bif k.isW then (p + 1, H) :: bd else bd) al
  | _ => False
theorem RoDG' (M : Seat) (K : List V → Hp → Prop) (m N wm ix bf : Nat) (d : Option Nat) (k : LK) (t : Nat) (b : Bool) (r : List DOp) (p : Nat) (A : List V) (H : Hp) (bd : List (Nat × Hp)) (al : List (Nat × Nat × V)) : RoD M K m N wm (⟨ix, bf, ⟨d, k, some (t, b)⟩⟩ :: r) p A H bd al = GuardD (A.getD t .junk) b M K m N wm ix bf d k r p A H bd al := by
  rw [RoD]; unfold GuardD; cases A.getD t .junk <;> rfl
section
variable (M : Seat) (K : List V → Hp → Prop) (m N wm ix bf : Nat) (d : Option Nat) (k : LK) (r : List DOp) (p : Nat) (A : List V) (H : Hp) (bd : List (Nat × Hp)) (al : List (Nat × Nat × V))
theorem GuardDTT : GuardD (.bool true) true M K m N wm ix bf d k r p A H bd al = RoD M K m N wm (⟨ix, bf, ⟨d, k, none⟩⟩ :: r) p A H bd al := by simp [GuardD]
theorem GuardDFF : GuardD (.bool false) false M K m N wm ix bf d k r p A H bd al = RoD M K m N wm (⟨ix, bf, ⟨d, k, none⟩⟩ :: r) p A H bd al := by simp [GuardD]
theorem GuardDTF : GuardD (.bool true) false M K m N wm ix bf d k r p A H bd al = RoD M K m N wm r (p + 1) (put A d (.tup .fnil)) H (bif k.isW then (p + 1, H) :: bd else bd) al := by simp [GuardD]
theorem GuardDFT : GuardD (.bool false) true M K m N wm ix bf d k r p A H bd al = RoD M K m N wm r (p + 1) (put A d (.tup .fnil)) H (bif k.isW then (p + 1, H) :: bd else bd) al := by simp [GuardD]
theorem GuardDU (v : V) (b : Bool) : GuardD (.tup v) b M K m N wm ix bf d k r p A H bd al = RoD M K m N wm r (p + 1) (put A d (.tup .fnil)) H (bif k.isW then (p + 1, H) :: bd else bd) al := rfl
end
theorem GuardK.by {b' b : Bool} {M : Seat} {K : List V → Hp → Prop} {d : Option Nat} {k : LK} {r : List LOp} {n : Nat} {A : List V} {H : Hp} (h1 : b' = b → Ro M K (⟨d, k, none⟩ :: r) n A H) (h2 : b' = !b → Ro M K r (n + 16) (put A d (.tup .fnil)) H) : GuardK (.bool b') b M K d k r n A H := ⟨h1, h2⟩
/-- The seat has these functions. -/
structure OkM (M : Seat) : Prop where
/-- The same, and CommitOrder's own, and the document's machine. -/
structure OkA (M : Seat) : Prop extends OkM M where
instance {M : Seat} : Coe (OkA M) (OkM M) := ⟨OkA.toOkM⟩


/-- A column's parity; what is laid over each of a column. -/
def par (s : List (BitVec 64)) (x : Nat) : BitVec 64 := s.getD x 0 ^^^ s.getD (x + 5) 0 ^^^ s.getD (x + 10) 0 ^^^ s.getD (x + 15) 0 ^^^ s.getD (x + 20) 0


/-- Two results, three. -/
def tup2 (a b : V) : V := .tup (.fcons 0 a (.fcons 1 b .fnil))
def tup3 (a b c : V) : V := .tup (.fcons 0 a (.fcons 1 b (.fcons 2 c .fnil)))


/-- A row of digests that is not written. -/
def row (l : List Dg) : V := .lst 32 l.length (dgs l)




/-- A machine. -/
def mach (f g : Nat → BitVec 64) (pc : BitVec 64) (hl : Bool) (ex : BitVec 64) : V :=
  .st 8211 (.fcons 0 (.ar 1 8192 (fun j => W (f j))) (.fcons 8192 (.ar 1 16 (fun j => W (g j))) (.fcons 8208 (W pc) (.fcons 8209 (.bool hl) (.fcons 8210 (W ex) .fnil)))))



theorem eqP_nn (ts : List Nat) : veqP true (.iface ts) .nili .nili = True := by simp [veqP]
theorem eqV_nn (ts : List Nat) : veqV (.iface ts) .nili .nili = true := rfl
theorem eqP_in (c : Bool) (ts : List Nat) (t : Nat) (v : V) : veqP c (.iface ts) (.ifc t v) .nili = True := by simp [veqP]
theorem eqV_in (ts : List Nat) (t : Nat) (v : V) : veqV (.iface ts) (.ifc t v) .nili = false := by cases v <;> rfl
theorem eqP_pn (c : Bool) (i : Nat) (p : List Stp) : veqP c .ptr (.ptr i p) .nilp = True := by simp [veqP]
theorem eqV_pn (i : Nat) (p : List Stp) : veqV .ptr (.ptr i p) .nilp = false := rfl
theorem eqP_mn (c : Bool) (v : V) : veqP c .ptr (.imm v) .nilp = True := by simp [veqP]
theorem eqV_mn (v : V) : veqV .ptr (.imm v) .nilp = false := rfl


/-- The document's machine; its blocks. -/
def refm (m r : Nat) (pc : BitVec 64) (hl : Bool) (ex : BitVec 64) : V :=
  .st 5 (.fcons 0 (.sl m [] 0 8192 1) (.fcons 1 (.sl r [] 0 16 1) (.fcons 2 (W pc) (.fcons 3 (.bool hl) (.fcons 4 (W ex) .fnil)))))


def laidH (f g : Nat → BitVec 64) (pc : BitVec 64) (hl : Bool) (xt : BitVec 64) (m : Nat) : Hp :=
  [(m, mach f g pc hl xt), (m + 1, refm (m + 2) (m + 3) pc hl xt), (m + 2, .ar 1 8192 (fun j => W (f j))), (m + 3, .ar 1 16 (fun j => W (g j)))]


theorem solid_mach (f g : Nat → BitVec 64) (pc : BitVec 64) (hl : Bool) (xt : BitVec 64) : (mach f g pc hl xt).solid = true := rfl
theorem Sim_mach (H : Hp) (m z : List Nat) (f g : Nat → BitVec 64) (pc : BitVec 64) (hl : Bool) (xt : BitVec 64) : Sim H m z (mach f g pc hl xt) (mach f g pc hl xt) := by
  simp only [mach, LT, SimL, ne_eq, Nat.reduceLT, SimA, Sim, SimH, frz, hget, hhas, List.getElem?_cons_zero, List.getElem?_cons_succ, List.getElem?_nil, BEq.rfl, if_true, reduceCtorEq, Option.some.injEq, Nat.reduceEqDiff, if_false, List.contains_cons, List.contains_nil, V.ok, V.get, V.fget, V.fhas, Nat.reduceLeDiff, implies_true, Nat.reduceBEq, Int.cast_ofNat_Int]

/-- A call of what takes no blocks and leaves none; 'z': blocks that it may look at; they are the caller's again. -/
theorem call_pureL {M : Seat} {f : Nat} {us us0 : List V} {H : Hp} {n : Nat} {K : V → Hp → Prop} {v : V} (z : List Nat) (hr : Runs M f us0 [] 0 (fun r H' k' => r = v ∧ H' = [] ∧ k' = 0)) (hus : SimA H [] z us0 us) (hv : v.ren (nums [] n 0) = v) (hn : NoIm v) (hK : K v H) : CallK M f us H n K := by
  refine call_runs hr True [] z List.nodup_nil (by simp) rfl (by simp) hus trivial ?_
  rintro v' H' k' ⟨rfl, rfl, rfl⟩
  refine ⟨⟨by omega, fun _ => ⟨hn, fun id h => by simp [hhas] at h⟩⟩, ?_⟩
  rw [hv]
  simpa [renH, hrest] using hK

theorem eqP_zz (c : Bool) : veqP c .ptr .nilp .nilp = True := rfl
theorem eqV_zz : veqV .ptr .nilp .nilp = true := rfl
theorem eqP_ni (c : Bool) (ts : List Nat) (t : Nat) (v : V) : veqP c (.iface ts) .nili (.ifc t v) = True := by cases v <;> simp [veqP]
theorem eqV_ni (ts : List Nat) (t : Nat) (v : V) : veqV (.iface ts) .nili (.ifc t v) = false := by cases v <;> rfl
theorem eqP_b (c a b : Bool) : veqP c .bool (.bool a) (.bool b) = True := rfl
theorem eqV_b (a b : Bool) : veqV .bool (.bool a) (.bool b) = (a == b) := by cases a <;> cases b <;> rfl
theorem eqP_i (c : Bool) (k : IntKind) (a b : Int) : veqP c .int (.int k a) (.int k b) = True := by simp [veqP]
theorem eqV_i (k k' : IntKind) (a b : Int) : veqV .int (.int k a) (.int k' b) = decide (a = b) := rfl
theorem eqP_e (c : Bool) (a b : Int) : veqP c (.iface [74]) (.ifc 74 (.int .i64 a)) (.ifc 74 (.int .i64 b)) = True := by simp [veqP]
theorem eqV_e (ts : List Nat) (t : Nat) (a b : Int) : veqV (.iface ts) (.ifc t (.int .i64 a)) (.ifc t (.int .i64 b)) = decide (a = b) := by simp [veqV]
theorem condT (a b : Prop) : (bif true then a else b) = a := rfl
theorem condF (a b : Prop) : (bif false then a else b) = b := rfl
theorem mapc (f : X → V) (a : X) (l : List X) : (a :: l).map f = f a :: l.map f := rfl
theorem mapn (f : X → V) : ([] : List X).map f = [] := rfl
theorem mapT {a b : Bool} : (bif true then a else b) = a := rfl
theorem mapOn (f : X → V) : (none : Option X).map f = none := rfl
theorem mapOs (f : X → V) (a : X) : (some a).map f = some (f a) := rfl
theorem mcons (a : V) (l m : List V) : a :: l ++ m = a :: (l ++ m) := rfl
theorem fcT (a b : List (Nat × Hp)) : (bif true then a else b) = a := rfl
theorem fcF (a b : List (Nat × Hp)) : (bif false then a else b) = b := rfl
theorem flN (f : Nat × Nat × V → Bool) : ([] : List (Nat × Nat × V)).filter f = [] := rfl
theorem lenX (a : LOp) (l : List LOp) : (a :: l).length = l.length + 1 := rfl
theorem neN (a b : Nat) : (a ≠ b) = ¬ (a = b) := rfl
theorem neI (a b : Int) : (a ≠ b) = ¬ (a = b) := rfl
theorem neW (a b : BitVec 64) : (a ≠ b) = ¬ (a = b) := rfl
theorem nlz (n : Nat) : (n < 0) = False := by simp
theorem bTF : (true == false) = false := rfl
theorem bFT : (false == true) = false := rfl
theorem lenN : ([] : List LOp).length = 0 := rfl

def LG := (And.intro (And.intro (And.intro (And.intro (And.intro (And.intro (And.intro (And.intro @vpk_b @stp_pick) (And.intro @vpick_T (And.intro @vpick_F @vpick_Tt))) (And.intro (And.intro @vpick_Ft (And.intro @vpick_bb @stp_mv)) (And.intro @stp_ari (And.intro @stp_un @stp_eq)))) (And.intro (And.intro (And.intro @stp_alloc @stp_box) (And.intro @stp_build (And.intro @stp_bsl @vload_p))) (And.intro (And.intro @vload_i (And.intro @stp_load @vstore_p)) (And.intro @stp_store (And.intro @vnilc_p @vnilc_i))))) (And.intro (And.intro (And.intro (And.intro @vnilc_f @vnilc_c) (And.intro @stp_nilc (And.intro @vfadr_p @vfadr_i))) (And.intro (And.intro @stp_fadr (And.intro @viarr_p @viarr_pW)) (And.intro @viarr_i (And.intro @viarr_iW @stp_iarr)))) (And.intro (And.intro (And.intro @visl_s @visl_sW) (And.intro @visl_l (And.intro @visl_lW @stp_isl))) (And.intro (And.intro @vidx_a (And.intro @vidx_aW @stp_idx)) (And.intro @vfld_s (And.intro @stp_fld @bnd_n)))))) (And.intro (And.intro (And.intro (And.intro (And.intro @bnd_i @bnd_W) (And.intro @bndI_n (And.intro @bndI_i @bndI_W))) (And.intro (And.intro @isAr_a (And.intro @vslarr_p @vslarr_i)) (And.intro @stp_slarr (And.intro @vslsl_s @vslsl_l)))) (And.intro (And.intro (And.intro @vslsl_n @stp_slsl) (And.intro @vs2a_s (And.intro @vs2a_l @stp_s2a))) (And.intro (And.intro @stp_mkif (And.intro @vext_t @stp_ext)) (And.intro @vlen_s (And.intro @vlen_l @vlen_n))))) (And.intro (And.intro (And.intro (And.intro @vlen_str @vlen_nm) (And.intro @stp_len (And.intro @stp_mkfn @vmm_max))) (And.intro (And.intro @vmm_min (And.intro @stp_mm @vsidx_s)) (And.intro @stp_sidx (And.intro @stp_mclone @vmcl_i)))) (And.intro (And.intro (And.intro @vmcl'_m (And.intro @stp_tas @stp_mkmth)) (And.intro @stp_nilm (And.intro @vadd64_W @stp_add64))) (And.intro (And.intro @vmksl_i (And.intro @stp_mksl @stp_app)) (And.intro @vapp_n (And.intro @vapp_s @vapp'_n))))))) (And.intro (And.intro (And.intro (And.intro (And.intro (And.intro @vapp'_s @elems_l) (And.intro @elemsB_a (And.intro @elems_s @elemsC_a))) (And.intro (And.intro @elemsOK_l (And.intro @elemsOK_s @elems_n)) (And.intro @stp_copy (And.intro @vcpy_sn @vcpy_sl)))) (And.intro (And.intro (And.intro @vcpy_ss @vcpy'_a) (And.intro @W_lit' (And.intro @B_lit' @vW_add))) (And.intro (And.intro @vW_sub (And.intro @vW_mul @vW_quo)) (And.intro @vW_rem (And.intro @vW_lss @vW_leq))))) (And.intro (And.intro (And.intro (And.intro @vW_gtr @vW_geq) (And.intro @vW_neg (And.intro @vW_shlW @vW_shrW))) (And.intro (And.intro @vB_eql (And.intro @vB_neq @cv_i64W)) (And.intro @cv_i64 (And.intro @cv_i32 @cv_u32)))) (And.intro (And.intro (And.intro @cv_u64 (And.intro @cv_u64W @cv_u8)) (And.intro @cv_i32W (And.intro @cv_u8B @vconv_B))) (And.intro (And.intro @vconv_W (And.intro @vconv_Bi @vari_shl)) (And.intro @vari_shr (And.intro @vari_eql_W @vari_neq_W)))))) (And.intro (And.intro (And.intro (And.intro (And.intro @vari_xor @vari_and) (And.intro @vari_or (And.intro @vun_xor @xor_B))) (And.intro (And.intro @v_add (And.intro @v_sub @v_mul)) (And.intro @v_quo (And.intro @v_rem @v_shl)))) (And.intro (And.intro (And.intro @v_shr @v_shlW) (And.intro @v_shrW (And.intro @bits_i64 @bits_u64))) (And.intro (And.intro @v_lss (And.intro @v_leq @v_gtr)) (And.intro @v_geq (And.intro @v_eql @v_neq))))) (And.intro (And.intro (And.intro (And.intro @v_not @RoLE) (And.intro @RoC' (And.intro @RoY' @RoO'))) (And.intro (And.intro @outKE (And.intro @RoG' @GuardTT)) (And.intro @GuardFF (And.intro @GuardTF @GuardFT)))) (And.intro (And.intro (And.intro @GuardU (And.intro @RoN @exCond')) (And.intro @CondT (And.intro @CondF @RoDC_call))) (And.intro (And.intro @RoDC_dyn (And.intro @RoDO_lo @OpDOE)) (And.intro @RoDCE (And.intro @RoDG' @GuardDTT)))))))) (And.intro (And.intro (And.intro (And.intro (And.intro (And.intro (And.intro @GuardDFF @GuardDTF) (And.intro @GuardDFT (And.intro @GuardDU @RoDN))) (And.intro (And.intro @exZ (And.intro @exN @exSkip)) (And.intro @exReg (And.intro @exRegd @exSeq)))) (And.intro (And.intro (And.intro @exBlock @exLoop) (And.intro @exExit (And.intro @exRet @exBlk))) (And.intro (And.intro @exInv (And.intro @step_conv @put_fr)) (And.intro @put_none (And.intro @fr_same @fr_ne))))) (And.intro (And.intro (And.intro (And.intro @fr_nil @fr_length) (And.intro @not_false_eq_true (And.intro @true_and @and_true))) (And.intro (And.intro @true_or (And.intro @or_true @and_self)) (And.intro @false_and (And.intro @and_false @neN)))) (And.intro (And.intro (And.intro @neI (And.intro @neW @not_true_eq_false)) (And.intro @solid_W (And.intro @size_W @agg_W))) (And.intro (And.intro @solid_B (And.intro @size_B @agg_B)) (And.intro @solid_dg (And.intro @size_dg @agg_dg)))))) (And.intro (And.intro (And.intro (And.intro (And.intro @dgs_at @ws_at) (And.intro @bys_at (And.intro @veqP_dg @veqV_dg))) (And.intro (And.intro @solid_int (And.intro @solid_bool @solid_str)) (And.intro @solid_nilp (And.intro @solid_ptr @solid_imm)))) (And.intro (And.intro (And.intro @solid_nils @solid_sl) (And.intro @solid_lst (And.intro @solid_nilm @solid_map))) (And.intro (And.intro @solid_nilf (And.intro @solid_fn @solid_nili)) (And.intro @solid_ifc (And.intro @solid_st @solid_ar))))) (And.intro (And.intro (And.intro (And.intro @size_int @size_bool) (And.intro @size_str (And.intro @size_nilp @size_ptr))) (And.intro (And.intro @size_imm (And.intro @size_nils @size_sl)) (And.intro @size_lst (And.intro @size_nilm @size_map)))) (And.intro (And.intro (And.intro @size_nilf (And.intro @size_fn @size_nili)) (And.intro @size_ifc (And.intro @size_st @size_ar))) (And.intro (And.intro @agg_int (And.intro @agg_bool @agg_str)) (And.intro @agg_nilp (And.intro @agg_ptr @agg_imm))))))) (And.intro (And.intro (And.intro (And.intro (And.intro (And.intro @agg_nils @agg_sl) (And.intro @agg_lst (And.intro @agg_nilm @agg_map))) (And.intro (And.intro @agg_nilf (And.intro @agg_fn @agg_nili)) (And.intro @agg_ifc (And.intro @agg_st @agg_ar)))) (And.intro (And.intro (And.intro @Bool.not_true @Bool.not_false) (And.intro @Bool.and_true (And.intro @Bool.true_and @Bool.or_true))) (And.intro (And.intro @Bool.true_or (And.intro @Bool.or_false @Bool.false_or)) (And.intro @Bool.false_and (And.intro @Bool.and_false @Bool.false_xor))))) (And.intro (And.intro (And.intro (And.intro @Bool.xor_false @Bool.true_xor) (And.intro @Bool.xor_true (And.intro @Bool.not_not @Bool.and_self))) (And.intro (And.intro @Bool.or_self (And.intro @Int.toNat_natCast @Int.toNat_zero)) (And.intro @Nat.add_zero (And.intro @Nat.zero_add @Nat.sub_zero)))) (And.intro (And.intro (And.intro @Int.natCast_zero (And.intro @Nat.mul_zero @Nat.zero_or)) (And.intro @Nat.or_zero (And.intro @Nat.and_zero @Nat.zero_and))) (And.intro (And.intro @Nat.zero_shiftRight (And.intro @decide_true @decide_false)) (And.intro @GLv1 (And.intro @GLv2 @GLv3)))))) (And.intro (And.intro (And.intro (And.intro (And.intro @and_assoc @eqP_nn) (And.intro @eqV_nn (And.intro @eqP_in @eqV_in))) (And.intro (And.intro @eqP_ni (And.intro @eqV_ni @eqP_pn)) (And.intro @eqV_pn (And.intro @eqP_mn @eqV_mn)))) (And.intro (And.intro (And.intro @eqP_zz @eqV_zz) (And.intro @eqP_b (And.intro @eqV_b @eqP_i))) (And.intro (And.intro @eqV_i (And.intro @eqP_e @eqV_e)) (And.intro @Bool.false_eq_true (And.intro @Bool.true_eq_false @false_implies))))) (And.intro (And.intro (And.intro (And.intro @true_implies @condT) (And.intro @condF (And.intro @mapc @mapn))) (And.intro (And.intro @mapT (And.intro @mapOn @mapOs)) (And.intro @mcons (And.intro @Nat.le_refl @Int.le_refl)))) (And.intro (And.intro (And.intro @fcT (And.intro @fcF @flN)) (And.intro @lenX (And.intro @lenN @nlz))) (And.intro (And.intro @bTF (And.intro @bFT @poBb)) (And.intro @dropTo.eq_1 (And.intro @dropTo.eq_2 @dropTo.eq_3)))))))))
end Mv
