/- A part. -/
import Derived.Test.YtpcgkiecjakknaaGreatDoorAQ
set_option linter.all false
set_option maxRecDepth 10000
namespace Mv
open Go

/-- A word. -/
def W (w : BitVec 64) : V := .int .u64 (w.toNat : Int)
/-- A byte. -/
def B (b : BitVec 8) : V := .int .u8 (b.toNat : Int)

theorem lt_W (w : BitVec 64) : w.toNat < 18446744073709551616 := w.isLt

theorem vari_xor (a b : BitVec 64) (H : Hp) : vari .xor (W a) (W b) H = ⟨True, W (a ^^^ b), H⟩ := by
  have h := xor_nat (lt_W a) (lt_W b)
  simp only [vari, W]
  rw [h, BitVec.toNat_xor]
theorem vari_and (a b : BitVec 64) (H : Hp) : vari .and (W a) (W b) H = ⟨True, W (a &&& b), H⟩ := by
  have h := and_nat (lt_W a) (lt_W b)
  simp only [vari, W]
  rw [h, BitVec.toNat_and]
theorem vari_or (a b : BitVec 64) (H : Hp) : vari .or (W a) (W b) H = ⟨True, W (a ||| b), H⟩ := by
  have h := or_nat (lt_W a) (lt_W b)
  simp only [vari, W]
  rw [h, BitVec.toNat_or]
theorem vun_xor (a : BitVec 64) (H : Hp) : vun .xor (W a) H = ⟨True, W (~~~a), H⟩ := by
  have h : (18446744073709551615 ^^^ a.toNat : Nat) = (~~~a).toNat := by
    have h2 : BitVec.allOnes 64 ^^^ a = ~~~a := BitVec.allOnes_xor
    rw [← h2, BitVec.toNat_xor]; rfl
  have h3 := not_nat (lt_W a)
  simp only [vun, W]
  rw [h3, h]

/-- Rows of words, of bytes. -/
def ws (s : List (BitVec 64)) : Nat → V := fun j => W (s.getD j 0)
def bys (s : List (BitVec 8)) : Nat → V := fun j => B (s.getD j 0)

theorem ws_at (s : List (BitVec 64)) (j : Nat) : ws s j = W (s.getD j 0) := rfl
theorem bys_at (s : List (BitVec 8)) (j : Nat) : bys s j = B (s.getD j 0) := rfl
theorem solid_W (w : BitVec 64) : (W w).solid = true := rfl
theorem size_W (w : BitVec 64) : (W w).size = 1 := rfl
theorem agg_W (w : BitVec 64) : (W w).isAgg = false := rfl
theorem solid_B (w : BitVec 8) : (B w).solid = true := rfl
theorem size_B (w : BitVec 8) : (B w).size = 1 := rfl
theorem agg_B (w : BitVec 8) : (B w).isAgg = false := rfl
theorem Sim_W (H : Hp) (m z : List Nat) (a b : BitVec 64) : Sim H m z (W a) (W b) ↔ b = a := by
  simp only [Sim, W, V.int.injEq, true_and]
  constructor
  · intro h; exact BitVec.eq_of_toNat_eq (by omega)
  · rintro rfl; rfl
theorem Sim_B (H : Hp) (m z : List Nat) (a b : BitVec 8) : Sim H m z (B a) (B b) ↔ b = a := by
  simp only [Sim, B, V.int.injEq, true_and]
  constructor
  · intro h; exact BitVec.eq_of_toNat_eq (by omega)
  · rintro rfl; rfl
theorem SimV_junk (H : Hp) (m z : List Nat) (u : V) : SimV H m z .junk u = True := rfl
theorem SimV_int (H : Hp) (m z : List Nat) (k : IntKind) (n : Int) (u : V) : SimV H m z (V.int k n) u = Sim H m z (V.int k n) u := rfl
theorem SimV_bool (H : Hp) (m z : List Nat) (b : Bool) (u : V) : SimV H m z (V.bool b) u = Sim H m z (V.bool b) u := rfl
theorem SimV_str (H : Hp) (m z : List Nat) (s : ByteArray) (u : V) : SimV H m z (V.str s) u = Sim H m z (V.str s) u := rfl
theorem SimV_nilp (H : Hp) (m z : List Nat) (u : V) : SimV H m z V.nilp u = Sim H m z V.nilp u := rfl
theorem SimV_ptr (H : Hp) (m z : List Nat) (i : Nat) (p : List Stp) (u : V) : SimV H m z (V.ptr i p) u = Sim H m z (V.ptr i p) u := rfl
theorem SimV_imm (H : Hp) (m z : List Nat) (v : V) (u : V) : SimV H m z (V.imm v) u = Sim H m z (V.imm v) u := rfl
theorem SimV_nils (H : Hp) (m z : List Nat) (u : V) : SimV H m z V.nils u = Sim H m z V.nils u := rfl
theorem SimV_sl (H : Hp) (m z : List Nat) (i : Nat) (p : List Stp) (o n sz : Nat) (u : V) : SimV H m z (V.sl i p o n sz) u = Sim H m z (V.sl i p o n sz) u := rfl
theorem SimV_lst (H : Hp) (m z : List Nat) (sz n : Nat) (f : Nat → V) (u : V) : SimV H m z (V.lst sz n f) u = Sim H m z (V.lst sz n f) u := rfl
theorem SimV_nilm (H : Hp) (m z : List Nat) (u : V) : SimV H m z V.nilm u = Sim H m z V.nilm u := rfl
theorem SimV_map (H : Hp) (m z : List Nat) (i : Nat) (u : V) : SimV H m z (V.map i) u = Sim H m z (V.map i) u := rfl
theorem SimV_nilf (H : Hp) (m z : List Nat) (u : V) : SimV H m z V.nilf u = Sim H m z V.nilf u := rfl
theorem SimV_fn (H : Hp) (m z : List Nat) (f : Nat) (c : V) (u : V) : SimV H m z (V.fn f c) u = Sim H m z (V.fn f c) u := rfl
theorem SimV_nili (H : Hp) (m z : List Nat) (u : V) : SimV H m z V.nili u = Sim H m z V.nili u := rfl
theorem SimV_ifc (H : Hp) (m z : List Nat) (t : Nat) (v : V) (u : V) : SimV H m z (V.ifc t v) u = Sim H m z (V.ifc t v) u := rfl
theorem SimV_st (H : Hp) (m z : List Nat) (n : Nat) (fs : V) (u : V) : SimV H m z (V.st n fs) u = Sim H m z (V.st n fs) u := rfl
theorem SimV_ar (H : Hp) (m z : List Nat) (sz n : Nat) (f : Nat → V) (u : V) : SimV H m z (V.ar sz n f) u = Sim H m z (V.ar sz n f) u := rfl
theorem SimV_tup (H : Hp) (m z : List Nat) (fs : V) (u : V) : SimV H m z (V.tup fs) u = Sim H m z (V.tup fs) u := rfl
theorem SimV_W (H : Hp) (m z : List Nat) (a : BitVec 64) (u : V) : SimV H m z (W a) u = Sim H m z (W a) u := rfl
theorem SimV_B (H : Hp) (m z : List Nat) (a : BitVec 8) (u : V) : SimV H m z (B a) u = Sim H m z (B a) u := rfl
theorem ren_W (m : List Nat) (a : BitVec 64) : (W a).ren m = W a := rfl
theorem ren_B (m : List Nat) (a : BitVec 8) : (B a).ren m = B a := rfl
theorem ren_ws (m : List Nat) (s : List (BitVec 64)) (j : Nat) : (ws s j).ren m = ws s j := rfl
theorem ren_bys (m : List Nat) (s : List (BitVec 8)) (j : Nat) : (bys s j).ren m = bys s j := rfl
theorem v_add (k : IntKind) (a b : Int) (H : Hp) : vari .add (.int k a) (.int k b) H = ⟨True, .int k (k.wrap (a + b)), H⟩ := by simp [vari]
theorem v_sub (k : IntKind) (a b : Int) (H : Hp) : vari .sub (.int k a) (.int k b) H = ⟨True, .int k (k.wrap (a - b)), H⟩ := by simp [vari]
theorem v_mul (k : IntKind) (a b : Int) (H : Hp) : vari .mul (.int k a) (.int k b) H = ⟨True, .int k (k.wrap (a * b)), H⟩ := by simp [vari]
theorem v_quo (k : IntKind) (a b : Int) (H : Hp) : vari .quo (.int k a) (.int k b) H = ⟨b ≠ 0, .int k (k.wrap (a.tdiv b)), H⟩ := by simp [vari]
theorem v_rem (k : IntKind) (a b : Int) (H : Hp) : vari .rem (.int k a) (.int k b) H = ⟨b ≠ 0, .int k (a.tmod b), H⟩ := by simp [vari]
theorem v_shl (k k' : IntKind) (a b : Int) (H : Hp) : vari .shl (.int k a) (.int k' b) H = ⟨0 ≤ b, .int k (k.wrap (a * 2 ^ min b.toNat k.bits)), H⟩ := rfl
theorem v_shr (k k' : IntKind) (a b : Int) (H : Hp) : vari .shr (.int k a) (.int k' b) H = ⟨0 ≤ b, .int k (a.fdiv (2 ^ min b.toNat k.bits)), H⟩ := rfl
theorem v_lss (k : IntKind) (a b : Int) (H : Hp) : vari .lss (.int k a) (.int k b) H = ⟨True, .bool (decide (a < b)), H⟩ := by simp [vari]
theorem v_leq (k : IntKind) (a b : Int) (H : Hp) : vari .leq (.int k a) (.int k b) H = ⟨True, .bool (decide (a ≤ b)), H⟩ := by simp [vari]
theorem v_gtr (k : IntKind) (a b : Int) (H : Hp) : vari .gtr (.int k a) (.int k b) H = ⟨True, .bool (decide (b < a)), H⟩ := by simp [vari]
theorem v_geq (k : IntKind) (a b : Int) (H : Hp) : vari .geq (.int k a) (.int k b) H = ⟨True, .bool (decide (b ≤ a)), H⟩ := by simp [vari]
theorem v_eql (k : IntKind) (a b : Int) (H : Hp) : vari .eql (.int k a) (.int k b) H = ⟨True, .bool (decide (a = b)), H⟩ := by simp [vari]
theorem v_neq (k : IntKind) (a b : Int) (H : Hp) : vari .neq (.int k a) (.int k b) H = ⟨True, .bool (!decide (a = b)), H⟩ := by simp [vari]
theorem v_not (b : Bool) (H : Hp) : vun .not (.bool b) H = ⟨True, .bool (!b), H⟩ := rfl

def vconv (k : IntKind) (v : V) (H : Hp) : Out := match v with
  | .int _ a => ⟨True, .int k (k.wrap a), H⟩
  | _ => bad H
theorem step_conv (A : List V) (H : Hp) (n : Nat) (k : IntKind) (x : X) : step A H n (.conv k x) = vconv k (x.ev A) H := rfl
theorem vconv_B (b : BitVec 8) (H : Hp) : vconv .u64 (B b) H = ⟨True, W (b.setWidth 64), H⟩ := by
  have h := b.isLt
  simp only [vconv, B, W, wrap_u, BitVec.toNat_setWidth]
  congr 2
theorem vconv_W (w : BitVec 64) (H : Hp) : vconv .u8 (W w) H = ⟨True, B (w.setWidth 8), H⟩ := by
  simp only [vconv, B, W, wrap_b, BitVec.toNat_setWidth]
  congr 2
theorem vconv_Wi (w : BitVec 64) (H : Hp) : vconv .i64 (W w) H = ⟨True, .int .i64 (IntKind.i64.wrap (w.toNat : Int)), H⟩ := rfl
theorem vconv_Bi (w : BitVec 8) (H : Hp) : vconv .i64 (B w) H = ⟨True, .int .i64 (w.toNat : Int), H⟩ := by
  have h := w.isLt
  simp only [vconv, B]
  rw [wrap_i64 (by omega)]

theorem vari_shl (a : BitVec 64) (k : IntKind) (b : Int) (H : Hp) : vari .shl (W a) (.int k b) H = ⟨0 ≤ b, W (a <<< b.toNat), H⟩ := by
  simp only [vari, W, wrap_u, BitVec.toNat_shiftLeft, Nat.shiftLeft_eq, IntKind.bits]
  congr 2
  by_cases hb : b.toNat ≤ 64
  · rw [Nat.min_eq_left hb]
    rw [Int.natCast_emod, Int.natCast_mul, Int.natCast_pow]
    rfl
  · rw [Nat.min_eq_right (by omega)]
    have e1 : a.toNat * 2 ^ b.toNat % 2 ^ 64 = 0 := by
      have : b.toNat = 64 + (b.toNat - 64) := by omega
      rw [this, Nat.pow_add, ← Nat.mul_assoc, Nat.mul_right_comm]
      exact Nat.mul_mod_left _ _
    rw [e1]
    have e2 : (2 : Int) ^ 64 = 18446744073709551616 := by decide
    rw [e2]; omega
theorem vari_shr (a : BitVec 64) (k : IntKind) (b : Int) (H : Hp) : vari .shr (W a) (.int k b) H = ⟨0 ≤ b, W (a >>> b.toNat), H⟩ := by
  have ha := a.isLt
  simp only [vari, W, BitVec.toNat_ushiftRight, Nat.shiftRight_eq_div_pow, IntKind.bits]
  congr 2
  rw [Int.fdiv_eq_ediv_of_nonneg _ (Int.pow_nonneg (by omega)), Int.natCast_ediv, Int.natCast_pow]
  by_cases hb : b.toNat ≤ 64
  · rw [Nat.min_eq_left hb]; rfl
  · rw [Nat.min_eq_right (by omega)]
    have h1 : (a.toNat : Int) / 2 ^ 64 = 0 := Int.ediv_eq_zero_of_lt (by omega) (by omega)
    have h2 : a.toNat / 2 ^ b.toNat = 0 := Nat.div_eq_of_lt (Nat.lt_of_lt_of_le ha (Nat.pow_le_pow_right (by omega) (by omega)))
    have h3 : (a.toNat : Int) / ((2 : Nat) : Int) ^ b.toNat = 0 := by
      rw [← Int.natCast_pow, ← Int.natCast_ediv, h2]; rfl
    rw [h1]; exact h3.symm

theorem eqW (a b : BitVec 64) : decide ((a.toNat : Int) = (b.toNat : Int)) = decide (a = b) := by
  rw [decide_eq_decide]
  constructor
  · intro h; exact BitVec.eq_of_toNat_eq (by omega)
  · rintro rfl; rfl
theorem vari_eql_W (a b : BitVec 64) (H : Hp) : vari .eql (W a) (W b) H = ⟨True, .bool (decide (a = b)), H⟩ := by
  simp only [vari, W, eqW]
theorem vari_neq_W (a b : BitVec 64) (H : Hp) : vari .neq (W a) (W b) H = ⟨True, .bool (!decide (a = b)), H⟩ := by
  simp only [vari, W, eqW]
theorem xor_B (a b : BitVec 8) (H : Hp) : vari .xor (B a) (B b) H = ⟨True, B (a ^^^ b), H⟩ := by
  simp only [vari, B, wrap_b]
  congr 2
  rw [ofInt_nat, ofInt_nat]
  have e1 : BitVec.ofNat IntKind.u8.bits a.toNat = a := by apply BitVec.eq_of_toNat_eq; simp [IntKind.bits]
  have e2 : BitVec.ofNat IntKind.u8.bits b.toNat = b := by apply BitVec.eq_of_toNat_eq; simp [IntKind.bits]
  have h3 : (BitVec.ofNat IntKind.u8.bits a.toNat ^^^ BitVec.ofNat IntKind.u8.bits b.toNat).toNat = (a ^^^ b).toNat := by
    rw [BitVec.toNat_xor, BitVec.toNat_xor, e1, e2]; rfl
  rw [h3]
  have := (a ^^^ b).isLt
  omega

/-- Literals. -/
theorem W_lit (n : Nat) (h : n < 18446744073709551616) : V.int .u64 (n : Int) = W (BitVec.ofNat 64 n) := by
  simp only [W, BitVec.toNat_ofNat]; rw [Nat.mod_eq_of_lt (by omega)]
theorem B_lit (n : Nat) (h : n < 256) : V.int .u8 (n : Int) = B (BitVec.ofNat 8 n) := by
  simp only [B, BitVec.toNat_ofNat]; rw [Nat.mod_eq_of_lt (by omega)]

def rc : List (BitVec 64) := rounds.map (BitVec.ofInt 64)

theorem rc_at : ∀ j, j < 24 → ((rc.getD j 0).toNat : Int) = rounds.getD j 0 := by decide

theorem GLv1 : GLv 1 = .ar 1 24 (ws rc) := by
  have : (fun i => V.int .u64 (rounds.getD i 0)) = ws rc := by
    funext j
    by_cases hj : j < 24
    · simp only [ws, W, rc_at j hj]
    · have h1 : rounds.getD j 0 = 0 := by rw [List.getD_eq_getElem?_getD, List.getElem?_eq_none (by simp [rounds]; omega)]; rfl
      have h2 : rc.getD j 0 = 0 := by rw [List.getD_eq_getElem?_getD, List.getElem?_eq_none (by simp [rc, rounds]; omega)]; rfl
      simp only [ws, W, h1, h2]
      rfl
  simp only [GLv, this]

theorem GLv2 : GLv 2 = .ar 1 24 (fun i => .int .i64 (lanes.getD i 0)) := rfl
theorem GLv3 : GLv 3 = .ar 1 24 (fun i => .int .i64 (turns.getD i 0)) := rfl

/-- A digest. -/
structure Dg where
  l : List (BitVec 8)
  h : l.length = 32
deriving DecidableEq
def Dg.at (d : Dg) (j : Nat) : BitVec 8 := d.l.getD j 0
def Dg.mk' (f : Nat → BitVec 8) : Dg := ⟨(List.range 32).map f, by simp⟩
theorem Dg.at_mk' (f : Nat → BitVec 8) (j : Nat) (hj : j < 32) : (Dg.mk' f).at j = f j := by
  simp [Dg.at, Dg.mk', List.getD, List.getElem?_map, List.getElem?_range hj]
theorem Dg.ext' {a b : Dg} (h : ∀ j, j < 32 → a.at j = b.at j) : a = b := by
  obtain ⟨l, hl⟩ := a
  obtain ⟨m, hm⟩ := b
  have : l = m := by
    apply List.ext_getElem (by omega)
    intro i h1 h2
    have := h i (by omega)
    simpa [Dg.at, List.getD, h1, h2] using this
  subst this; rfl
def Dg.zero : Dg := Dg.mk' fun _ => 0
theorem Dg.at_zero (j : Nat) : Dg.zero.at j = 0 := by
  by_cases hj : j < 32
  · rw [Dg.zero, Dg.at_mk' _ _ hj]
  · simp only [Dg.at, Dg.zero, Dg.mk', List.getD]
    rw [List.getElem?_eq_none (by simp; omega)]; rfl
instance : Inhabited Dg := ⟨Dg.zero⟩

/-- A digest's value; rows of bytes, of digests. -/
def dg (d : Dg) : V := .ar 1 32 (fun j => B (d.at j))
def dgs (s : List Dg) : Nat → V := fun j => dg (s.getD j Dg.zero)

theorem solid_dg (d : Dg) : (dg d).solid = true := rfl
theorem size_dg (d : Dg) : (dg d).size = 32 := rfl
theorem agg_dg (d : Dg) : (dg d).isAgg = true := rfl
theorem ren_dg (m : List Nat) (d : Dg) : (dg d).ren m = dg d := rfl
theorem dgs_at (s : List Dg) (j : Nat) : dgs s j = dg (s.getD j Dg.zero) := rfl
theorem ren_dgs (m : List Nat) (s : List Dg) (j : Nat) : (dgs s j).ren m = dgs s j := rfl
theorem SimV_dg (H : Hp) (m z : List Nat) (a : Dg) (u : V) : SimV H m z (dg a) u = Sim H m z (dg a) u := rfl
theorem Sim_dg (H : Hp) (m z : List Nat) (a b : Dg) : Sim H m z (dg a) (dg b) ↔ b = a := by
  simp only [Sim, dg, Sim_B, true_and]
  constructor
  · intro h; exact Dg.ext' (fun j hj => h j hj)
  · rintro rfl _ _; rfl
theorem eqB (a b : BitVec 8) : decide ((a.toNat : Int) = (b.toNat : Int)) = decide (a = b) := by
  rw [decide_eq_decide]
  constructor
  · intro h; exact BitVec.eq_of_toNat_eq (by omega)
  · rintro rfl; rfl
theorem veqP_dg (c : Bool) (a b : Dg) : veqP c (.ar 32 1 false .int) (dg a) (dg b) := by
  simp only [veqP, dg, true_and]
  intro i _
  refine ⟨rfl, rfl, ?_⟩
  simp only [B]
theorem veqV_dg (a b : Dg) : veqV (.ar 32 1 false .int) (dg a) (dg b) = decide (a = b) := by
  have h1 : veqV (.ar 32 1 false .int) (dg a) (dg b) = (List.range 32).all (fun i => decide (a.at i = b.at i)) := by
    simp only [veqV, dg, B, eqB]
  rw [h1, Bool.eq_iff_iff, List.all_eq_true]
  simp only [decide_eq_true_eq, List.mem_range]
  constructor
  · exact fun h => Dg.ext' h
  · rintro rfl _ _; rfl


theorem exZ (M : Seat) (x : Ctx) (Q : List V → Hp → Nat → Prop) (k : List It) (N : Nat) (A : List V) (H : Hp) : ex M x Q 0 k N A H = SemK M x Q k N A H := by cases k <;> rfl
theorem exN (M : Seat) (x : Ctx) (Q : List V → Hp → Nat → Prop) (n : Nat) (N : Nat) (A : List V) (H : Hp) : ex M x Q (n + 1) [] N A H = Q A H N := rfl
theorem exSkip (M : Seat) (x : Ctx) (Q : List V → Hp → Nat → Prop) (n : Nat) (k : List It) (N : Nat) (A : List V) (H : Hp) : ex M x Q (n + 1) (.code .skip :: k) N A H = ex M x Q n k N A H := rfl
theorem exReg (M : Seat) (x : Ctx) (Q : List V → Hp → Nat → Prop) (n : Nat) (ops : List LOp) (k : List It) (N : Nat) (A : List V) (H : Hp) : ex M x Q (n + 1) (.code (.reg ops) :: k) N A H = Ro M (ex M x Q n k (N + 16 * ops.length)) ops N A H := rfl
theorem exRegd (M : Seat) (x : Ctx) (Q : List V → Hp → Nat → Prop) (n : Nat) (L : List DOp) (k : List It) (N : Nat) (A : List V) (H : Hp) : ex M x Q (n + 1) (.code (.regd L) :: k) N A H = RoD M (ex M x Q n k (N + 32 * L.length)) L.length N (wmask L 0) L 0 A H [(0, H)] [] := rfl
theorem exSeq (M : Seat) (x : Ctx) (Q : List V → Hp → Nat → Prop) (n : Nat) (c d : LC) (k : List It) (N : Nat) (A : List V) (H : Hp) : ex M x Q (n + 1) (.code (.seq c d) :: k) N A H = ex M x Q n (.code c :: .code d :: k) N A H := rfl
theorem exBlock (M : Seat) (x : Ctx) (Q : List V → Hp → Nat → Prop) (n : Nat) (id : Nat) (c : LC) (k : List It) (N : Nat) (A : List V) (H : Hp) : ex M x Q (n + 1) (.code (.block id c) :: k) N A H = ex M x Q n (.code c :: .blk id :: k) N A H := rfl
theorem exLoop (M : Seat) (x : Ctx) (Q : List V → Hp → Nat → Prop) (n : Nat) (c : LC) (k : List It) (N : Nat) (A : List V) (H : Hp) : ex M x Q (n + 1) (.code (.loop c) :: k) N A H = LoopK M x Q c k A H N := rfl
theorem exExit (M : Seat) (x : Ctx) (Q : List V → Hp → Nat → Prop) (n : Nat) (id : Nat) (k : List It) (N : Nat) (A : List V) (H : Hp) : ex M x Q (n + 1) (.code (.exit id) :: k) N A H = (match dropTo id k with | some k' => ex M x Q n k' N A H | none => False) := rfl
theorem exRet (M : Seat) (x : Ctx) (Q : List V → Hp → Nat → Prop) (n : Nat) (k : List It) (N : Nat) (A : List V) (H : Hp) : ex M x Q (n + 1) (.code .ret :: k) N A H = Q A H N := rfl
theorem exBlk (M : Seat) (x : Ctx) (Q : List V → Hp → Nat → Prop) (n : Nat) (i : Nat) (k : List It) (N : Nat) (A : List V) (H : Hp) : ex M x Q (n + 1) (.blk i :: k) N A H = ex M x Q n k N A H := rfl
theorem exInv (M : Seat) (x : Ctx) (Q : List V → Hp → Nat → Prop) (n : Nat) (J : List V → Hp → Nat → Prop) (k : List It) (N : Nat) (A : List V) (H : Hp) : ex M x Q (n + 1) (.inv J :: k) N A H = J A H N := rfl
theorem RoN (M : Seat) (K : List V → Hp → Prop) (n : Nat) (A : List V) (H : Hp) : Ro M K [] n A H = K A H := rfl
theorem RoDN (M : Seat) (K : List V → Hp → Prop) (m N wm p : Nat) (A : List V) (H : Hp) (bd : List (Nat × Hp)) (al : List (Nat × Nat × V)) : RoD M K m N wm [] p A H bd al = K A H := rfl
def LT := (And.intro (And.intro (And.intro (And.intro (And.intro (And.intro @SimV_dg @Sim_dg) (And.intro @dgs_at @SimV_W)) (And.intro (And.intro @SimV_B @Sim_W) (And.intro @Sim_B @ws_at))) (And.intro (And.intro (And.intro @bys_at @fr_same) (And.intro @fr_ne @fr_nil)) (And.intro (And.intro @not_false_eq_true @SimV_junk) (And.intro @SimV_int (And.intro @SimV_bool @SimV_str))))) (And.intro (And.intro (And.intro (And.intro @SimV_nilp @SimV_ptr) (And.intro @SimV_imm @SimV_nils)) (And.intro (And.intro @SimV_sl @SimV_lst) (And.intro @SimV_nilm @SimV_map))) (And.intro (And.intro (And.intro @SimV_nilf @SimV_fn) (And.intro @SimV_nili @SimV_ifc)) (And.intro (And.intro @SimV_st @SimV_ar) (And.intro @SimV_tup (And.intro @true_and @and_true)))))) (And.intro (And.intro (And.intro (And.intro (And.intro @and_self @V.int.injEq) (And.intro @V.sl.injEq @V.ptr.injEq)) (And.intro (And.intro @V.bool.injEq @Bool.true_or) (And.intro @solid_W @solid_B))) (And.intro (And.intro (And.intro @solid_dg @solid_int) (And.intro @solid_bool @solid_str)) (And.intro (And.intro @solid_nilp @solid_ptr) (And.intro @solid_imm (And.intro @solid_nils @solid_sl))))) (And.intro (And.intro (And.intro (And.intro @solid_lst @solid_nilm) (And.intro @solid_map @solid_nilf)) (And.intro (And.intro @solid_fn @solid_nili) (And.intro @solid_ifc (And.intro @solid_st @solid_ar)))) (And.intro (And.intro (And.intro @Bool.and_true @Bool.true_and) (And.intro @Bool.and_self @Nat.zero_add)) (And.intro (And.intro @Nat.le_refl @Bool.or_true) (And.intro @Bool.or_false (And.intro @Bool.false_or @Int.natCast_zero)))))))
def LN := (And.intro (And.intro @ren_W (And.intro @ren_B @ren_dg)) (And.intro (And.intro @ren_ws @ren_bys) (And.intro @ren_dgs @not_false_eq_true)))
theorem poP (a b : Prop) : (bif true then a else b) = a := rfl
theorem poPf (a b : Prop) : (bif false then a else b) = b := rfl
theorem poH (a b : List (Nat × Hp)) : (bif true then a else b) = a := rfl
theorem poHf (a b : List (Nat × Hp)) : (bif false then a else b) = b := rfl
theorem poA (a b : List (Nat × Nat × V)) : (bif true then a else b) = a := rfl
theorem poAf (a b : List (Nat × Nat × V)) : (bif false then a else b) = b := rfl
theorem poB (a b : Bool) : (bif true then a else b) = a := rfl
theorem poBf (a b : Bool) : (bif false then a else b) = b := rfl
theorem poV (a b : V) : (bif true then a else b) = a := rfl
theorem poVf (a b : V) : (bif false then a else b) = b := rfl
theorem poN (a b : Nat) : (a ≠ b) = ¬ (a = b) := rfl
theorem poI (a b : Int) : (a ≠ b) = ¬ (a = b) := rfl
theorem poBe (a : Nat) : (a == a) = true := beq_self_eq_true a
theorem poBb (a : Bool) : (a == a) = true := beq_self_eq_true a
theorem poBn (a : Bool) : (a != a) = false := by cases a <;> rfl
theorem poSo (a b : Nat) : (some a = some b) = (a = b) := by simp
theorem poG0 (a : Nat) (l : List Nat) : (a :: l)[0]? = some a := rfl
theorem poGs (a : Nat) (l : List Nat) (i : Nat) : (a :: l)[i + 1]? = l[i]? := rfl
theorem poGn (i : Nat) : ([] : List Nat)[i]? = none := rfl
theorem poCc (a b : Nat) (l : List Nat) : (b :: l).contains a = (a == b || l.contains a) := List.contains_cons
theorem poCn (a : Nat) : ([] : List Nat).contains a = false := rfl
theorem poMc (f : X → V) (a : X) (l : List X) : (a :: l).map f = f a :: l.map f := rfl
theorem poMn (f : X → V) : ([] : List X).map f = [] := rfl
theorem poMh (f : Nat × Nat × V → Nat × V) (a : Nat × Nat × V) (l : List (Nat × Nat × V)) : (a :: l).map f = f a :: l.map f := rfl
theorem poMhn (f : Nat × Nat × V → Nat × V) : ([] : List (Nat × Nat × V)).map f = [] := rfl
theorem poFc (p : Nat × Nat × V → Bool) (a : Nat × Nat × V) (l : List (Nat × Nat × V)) : (a :: l).filter p = if p a = true then a :: l.filter p else l.filter p := List.filter_cons
theorem poFn (p : Nat × Nat × V → Bool) : ([] : List (Nat × Nat × V)).filter p = [] := rfl
theorem poL1 (a : LOp) (l : List LOp) : (a :: l).length = l.length + 1 := rfl
theorem poL1n : ([] : List LOp).length = 0 := rfl
theorem poL2 (a : DOp) (l : List DOp) : (a :: l).length = l.length + 1 := rfl
theorem poL2n : ([] : List DOp).length = 0 := rfl
theorem poL3 (a : V) (l : List V) : (a :: l).length = l.length + 1 := rfl
theorem poL3n : ([] : List V).length = 0 := rfl
theorem poL4 (a : X) (l : List X) : (a :: l).length = l.length + 1 := rfl
theorem poL4n : ([] : List X).length = 0 := rfl
theorem poA1 (a : Nat × V) (l m : List (Nat × V)) : a :: l ++ m = a :: (l ++ m) := rfl
theorem poA1n (m : List (Nat × V)) : [] ++ m = m := rfl
theorem poA2 (a : V) (l m : List V) : a :: l ++ m = a :: (l ++ m) := rfl
theorem poA2n (m : List V) : [] ++ m = m := rfl
theorem poA3 (l : List (Nat × V)) : l ++ [] = l := List.append_nil l
theorem poZ (n : Nat) : ((OfNat.ofNat n : Nat) : Int) = OfNat.ofNat n := rfl
def LP := (And.intro (And.intro (And.intro (And.intro (And.intro @poP @poPf) (And.intro @poH (And.intro @poHf @poA))) (And.intro (And.intro @poAf @poB) (And.intro @poBf (And.intro @poV @poVf)))) (And.intro (And.intro (And.intro @poN @poI) (And.intro @poBe (And.intro @poBb @poBn))) (And.intro (And.intro @poSo @poG0) (And.intro @poGs (And.intro @poGn @poCc))))) (And.intro (And.intro (And.intro (And.intro @poCn @poMc) (And.intro @poMn (And.intro @poMh @poMhn))) (And.intro (And.intro @poFc @poFn) (And.intro @poL1 (And.intro @poL1n @poL2)))) (And.intro (And.intro (And.intro @poL2n @poL3) (And.intro @poL3n (And.intro @poL4 @poL4n))) (And.intro (And.intro @poA1 (And.intro @poA1n @poA2)) (And.intro @poA2n (And.intro @poA3 @poZ))))))
end Mv
