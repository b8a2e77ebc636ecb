/- A part. -/
import Derived.Test.YtpcgkiecjakknaaGreatDoorAY
set_option linter.all false
set_option maxRecDepth 20000
set_option maxHeartbeats 16000000
namespace Mv
open Go

structure OkGm (M : Seat) : Prop where
  n : OkGN M
  l : OkLd M
  p : OkPo M
  k249 : chkF M 249 f249 = true
  k248 : chkF M 248 f248 = true
  k350 : chkF M 350 f350 = true
  k354 : chkF M 354 f354 = true
theorem runs_clCheck {M : Seat} (ok : OkGm M) : Runs M 249 [ckV2 10#64 0#64] [] 0 (fun r H' k' => r = .nili ∧ H' = [] ∧ k' = 0) := by
  refine runs_fr ok.k249 rfl fun x hx => ?_
  refine ex_sound 2000 _ _ _ _ ?_; (simp (maxSteps := 4000000) only [f249, c249, ckV2, LZ, seval, reduceCtorEq, forall_const])
  exact RetS.mkZ hx [] ⟨rfl, rfl, rfl⟩
/-- A game. -/
def gmV (d : Int) (l g : BitVec 64) (s : Dg) (ld cs : V) : V := .st 37 (.fcons 0 (ruV d l g s) (.fcons 35 ld (.fcons 36 cs .fnil)))
def cl1 (v : Dg) : Cl := ⟨-1, 1#64, v, 0, 0, 0#64, 0#64, false, false, false, 0⟩
theorem runs_gNew {M : Seat} (ok : OkGm M) (s v : Dg) (b : Nat → BitVec 64) (i o k : BitVec 64) (hb : ¬ b 0 < 1#64) :
    Runs M 112 [ruV 2 10#64 0#64 s, .ptr 0 [], .int .i64 0, dg v, W 0#64] [(0, ldV b i o .nils k)] 1 (fun r H' k' => r = tup2 (.ptr 2 []) .nili ∧ H' = [(0, ldV (fun j => if j = 0 then b 0 - 1#64 else b j) i o (.sl 1 [] 0 1 2) (k + 1#64)), (1, .ar 2 1 fun _ => bnV 1#64 false), (2, gmV 2 10#64 0#64 s (.ptr 0 []) (.sl 3 [] 0 1 42)), (3, .ar 42 1 fun _ => (cl1 v).v)] ∧ k' = 4) := by
  have hB := runs_Bond ok.n 0
  rw [show (if (0 : Int) < 0 then 0#64 else BitVec.ofInt 64 0 + 1#64) = 1#64 from rfl] at hB
  have hL := runs_Lock0 ok.l b i o k 0 (by decide) 1#64 hb
  simp only [Int.natCast_zero] at hL
  refine runs_fr ok.n.k112 rfl fun x hx => ?_
  refine ex_sound 2000 _ _ _ _ ?_; (simp (maxSteps := 4000000) only [f112, c112, ruV, ckV2, LZ, seval, reduceCtorEq, forall_const])
  refine call_pA (runs_clCheck ok) (by ((try simp only [ckV2, LY, seval, reduceCtorEq, implies_true]); first | done | exact True.intro | rfl)) (by first | rfl | (simp only [LN, LP, V.ren, tup2, tup3])) (by simp only [ckV2, LX, implies_true]) ?_
  (simp (maxSteps := 4000000) only [LZ, seval, reduceCtorEq, forall_const])
  refine call_pZ (hB) ?_
  (simp (maxSteps := 4000000) only [LZ, seval, reduceCtorEq, forall_const])
  refine call_mA [0] (hL) (by decide) (by rfl) (by ((try simp only [ldV, bnV, LY, seval, reduceCtorEq, implies_true]); first | done | exact True.intro | rfl)) (by ((try simp only [ldV, bnV, LY, seval, reduceCtorEq, implies_true]); first | done | exact True.intro | rfl)) (by simp only [ldV, bnV, LX, implies_true]) (by simp only [ldV, bnV, LX, implies_true]) ?_
  (simp (maxSteps := 4000000) only [tup2, ldV, bnV, LZ, seval, reduceCtorEq, forall_const])
  refine RetS.mk hx [0, 465, 817, 785] [] (tup2 (.ptr 2 []) .nili) [(0, ldV (fun j => if j = 0 then b 0 - 1#64 else b j) i o (.sl 1 [] 0 1 2) (k + 1#64)), (1, .ar 2 1 fun _ => bnV 1#64 false), (2, gmV 2 10#64 0#64 s (.ptr 0 []) (.sl 3 [] 0 1 42)), (3, .ar 42 1 fun _ => (cl1 v).v)] 4 (by decide) (by (simp only [LV, LZ, seval])) (by simp only [LV, tup2, LY, seval]) ?_ ⟨rfl, rfl, rfl⟩
  simp only [ldV, bnV, gmV, ruV, ckV2, cl1, Cl.v, dg, LY, seval, implies_true]
  intro j hj
  obtain rfl : j = 0 := by omega
  simp only [if_true, LY, seval, implies_true]
/-- A fault at a claim. -/
def ftV (c e : Int) : V := .st 2 (.fcons 0 (.int .i64 c) (.fcons 1 (er e) .fnil))
theorem runs_at {M : Seat} (ok : OkGm M) (c e : Int) : Runs M 248 [.int .i64 c, er e] [] 0 (fun r H' k' => r = .ifc 145 (.ptr 0 []) ∧ H' = [(0, ftV c e)] ∧ k' = 1) := by
  refine runs_fr ok.k248 rfl fun x hx => ?_
  refine ex_sound 2000 _ _ _ _ ?_; (simp (maxSteps := 4000000) only [f248, c248, LZ, seval, reduceCtorEq, forall_const])
  refine RetS.mk hx [96] [] (.ifc 145 (.ptr 0 [])) [(0, ftV c e)] 1 (by decide) (by (simp only [LV, LZ, seval, reduceCtorEq, forall_const])) (by simp only [LV, LY, seval, reduceCtorEq, implies_true]) (by simp only [ftV, er, LY, seval, reduceCtorEq, implies_true]) ⟨rfl, rfl, rfl⟩
theorem runs_atNil {M : Seat} (ok : OkGm M) (c : Int) : Runs M 248 [.int .i64 c, .nili] [] 0 (fun r H' k' => r = .nili ∧ H' = [] ∧ k' = 0) := by
  refine runs_fr ok.k248 rfl fun x hx => ?_
  refine ex_sound 2000 _ _ _ _ ?_; (simp (maxSteps := 4000000) only [f248, c248, LZ, seval, reduceCtorEq, forall_const])
  exact RetS.mkZ hx [] ⟨rfl, rfl, rfl⟩
theorem runs_before {M : Seat} (ok : OkGm M) (v : Dg) : Runs M 354 [.ptr 0 [], (cl1 v).v] [] 1 (fun r H' k' => r = W 0#64 ∧ H' = [] ∧ k' = 1) := by
  refine runs_fr ok.k354 rfl fun x hx => ?_
  refine ex_sound 2000 _ _ _ _ ?_; (simp (maxSteps := 4000000) only [f354, c354, cl1, Cl.v, ckV2, LZ, seval, reduceCtorEq, forall_const])
  exact RetS.mkZ hx [0] ⟨rfl, rfl, rfl⟩
/-- The first claim is found. -/
theorem runs_find {M : Seat} (ok : OkGm M) (d : Int) (l g : BitVec 64) (s v : Dg) (ld : V) (hld : ld = .ptr 2 []) :
    Runs M 246 [.ptr 0 [], .int .i64 0] [(0, gmV d l g s ld (.sl 1 [] 0 1 42)), (1, .ar 42 1 fun _ => (cl1 v).v)] 3 (fun r H' k' => r = tup2 (cl1 v).v .nili ∧ H' = [(0, gmV d l g s ld (.sl 1 [] 0 1 42)), (1, .ar 42 1 fun _ => (cl1 v).v)] ∧ k' = 3) := by
  subst hld
  refine runs_fr ok.n.k246 rfl fun x hx => ?_
  refine ex_sound 2000 _ _ _ _ ?_; (simp (maxSteps := 4000000) only [f246, c246, gmV, ruV, ckV2, cl1, Cl.v, LZ, seval, reduceCtorEq, forall_const])
  refine RetS.mk hx [0, 1, 2] [] _ _ _ (by decide) (by (simp only [LV, tup2, dg, LZ, seval, reduceCtorEq, forall_const])) (by ((try simp only [LV, tup2, dg, LZ, seval, reduceCtorEq, forall_const, LY, seval, reduceCtorEq, implies_true]); first | done | exact True.intro | (intros; rfl))) (by ((try simp only [tup2, dg, LY, seval, reduceCtorEq, implies_true]); first | done | exact True.intro | (intros; rfl))) ⟨rfl, rfl, rfl⟩
/-- An answer by attack has its place; one by defence has none. -/
theorem runs_placeA {M : Seat} (ok : OkGm M) (l g : BitVec 64) (s v : Dg) : Runs M 350 [.ptr 0 [], (cl1 v).v, .bool false] [(0, gmV 2 l g s (.ptr 2 []) (.sl 1 [] 0 1 42))] 3 (fun r H' k' => r = tup3 (W 2#64) (.int .i64 1) .nili ∧ H' = [(0, gmV 2 l g s (.ptr 2 []) (.sl 1 [] 0 1 42))] ∧ k' = 3) := by
  refine runs_fr ok.k350 rfl fun x hx => ?_
  have z1 : IntKind.i64.wrap 1 = 1 := rfl
  refine ex_sound 2000 _ _ _ _ ?_; (simp (maxSteps := 4000000) only [f350, c350, gmV, ruV, ckV2, cl1, Cl.v, LZ, seval, reduceCtorEq, forall_const])
  refine call_pZ (runs_Parts1 ok.p) ?_
  (simp (maxSteps := 4000000) only [tup3, LZ, seval, reduceCtorEq, forall_const])
  refine call_pZ (runs_Attack1 ok.p) ?_
  (simp (maxSteps := 4000000) only [tup2, z1, LZ, seval, reduceCtorEq, forall_const])
  refine RetS.mk hx [0, 1, 2] [] _ _ _ (by decide) (by (simp only [LV, tup3, dg, LZ, seval, reduceCtorEq, forall_const])) (by ((try simp only [LV, tup3, dg, LZ, seval, reduceCtorEq, forall_const, LY, seval, reduceCtorEq, implies_true]); first | done | exact True.intro | (intros; rfl))) (by ((try simp only [tup3, dg, LY, seval, reduceCtorEq, implies_true]); first | done | exact True.intro | (intros; rfl))) ⟨rfl, rfl, rfl⟩
theorem runs_placeD {M : Seat} (ok : OkGm M) (l g : BitVec 64) (s v : Dg) : Runs M 350 [.ptr 0 [], (cl1 v).v, .bool true] [(0, gmV 2 l g s (.ptr 2 []) (.sl 1 [] 0 1 42))] 3 (fun r H' k' => r = tup3 (W 0#64) (.int .i64 1) (er 45) ∧ H' = [(0, gmV 2 l g s (.ptr 2 []) (.sl 1 [] 0 1 42))] ∧ k' = 3) := by
  refine runs_fr ok.k350 rfl fun x hx => ?_
  have z1 : IntKind.i64.wrap 1 = 1 := rfl
  refine ex_sound 2000 _ _ _ _ ?_; (simp (maxSteps := 4000000) only [f350, c350, gmV, ruV, ckV2, cl1, Cl.v, LZ, seval, reduceCtorEq, forall_const])
  refine call_pZ (runs_Parts1 ok.p) ?_
  (simp (maxSteps := 4000000) only [tup3, LZ, seval, reduceCtorEq, forall_const])
  refine call_pZ (runs_Attack1 ok.p) ?_
  (simp (maxSteps := 4000000) only [tup2, LZ, seval, reduceCtorEq, forall_const])
  refine call_pZ (runs_Defend1 ok.p) ?_
  (simp (maxSteps := 4000000) only [tup2, z1, LZ, seval, reduceCtorEq, forall_const])
  refine RetS.mk hx [0, 1, 2] [] _ _ _ (by decide) (by (simp only [LV, tup3, dg, LZ, seval, reduceCtorEq, forall_const])) (by ((try simp only [LV, tup3, dg, LZ, seval, reduceCtorEq, forall_const, LY, seval, reduceCtorEq, implies_true]); first | done | exact True.intro | (intros; rfl))) (by ((try simp only [tup3, dg, LY, seval, reduceCtorEq, implies_true]); first | done | exact True.intro | (intros; rfl))) ⟨rfl, rfl, rfl⟩

def vmm4 (max : Bool) (x y z w : V) (H : Hp) : Out := match x, y, z, w with
  | .int k a, .int k1 b, .int k2 c, .int k3 d => ⟨k = k1 ∧ k = k2 ∧ k = k3, .int k (mm2 max (mm2 max (mm2 max a b) c) d), H⟩
  | _, _, _, _ => bad H
theorem stp_mm4 (A : List V) (H : Hp) (n : Nat) (max : Bool) (x y z w : X) : step A H n (.mm4 max x y z w) = vmm4 max (x.ev A) (y.ev A) (z.ev A) (w.ev A) H := rfl
def mxW (a b : BitVec 64) : BitVec 64 := if a < b then b else a
theorem mm2_W (a b : BitVec 64) : mm2 true (a.toNat : Int) (b.toNat : Int) = ((mxW a b).toNat : Int) := by
  unfold mm2 mxW
  simp only [if_true, BitVec.lt_def]
  by_cases h : a.toNat < b.toNat
  · rw [if_pos h, if_pos (by omega)]
  · rw [if_neg h, if_neg (by omega)]
theorem vmm4_W (a b c d : BitVec 64) (H : Hp) : vmm4 true (W a) (W b) (W c) (W d) H = ⟨True, W (mxW (mxW (mxW a b) c) d), H⟩ := by
  simp only [W, vmm4, mm2_W, and_self]

structure OkMv (M : Seat) : Prop where
  g : OkGm M
  k351 : chkF M 351 f351 = true
  k352 : chkF M 352 f352 = true
  k353 : chkF M 353 f353 = true
  k452 : chkF M 452 f452 = true
  k453 : chkF M 453 f453 = true
  k487 : chkF M 487 f487 = true
  k247 : chkF M 247 f247 = true
  fn352 : FnOK M 352
theorem runs_Spent {M : Seat} (ok : OkMv M) : Runs M 487 [ckV2 0#64 0#64, W 0#64, W 3#64] [] 0 (fun r H' k' => r = tup2 (W 3#64) .nili ∧ H' = [] ∧ k' = 0) := by
  refine runs_fr ok.k487 rfl fun x hx => ?_
  have e : mxW (mxW (mxW 0#64 0#64) 0#64) 3#64 = 3#64 := by decide
  refine ex_sound 2000 _ _ _ _ ?_; (simp (maxSteps := 4000000) only [f487, c487, ckV2, stp_mm4, vmm4_W, e, LZ, seval, reduceCtorEq, forall_const])
  refine RetS.mk hx [] [] _ _ _ (by decide) (by (simp only [LV, tup2, LZ, seval, reduceCtorEq, forall_const])) (by ((try simp only [LV, tup2, LZ, seval, reduceCtorEq, forall_const, LY, seval, reduceCtorEq, implies_true]); first | done | exact True.intro | (intros; rfl))) (by ((try simp only [tup2, LY, seval, reduceCtorEq, implies_true]); first | done | exact True.intro | (intros; rfl))) ⟨rfl, rfl, rfl⟩
theorem runs_spent {M : Seat} (ok : OkMv M) : Runs M 453 [ckV2 10#64 0#64, ckV2 0#64 0#64, W 0#64, W 3#64] [] 0 (fun r H' k' => r = tup2 (W 3#64) .nili ∧ H' = [] ∧ k' = 0) := by
  refine runs_fr ok.k453 rfl fun x hx => ?_
  refine ex_sound 2000 _ _ _ _ ?_; (simp (maxSteps := 4000000) only [f453, c453, ckV2, LZ, seval, reduceCtorEq, forall_const])
  refine call_pA (runs_clCheck ok.g) (by ((try simp only [ckV2, LY, seval, reduceCtorEq, implies_true]); first | done | exact True.intro | rfl)) (by first | rfl | (simp only [LN, LP, V.ren, tup2, tup3])) (by simp only [ckV2, LX, implies_true]) ?_
  (simp (maxSteps := 4000000) only [LZ, seval, reduceCtorEq, forall_const])
  refine call_pA (runs_Spent ok) (by ((try simp only [ckV2, LY, seval, reduceCtorEq, implies_true]); first | done | exact True.intro | rfl)) (by first | rfl | (simp only [LN, LP, V.ren, tup2, tup3])) (by simp only [ckV2, LX, implies_true]) ?_
  (simp (maxSteps := 4000000) only [tup2, LZ, seval, reduceCtorEq, forall_const])
  refine RetS.mk hx [] [] _ _ _ (by decide) (by (simp only [LV, tup2, LZ, seval, reduceCtorEq, forall_const])) (by ((try simp only [LV, tup2, LZ, seval, reduceCtorEq, forall_const, LY, seval, reduceCtorEq, implies_true]); first | done | exact True.intro | (intros; rfl))) (by ((try simp only [tup2, LY, seval, reduceCtorEq, implies_true]); first | done | exact True.intro | (intros; rfl))) ⟨rfl, rfl, rfl⟩
theorem vmm_310 (H : Hp) : vmm false (W 3#64) (W 10#64) H = ⟨True, W 3#64, H⟩ := by
  have : vmm false (W 3#64) (W 10#64) H = ⟨IntKind.u64 = IntKind.u64, W 3#64, H⟩ := rfl
  rw [this]; simp
theorem runs_Next {M : Seat} (ok : OkMv M) : Runs M 353 [ckV2 10#64 0#64, ckV2 0#64 0#64, W 0#64, W 3#64] [] 0 (fun r H' k' => r = tup2 (ckV2 3#64 3#64) .nili ∧ H' = [] ∧ k' = 0) := by
  refine runs_fr ok.k353 rfl fun x hx => ?_
  refine ex_sound 2000 _ _ _ _ ?_; (simp (maxSteps := 4000000) only [f353, c353, ckV2, LZ, seval, reduceCtorEq, forall_const])
  refine call_pA (runs_spent ok) (by ((try simp only [ckV2, LY, seval, reduceCtorEq, implies_true]); first | done | exact True.intro | rfl)) (by first | rfl | (simp only [LN, LP, V.ren, tup2, tup3])) (by simp only [ckV2, LX, implies_true]) ?_
  (simp (maxSteps := 4000000) only [tup2, vmm_310, LZ, seval, reduceCtorEq, forall_const])
  refine RetS.mk hx [] [] _ _ _ (by decide) (by (simp only [LV, tup2, ckV2, LZ, seval, reduceCtorEq, forall_const])) (by ((try simp only [LV, tup2, ckV2, LZ, seval, reduceCtorEq, forall_const, LY, seval, reduceCtorEq, implies_true]); first | done | exact True.intro | (intros; rfl))) (by ((try simp only [tup2, ckV2, LY, seval, reduceCtorEq, implies_true]); first | done | exact True.intro | (intros; rfl))) ⟨rfl, rfl, rfl⟩
/-- The answer that is asked for, as it is ahead of its place and clock. -/
def cl2 (v : Dg) (pl : Int) : Cl := ⟨0, 0#64, v, pl, 0, 0#64, 0#64, false, false, false, pl⟩
theorem runs_same {M : Seat} (ok : OkMv M) (v : Dg) (X : Cl) (hX : X.par = 0) (q : BitVec 64) : Runs M 352 [(cl1 v).v, .imm X.v, .imm (W q)] [] 0 (fun r H' k' => r = .bool false ∧ H' = [] ∧ k' = 0) := by
  refine runs_fr ok.k352 rfl fun x hx => ?_
  refine ex_sound 2000 _ _ _ _ ?_; (simp (maxSteps := 4000000) only [f352, c352, cl1, Cl.v, ckV2, hX, LZ, seval, reduceCtorEq, forall_const])
  exact RetS.mkZ hx [] ⟨rfl, rfl, rfl⟩
theorem dyn_2 {M : Seat} {f : Nat} {v w : V} {us : List V} {H : Hp} {n : Nat} {K : V → Hp → Prop} (hf : FnOK M f) (hv : (v.solid && !v.isAgg) = true) (hw : (w.solid && !w.isAgg) = true) (h : CallK M f (us ++ [v, w]) H n K) : DynK M (.fn f (.st 2 (.fcons 0 v (.fcons 1 w .fnil)))) us H n K := by
  refine ⟨⟨hf, ?_⟩, h⟩
  simp [V.fhas, V.fget, List.range_succ] at hv hw ⊢
  exact ⟨hv, hw⟩
theorem runs_IndexFunc {M : Seat} (ok : OkMv M) (v : Dg) (X : Cl) (hX : X.par = 0) (q : BitVec 64) : Runs M 452 [.lst 42 1 (fun _ => (cl1 v).v), .fn 352 (.st 2 (.fcons 0 (.imm X.v) (.fcons 1 (.imm (W q)) .fnil)))] [] 0 (fun r H' k' => r = .int .i64 (-1) ∧ H' = [] ∧ k' = 0) := by
  have h := runs_same ok v X hX q
  refine runs_fr ok.k452 rfl fun x hx => ?_
  have z1 : IntKind.i64.wrap 1 = 1 := rfl
  refine ex_sound 2000 _ _ _ _ ?_; (simp (maxSteps := 4000000) only [f452, c452, LZ, seval, reduceCtorEq, forall_const])
  refine loop_once ?_
  refine ex_sound 2000 _ _ _ _ ?_
  (simp (maxSteps := 4000000) only [cl1, Cl.v, ckV2, LZ, seval, reduceCtorEq, forall_const])
  refine dyn_2 ok.fn352 rfl rfl ?_
  refine call_pA (h) (by ((try simp only [cl1, Cl.v, ckV2, dg, LY, seval, reduceCtorEq, implies_true]); first | done | exact True.intro | rfl)) (by first | rfl | (simp only [LN, LP, V.ren, tup2, tup3])) (by simp only [cl1, Cl.v, ckV2, dg, LX, implies_true]) ?_
  (simp (maxSteps := 4000000) only [LZ, seval, reduceCtorEq, forall_const])
  refine loop_once ?_
  refine ex_sound 2000 _ _ _ _ ?_
  (simp (maxSteps := 4000000) only [z1, LZ, seval, reduceCtorEq, forall_const])
  exact RetS.mkZ hx [] ⟨rfl, rfl, rfl⟩
theorem runs_Contains {M : Seat} (ok : OkMv M) (v : Dg) (X : Cl) (hX : X.par = 0) (q : BitVec 64) : Runs M 351 [.lst 42 1 (fun _ => (cl1 v).v), .fn 352 (.st 2 (.fcons 0 (.imm X.v) (.fcons 1 (.imm (W q)) .fnil)))] [] 0 (fun r H' k' => r = .bool false ∧ H' = [] ∧ k' = 0) := by
  have h := runs_IndexFunc ok v X hX q
  refine runs_fr ok.k351 rfl fun x hx => ?_
  refine ex_sound 2000 _ _ _ _ ?_; (simp (maxSteps := 4000000) only [f351, c351, LZ, seval, reduceCtorEq, forall_const])
  refine call_pA (h) (by ((try simp only [cl1, Cl.v, ckV2, dg, LY, seval, reduceCtorEq, implies_true]); first | done | exact True.intro | rfl)) (by first | rfl | (simp only [LN, LP, V.ren, tup2, tup3])) (by simp only [cl1, Cl.v, ckV2, dg, LX, implies_true]) ?_
  (simp (maxSteps := 4000000) only [LZ, seval, reduceCtorEq, forall_const])
  exact RetS.mkZ hx [] ⟨rfl, rfl, rfl⟩

theorem runs_moveD {M : Seat} (ok : OkMv M) (s v w : Dg) (pl : Int) : Runs M 247 [.ptr 0 [], (cl2 w pl).v, (cl1 v).v, .bool true, W 2#64, W 3#64] [(0, gmV 2 10#64 0#64 s (.ptr 2 []) (.sl 1 [] 0 1 42))] 3 (fun r H' k' => r = tup2 (.int .i64 0) (er 45) ∧ H' = [(0, gmV 2 10#64 0#64 s (.ptr 2 []) (.sl 1 [] 0 1 42))] ∧ k' = 3) := by
  refine runs_fr ok.k247 rfl fun x hx => ?_
  refine ex_sound 2000 _ _ _ _ ?_; (simp (maxSteps := 4000000) only [f247, c247, gmV, ruV, ckV2, cl1, cl2, Cl.v, LZ, seval, reduceCtorEq, forall_const])
  refine call_mN [0, 1, 2] [0] (runs_placeD ok.g 10#64 0#64 s v) (by rfl) (by rfl) (by decide) (by rfl) (by rfl) (by ((try simp only [gmV, ruV, ckV2, cl1, Cl.v, dg, LY, seval, reduceCtorEq, implies_true]); first | done | exact True.intro | rfl)) (by ((try simp only [gmV, ruV, ckV2, cl1, Cl.v, dg, LY, seval, reduceCtorEq, implies_true]); first | done | exact True.intro | rfl)) ?_
  (simp (maxSteps := 4000000) only [tup3, gmV, ruV, ckV2, LZ, seval, reduceCtorEq, forall_const])
  refine RetS.mk hx [0, 1, 2] [] _ _ _ (by decide) (by (simp only [LV, tup2, dg, LZ, seval, reduceCtorEq, forall_const])) (by ((try simp only [LV, tup2, dg, LZ, seval, reduceCtorEq, forall_const, LY, seval, reduceCtorEq, implies_true]); first | done | exact True.intro | (intros; rfl))) (by ((try simp only [tup2, dg, LY, seval, reduceCtorEq, implies_true]); first | done | exact True.intro | (intros; rfl))) ⟨rfl, rfl, rfl⟩
theorem runs_MoveD {M : Seat} (ok : OkMv M) (s v w : Dg) (pl : Int) : Runs M 110 [.ptr 0 [], .int .i64 0, .bool true, dg w, .int .i64 pl, W 2#64, W 3#64] [(0, gmV 2 10#64 0#64 s (.ptr 2 []) (.sl 1 [] 0 1 42)), (1, .ar 42 1 fun _ => (cl1 v).v)] 3 (fun r H' k' => r = tup2 (.int .i64 0) (.ifc 145 (.ptr 3 [])) ∧ H' = [(0, gmV 2 10#64 0#64 s (.ptr 2 []) (.sl 1 [] 0 1 42)), (1, .ar 42 1 fun _ => (cl1 v).v), (3, ftV 0 45)] ∧ k' = 4) := by
  have hm := runs_moveD ok s v w pl
  simp only [cl1, cl2, Cl.v, ckV2, gmV, ruV] at hm
  refine runs_fr ok.g.n.k110 rfl fun x hx => ?_
  refine ex_sound 2000 _ _ _ _ ?_; (simp (maxSteps := 4000000) only [f110, c110, gmV, ruV, ckV2, cl1, Cl.v, LZ, seval, reduceCtorEq, forall_const])
  refine call_mN [0, 1, 2] [0, 1] (runs_find ok.g 2 10#64 0#64 s v (.ptr 2 []) rfl) (by rfl) (by rfl) (by decide) (by rfl) (by rfl) (by ((try simp only [gmV, ruV, ckV2, cl1, Cl.v, dg, LY, seval, reduceCtorEq, implies_true]); first | done | exact True.intro | rfl)) (by ((try simp only [gmV, ruV, ckV2, cl1, Cl.v, dg, LY, seval, reduceCtorEq, implies_true]); first | done | exact True.intro | rfl)) ?_
  (simp (maxSteps := 4000000) only [tup2, gmV, ruV, ckV2, cl1, Cl.v, LZ, seval, reduceCtorEq, forall_const])
  refine call_mN [0, 1, 2] [0] (hm) (by rfl) (by rfl) (by decide) (by rfl) (by rfl) (by ((try simp only [dg, LY, seval, reduceCtorEq, implies_true]); first | done | exact True.intro | rfl)) (by ((try simp only [dg, LY, seval, reduceCtorEq, implies_true]); first | done | exact True.intro | rfl)) ?_
  (simp (maxSteps := 4000000) only [tup2, LZ, seval, reduceCtorEq, forall_const])
  refine call_fA (runs_at ok.g 0 45) (by decide) (by ((try simp only [ftV, LY, seval, reduceCtorEq, implies_true]); first | done | exact True.intro | rfl)) (by simp only [ftV, LX, implies_true]) (by simp only [ftV, LX, implies_true]) ?_
  (simp (maxSteps := 4000000) only [tup2, ftV, LZ, seval, reduceCtorEq, forall_const])
  refine RetS.mk hx [0, 1, 2, 531] [] (tup2 (.int .i64 0) (.ifc 145 (.ptr 3 []))) [(0, gmV 2 10#64 0#64 s (.ptr 2 []) (.sl 1 [] 0 1 42)), (1, .ar 42 1 fun _ => (cl1 v).v), (3, ftV 0 45)] 4 (by decide) (by (simp only [LV, LZ, seval, reduceCtorEq, forall_const])) (by simp only [LV, tup2, LY, seval, reduceCtorEq, implies_true]) (by simp only [gmV, ruV, ckV2, cl1, Cl.v, ftV, dg, LY, seval, reduceCtorEq, implies_true]) ⟨rfl, rfl, rfl⟩
/-- The answer that was made. -/
def cl3 (v : Dg) (pl : Int) : Cl := ⟨0, 2#64, v, pl, 1, 3#64, 3#64, false, false, false, pl⟩
def clq (v : Dg) (pl : Int) : Cl := ⟨0, 2#64, v, pl, 0, 0#64, 0#64, false, false, false, pl⟩
theorem runs_moveA {M : Seat} (ok : OkMv M) (s v w : Dg) (b : Nat → BitVec 64) (i o k : BitVec 64) (hb : ¬ b 1 < 2#64) :
    Runs M 247 [.ptr 0 [], (cl2 w 1).v, (cl1 v).v, .bool false, W 2#64, W 3#64] [(0, gmV 2 10#64 0#64 s (.ptr 2 []) (.sl 1 [] 0 1 42)), (1, .ar 42 1 fun _ => (cl1 v).v), (2, ldV b i o (.sl 3 [] 0 1 2) k), (3, .ar 2 1 fun _ => bnV 1#64 false)] 4
      (fun r H' k' => r = tup2 (.int .i64 1) .nili ∧ H' = [(0, gmV 2 10#64 0#64 s (.ptr 2 []) (.sl 4 [] 0 2 42)), (2, ldV (fun j => if j = 1 then b 1 - 2#64 else b j) i o (.sl 5 [] 0 2 2) (k + 2#64)), (4, .ar 42 2 fun j => if j < 1 then (cl1 v).v else (cl3 w 1).v), (5, .ar 2 2 fun j => if j < 1 then bnV 1#64 false else bnV 2#64 false)] ∧ k' = 6) := by
  have hB := runs_Bond ok.g.n 1
  rw [show (if (1 : Int) < 0 then 0#64 else BitVec.ofInt 64 1 + 1#64) = 2#64 from rfl] at hB
  have hC := runs_Contains ok v (clq w 1) rfl 2#64
  have hN := runs_Next ok
  have hL := runs_LockS ok.g.l b i o k 1 (by decide) 2#64 hb 1 (by decide) (fun _ => bnV 1#64 false) (fun _ => ⟨_, _, rfl⟩)
  have hF := runs_before ok.g v
  have z1 : IntKind.i64.wrap 1 = 1 := rfl
  simp only [clq, cl1, Cl.v, ckV2] at hC hF hN
  simp only [Int.cast_ofNat_Int] at hL
  refine runs_fr ok.k247 rfl fun x hx => ?_
  refine ex_sound 2000 _ _ _ _ ?_; (simp (maxSteps := 4000000) only [f247, c247, gmV, ruV, ckV2, cl1, cl2, Cl.v, LZ, seval, reduceCtorEq, forall_const])
  refine call_mN [0, 1, 2] [0] (runs_placeA ok.g 10#64 0#64 s v) (by rfl) (by rfl) (by decide) (by rfl) (by rfl) (by ((try simp only [gmV, ruV, ckV2, cl1, Cl.v, dg, LY, seval, reduceCtorEq, implies_true]); first | done | exact True.intro | rfl)) (by ((try simp only [gmV, ruV, ckV2, cl1, Cl.v, dg, LY, seval, reduceCtorEq, implies_true]); first | done | exact True.intro | rfl)) ?_
  (simp (maxSteps := 4000000) only [tup3, gmV, ruV, ckV2, LZ, seval, reduceCtorEq, forall_const])
  refine call_pZ (hB) ?_
  (simp (maxSteps := 4000000) only [LZ, seval, reduceCtorEq, forall_const])
  refine call_pA (hC) (by ((try simp only [dg, LY, seval, reduceCtorEq, implies_true]); first | done | exact True.intro | rfl)) (by first | rfl | (simp only [LN, LP, V.ren, tup2, tup3])) (by simp only [dg, LX, implies_true]) ?_
  (simp (maxSteps := 4000000) only [LZ, seval, reduceCtorEq, forall_const])
  refine opd_mN [0] [] (hF) (by rfl) (by rfl) (by decide) (by rfl) (by rfl) (by ((try simp only [dg, LY, seval, reduceCtorEq, implies_true]); first | done | exact True.intro | rfl)) (by ((try simp only [dg, LY, seval, reduceCtorEq, implies_true]); first | done | exact True.intro | rfl)) ?_
  (simp (maxSteps := 4000000) only [LZ, seval, reduceCtorEq, forall_const])
  refine opd_pZ (hN) ?_
  (simp (maxSteps := 4000000) only [tup2, LZ, seval, reduceCtorEq, forall_const])
  refine opd_mN [2, 3] [2, 3] (hL) (by rfl) (by rfl) (by decide) (by rfl) (by rfl) (by ((try simp only [ldV, bnV, LY, seval, reduceCtorEq, implies_true]); first | done | exact True.intro | rfl)) (by ((try simp only [ldV, bnV, LY, seval, reduceCtorEq, implies_true]); first | done | exact True.intro | rfl)) ?_
  (simp (maxSteps := 4000000) only [tup2, ldV, bnV, z1, Nat.testBit, List.map_nil, List.map_cons, List.nil_append, List.cons_append, LZ, seval, reduceCtorEq, forall_const])
  refine RetS.mk hx [0, 1, 2, 3, 1988, 1572] [] (tup2 (.int .i64 1) .nili) [(0, gmV 2 10#64 0#64 s (.ptr 2 []) (.sl 4 [] 0 2 42)), (2, ldV (fun j => if j = 1 then b 1 - 2#64 else b j) i o (.sl 5 [] 0 2 2) (k + 2#64)), (4, .ar 42 2 fun j => if j < 1 then (cl1 v).v else (cl3 w 1).v), (5, .ar 2 2 fun j => if j < 1 then bnV 1#64 false else bnV 2#64 false)] 6 (by decide) (by (simp only [LV, LZ, seval, reduceCtorEq, forall_const])) (by simp only [LV, tup2, LY, seval, reduceCtorEq, implies_true]) ?_ ⟨rfl, rfl, rfl⟩
  simp only [gmV, ruV, ckV2, cl1, cl3, Cl.v, ldV, bnV, dg, LY, seval, reduceCtorEq, implies_true]
  (repeat' apply And.intro)
  all_goals
    intro j hj
    by_cases h : j < 1
    · simp only [h, if_true, V.ren, W, LY, seval, reduceCtorEq, implies_true]
    · have h0 : j - 1 = 0 := by omega
      simp only [h, h0, if_true, if_false, V.ren, W, LY, seval, reduceCtorEq, implies_true]
end Mv
