/- A part. -/
import Derived.Test.YtpcgkiecjakknaaGreatDoorAV
import Derived.Test.YtpcgkiecjakknaaGreatDoorAW
set_option linter.all false
set_option maxRecDepth 20000
set_option maxHeartbeats 4000000
namespace Mv
open Go

structure OkGN (M : Seat) : Prop where
  k110 : chkF M 110 f110 = true
  k111 : chkF M 111 f111 = true
  k112 : chkF M 112 f112 = true
  k113 : chkF M 113 f113 = true
  k114 : chkF M 114 f114 = true
  k115 : chkF M 115 f115 = true
  k117 : chkF M 117 f117 = true
  k118 : chkF M 118 f118 = true
  k119 : chkF M 119 f119 = true
  k120 : chkF M 120 f120 = true
  k246 : chkF M 246 f246 = true
/-- A claim. -/
structure Cl where
  par : Int
  pos : BitVec 64
  val : Dg
  pl : Int
  bond : Int
  us : BitVec 64
  at' : BitVec 64
  st : Bool
  rs : Bool
  co : Bool
  by' : Int
def ckV2 (u a : BitVec 64) : V := .st 2 (.fcons 0 (W u) (.fcons 1 (W a) .fnil))
def Cl.v (c : Cl) : V := .st 42 (.fcons 0 (.int .i64 c.par) (.fcons 1 (W c.pos) (.fcons 2 (dg c.val) (.fcons 34 (.int .i64 c.pl) (.fcons 35 (.int .i64 c.bond) (.fcons 36 (ckV2 c.us c.at') (.fcons 38 (.bool c.st) (.fcons 39 (.bool c.rs) (.fcons 40 (.bool c.co) (.fcons 41 (.int .i64 c.by') .fnil))))))))))
def Cl.zero : Cl := ⟨0, 0#64, Dg.zero, 0, 0, 0#64, 0#64, false, false, false, 0⟩
/-- A game's rules. -/
def ruV (d : Int) (l g : BitVec 64) (s : Dg) : V := .st 35 (.fcons 0 (.int .i64 d) (.fcons 1 (ckV2 l g) (.fcons 3 (dg s) .fnil)))

abbrev er (n : Int) : V := .ifc 74 (.int .i64 n)

theorem runs_findNil {M : Seat} (ok : OkGN M) (c : Int) : Runs M 246 [.nilp, .int .i64 c] [] 0 (fun r H' k' => r = tup2 Cl.zero.v (er 1) ∧ H' = [] ∧ k' = 0) := by
  refine runs_fr ok.k246 rfl fun x hx => ?_
  refine ex_sound 2000 _ _ _ _ ?_; (simp (maxSteps := 4000000) only [f246, c246, LZ, seval, reduceCtorEq, forall_const])
  refine RetS.mk hx [] [] _ _ _ (by decide) (by (simp only [LV, Cl.v, Cl.zero, ckV2, dg, LZ, seval, reduceCtorEq, forall_const])) (by ((try simp only [LV, Cl.v, Cl.zero, ckV2, dg, LZ, seval, reduceCtorEq, forall_const, LY, seval, reduceCtorEq, implies_true]); first | done | exact True.intro | (intros; rfl))) (by ((try simp only [Cl.v, Cl.zero, ckV2, dg, LY, seval, reduceCtorEq, implies_true]); first | done | exact True.intro | (intros; rfl))) ⟨rfl, rfl, rfl⟩
theorem runs_MoveNil {M : Seat} (ok : OkGN M) (c : Int) (d : Bool) (v : Dg) (pl : Int) (b n : BitVec 64) : Runs M 110 [.nilp, .int .i64 c, .bool d, dg v, .int .i64 pl, W b, W n] [] 0 (fun r H' k' => r = tup2 (.int .i64 0) (er 1) ∧ H' = [] ∧ k' = 0) := by
  refine runs_fr ok.k110 rfl fun x hx => ?_
  refine ex_sound 2000 _ _ _ _ ?_; (simp (maxSteps := 4000000) only [f110, c110, LZ, seval, reduceCtorEq, forall_const])
  refine call_pA (runs_findNil ok c) (by ((try simp only [Cl.v, Cl.zero, ckV2, dg, LY, seval, reduceCtorEq, implies_true]); first | done | exact True.intro | rfl)) (by first | rfl | (simp only [LN, LP, V.ren, tup2, tup3])) (by simp only [Cl.v, Cl.zero, ckV2, dg, LX, implies_true]) ?_
  (simp (maxSteps := 4000000) only [tup2, Cl.v, Cl.zero, ckV2, LZ, seval, reduceCtorEq, forall_const])
  exact RetS.mkZ hx [] ⟨rfl, rfl, rfl⟩
theorem runs_ClaimNil {M : Seat} (ok : OkGN M) (c : Int) : Runs M 111 [.nilp, .int .i64 c] [] 0 (fun r H' k' => r = tup2 Cl.zero.v (er 1) ∧ H' = [] ∧ k' = 0) := by
  refine runs_fr ok.k111 rfl fun x hx => ?_
  refine ex_sound 2000 _ _ _ _ ?_; (simp (maxSteps := 4000000) only [f111, c111, LZ, seval, reduceCtorEq, forall_const])
  refine RetS.mk hx [] [] _ _ _ (by decide) (by (simp only [LV, Cl.v, Cl.zero, ckV2, dg, LZ, seval, reduceCtorEq, forall_const])) (by ((try simp only [LV, Cl.v, Cl.zero, ckV2, dg, LZ, seval, reduceCtorEq, forall_const, LY, seval, reduceCtorEq, implies_true]); first | done | exact True.intro | (intros; rfl))) (by ((try simp only [Cl.v, Cl.zero, ckV2, dg, LY, seval, reduceCtorEq, implies_true]); first | done | exact True.intro | (intros; rfl))) ⟨rfl, rfl, rfl⟩
theorem runs_NewNil {M : Seat} (ok : OkGN M) (d : Int) (l g : BitVec 64) (s : Dg) (pl : Int) (v : Dg) (n : BitVec 64) : Runs M 112 [ruV d l g s, .nilp, .int .i64 pl, dg v, W n] [] 0 (fun r H' k' => r = tup2 .nilp (er 1) ∧ H' = [] ∧ k' = 0) := by
  refine runs_fr ok.k112 rfl fun x hx => ?_
  refine ex_sound 2000 _ _ _ _ ?_; (simp (maxSteps := 4000000) only [f112, c112, ruV, ckV2, LZ, seval, reduceCtorEq, forall_const])
  exact RetS.mkZ hx [] ⟨rfl, rfl, rfl⟩
theorem runs_rules {M : Seat} (ok : OkGN M) (d : Int) (l g : BitVec 64) (s : Dg) : Runs M 113 [.int .i64 d, W l, W g, dg s] [] 0 (fun r H' k' => r = ruV d l g s ∧ H' = [] ∧ k' = 0) := by
  refine runs_fr ok.k113 rfl fun x hx => ?_
  refine ex_sound 2000 _ _ _ _ ?_; (simp (maxSteps := 4000000) only [f113, c113, LZ, seval, reduceCtorEq, forall_const])
  refine RetS.mk hx [] [] _ _ _ (by decide) (by (simp only [LV, ruV, ckV2, dg, LZ, seval, reduceCtorEq, forall_const])) (by ((try simp only [LV, ruV, ckV2, dg, LZ, seval, reduceCtorEq, forall_const, LY, seval, reduceCtorEq, implies_true]); first | done | exact True.intro | (intros; rfl))) (by ((try simp only [ruV, ckV2, dg, LY, seval, reduceCtorEq, implies_true]); first | done | exact True.intro | (intros; rfl))) ⟨rfl, rfl, rfl⟩
theorem runs_ResolveNil {M : Seat} (ok : OkGN M) (c : Int) (n : BitVec 64) : Runs M 115 [.nilp, .int .i64 c, W n] [] 0 (fun r H' k' => r = er 1 ∧ H' = [] ∧ k' = 0) := by
  refine runs_fr ok.k115 rfl fun x hx => ?_
  refine ex_sound 2000 _ _ _ _ ?_; (simp (maxSteps := 4000000) only [f115, c115, LZ, seval, reduceCtorEq, forall_const])
  exact RetS.mkZ hx [] ⟨rfl, rfl, rfl⟩
theorem runs_LenNil {M : Seat} (ok : OkGN M) : Runs M 117 [.nilp] [] 0 (fun r H' k' => r = .int .i64 0 ∧ H' = [] ∧ k' = 0) := by
  refine runs_fr ok.k117 rfl fun x hx => ?_
  refine ex_sound 2000 _ _ _ _ ?_; (simp (maxSteps := 4000000) only [f117, c117, LZ, seval, reduceCtorEq, forall_const])
  exact RetS.mkZ hx [] ⟨rfl, rfl, rfl⟩
theorem runs_StatusNil {M : Seat} (ok : OkGN M) : Runs M 118 [.nilp] [] 0 (fun r H' k' => r = .int .i64 0 ∧ H' = [] ∧ k' = 0) := by
  refine runs_fr ok.k118 rfl fun x hx => ?_
  refine ex_sound 2000 _ _ _ _ ?_; (simp (maxSteps := 4000000) only [f118, c118, LZ, seval, reduceCtorEq, forall_const])
  exact RetS.mkZ hx [] ⟨rfl, rfl, rfl⟩
theorem runs_RulesNil {M : Seat} (ok : OkGN M) : Runs M 119 [.nilp] [] 0 (fun r H' k' => r = ruV 0 0#64 0#64 Dg.zero ∧ H' = [] ∧ k' = 0) := by
  refine runs_fr ok.k119 rfl fun x hx => ?_
  refine ex_sound 2000 _ _ _ _ ?_; (simp (maxSteps := 4000000) only [f119, c119, LZ, seval, reduceCtorEq, forall_const])
  refine RetS.mk hx [] [] _ _ _ (by decide) (by (simp only [LV, ruV, ckV2, dg, LZ, seval, reduceCtorEq, forall_const])) (by ((try simp only [LV, ruV, ckV2, dg, LZ, seval, reduceCtorEq, forall_const, LY, seval, reduceCtorEq, implies_true]); first | done | exact True.intro | (intros; rfl))) (by ((try simp only [ruV, ckV2, dg, LY, seval, reduceCtorEq, implies_true]); first | done | exact True.intro | (intros; rfl))) ⟨rfl, rfl, rfl⟩
theorem runs_Bond {M : Seat} (ok : OkGN M) (d : Int) : Runs M 120 [.int .i64 d] [] 0 (fun r H' k' => r = W (if d < 0 then 0#64 else BitVec.ofInt 64 d + 1#64) ∧ H' = [] ∧ k' = 0) := by
  refine runs_fr ok.k120 rfl fun x hx => ?_
  by_cases h : d < 0
  all_goals
    simp only [h, if_true, if_false]
    refine ex_sound 2000 _ _ _ _ ?_; (simp (maxSteps := 4000000) only [f120, c120, h, LZ, seval, reduceCtorEq, forall_const])
    exact RetS.mkZ hx [] ⟨rfl, rfl, rfl⟩
/-- A proof of a step as it is where none is given. -/
def stZ : V := .st 116 (.fcons 0 (dg Dg.zero) (.fcons 32 (.st 19 (.fcons 0 (.ar 1 16 fun _ => W 0#64) (.fcons 16 (W 0#64) (.fcons 17 (.bool false) (.fcons 18 (W 0#64) .fnil))))) (.fcons 51 .nils (.fcons 52 (.ar 1 64 fun _ => B 0#8) .fnil))))
theorem runs_StepNil {M : Seat} (ok : OkGN M) (c : Int) (d : Bool) (pl : Int) (n : BitVec 64) : Runs M 114 [.nilp, .int .i64 c, .bool d, stZ, .int .i64 pl, W n] [] 0 (fun r H' k' => r = er 1 ∧ H' = [] ∧ k' = 0) := by
  refine runs_fr ok.k114 rfl fun x hx => ?_
  refine ex_sound 2000 _ _ _ _ ?_; (simp (maxSteps := 4000000) only [f114, c114, stZ, LZ, seval, reduceCtorEq, forall_const])
  refine call_pA (runs_findNil ok c) (by ((try simp only [Cl.v, Cl.zero, ckV2, dg, LY, seval, reduceCtorEq, implies_true]); first | done | exact True.intro | rfl)) (by first | rfl | (simp only [LN, LP, V.ren, tup2, tup3])) (by simp only [Cl.v, Cl.zero, ckV2, dg, LX, implies_true]) ?_
  (simp (maxSteps := 4000000) only [tup2, Cl.v, Cl.zero, ckV2, LZ, seval, reduceCtorEq, forall_const])
  exact RetS.mkZ hx [] ⟨rfl, rfl, rfl⟩

structure OkLd (M : Seat) : Prop where
  k222 : chkF M 222 f222 = true
  k223 : chkF M 223 f223 = true
  k250 : chkF M 250 f250 = true
  k258 : chkF M 258 f258 = true
  k355 : chkF M 355 f355 = true
/-- A ledger. -/
def ldV (b : Nat → BitVec 64) (i o : BitVec 64) (bs : V) (k : BitVec 64) : V := .st 12 (.fcons 0 (.ar 1 8 fun j => W (b j)) (.fcons 8 (W i) (.fcons 9 (W o) (.fcons 10 bs (.fcons 11 (W k) .fnil)))))

theorem runs_LedNew {M : Seat} (ok : OkLd M) : Runs M 222 [] [] 0 (fun r H' k' => r = .ptr 0 [] ∧ H' = [(0, ldV (fun _ => 0#64) 0#64 0#64 .nils 0#64)] ∧ k' = 1) := by
  refine runs_fr ok.k222 rfl fun x hx => ?_
  refine ex_sound 2000 _ _ _ _ ?_; (simp (maxSteps := 4000000) only [f222, c222, LZ, seval, reduceCtorEq, forall_const])
  refine RetS.mk hx [32] [] (.ptr 0 []) [(0, ldV (fun _ => 0#64) 0#64 0#64 .nils 0#64)] 1 (by decide) (by (simp only [LV, ldV, LZ, seval, reduceCtorEq, forall_const])) (by simp only [LV, ldV, LY, seval, reduceCtorEq, implies_true]) (by simp only [ldV, LY, seval, reduceCtorEq, implies_true]) ⟨rfl, rfl, rfl⟩
theorem runs_ready {M : Seat} (ok : OkLd M) (p : Nat) (hp : p < 8) : Runs M 258 [.ptr 0 [], .int .i64 p] [] 1 (fun r H' k' => r = .nili ∧ H' = [] ∧ k' = 1) := by
  refine runs_fr ok.k258 rfl fun x hx => ?_
  have e0 : ((p : Int) < 0) = False := eq_false (by omega)
  have e1 : ((8 : Int) ≤ (p : Int)) = False := eq_false (by omega)
  refine ex_sound 2000 _ _ _ _ ?_; (simp (maxSteps := 4000000) only [f258, c258, e0, e1, LZ, seval, reduceCtorEq, forall_const])
  exact RetS.mkZ hx [0] ⟨rfl, rfl, rfl⟩
theorem runs_PayIn {M : Seat} (ok : OkLd M) (b : Nat → BitVec 64) (i o : BitVec 64) (k : BitVec 64) (p : Nat) (hp : p < 8) (v : BitVec 64) (h1 : ¬ 281474976710656#64 < v) (h2 : ¬ 281474976710656#64 < i + v) :
    Runs M 223 [.ptr 0 [], .int .i64 p, W v] [(0, ldV b i o .nils k)] 1 (fun r H' k' => r = .nili ∧ H' = [(0, ldV (fun j => if j = p then b p + v else b j) (i + v) o .nils k)] ∧ k' = 1) := by
  refine runs_fr ok.k223 rfl fun x hx => ?_
  have e0 : ((p : Int) < 0) = False := eq_false (by omega)
  have e1 : ((p : Int) < 8) = True := eq_true (by omega)
  have e2 : (0 ≤ (p : Int)) = True := eq_true (by omega)
  refine ex_sound 2000 _ _ _ _ ?_; (simp (maxSteps := 4000000) only [f223, c223, ldV, LZ, seval, reduceCtorEq, forall_const])
  refine call_mB [0] [] (runs_ready ok p hp) (by rfl) (by rfl) (by decide) (by rfl) (by rfl) (by ((try simp only [LY, seval, reduceCtorEq, implies_true]); first | done | exact True.intro | rfl)) (by ((try simp only [LY, seval, reduceCtorEq, implies_true]); first | done | exact True.intro | rfl)) (by simp only [LX, implies_true]) (by simp only [LX, implies_true]) ?_
  (simp (maxSteps := 4000000) only [ldV, h1, h2, e0, e1, e2, LZ, seval, reduceCtorEq, forall_const])
  repeat (refine And.intro (by first | omega | exact True.intro | rfl) ?_)
  refine RetS.mk hx [0] [] .nili [(0, ldV (fun j => if j = p then b p + v else b j) (i + v) o .nils k)] 1 (by decide) (by (simp only [LV, ldV, LZ, seval, reduceCtorEq, forall_const])) (by simp only [LV, ldV, LY, seval, reduceCtorEq, implies_true]) ?_ ⟨rfl, rfl, rfl⟩
  simp only [ldV, LY, seval, reduceCtorEq, implies_true]
  intro j hj
  by_cases h : j = p <;> simp only [h, if_true, if_false, LY, seval, reduceCtorEq, implies_true]
/-- A bond. -/
def bnV (v : BitVec 64) (g : Bool) : V := .st 2 (.fcons 0 (W v) (.fcons 1 (.bool g) .fnil))
theorem runs_take {M : Seat} (ok : OkLd M) (b : Nat → BitVec 64) (i o : BitVec 64) (bs : V) (n : Nat) (hbs : (bs = .nils ∧ n = 1) ∨ ∃ m, bs = .sl 1 [] 0 m 2 ∧ n = 2) (k : BitVec 64) (p : Nat) (hp : p < 8) (v : BitVec 64) (h1 : ¬ b p < v) :
    Runs M 355 [.ptr 0 [], .int .i64 p, W v] [(0, ldV b i o bs k)] n (fun r H' k' => r = .nili ∧ H' = [(0, ldV (fun j => if j = p then b p - v else b j) i o bs k)] ∧ k' = n) := by
  refine runs_fr ok.k355 rfl fun x hx => ?_
  have e0 : ((p : Int) < 0) = False := eq_false (by omega)
  have e1 : ((p : Int) < 8) = True := eq_true (by omega)
  have e2 : (0 ≤ (p : Int)) = True := eq_true (by omega)
  rcases hbs with ⟨rfl, rfl⟩ | ⟨m, rfl, rfl⟩
  all_goals
    refine ex_sound 2000 _ _ _ _ ?_; (simp (maxSteps := 4000000) only [f355, c355, ldV, LZ, seval, reduceCtorEq, forall_const])
    refine call_mB [0] [] (runs_ready ok p hp) (by rfl) (by rfl) (by decide) (by rfl) (by rfl) (by ((try simp only [LY, seval, reduceCtorEq, implies_true]); first | done | exact True.intro | rfl)) (by ((try simp only [LY, seval, reduceCtorEq, implies_true]); first | done | exact True.intro | rfl)) (by simp only [LX, implies_true]) (by simp only [LX, implies_true]) ?_
    (simp (maxSteps := 4000000) only [ldV, h1, e0, e1, e2, LZ, seval, reduceCtorEq, forall_const])
    repeat (refine And.intro (by first | omega | exact True.intro | rfl) ?_)
  · refine RetS.mk hx [0] [] .nili [(0, ldV (fun j => if j = p then b p - v else b j) i o .nils k)] 1 (by decide) (by (simp only [LV, ldV, LZ, seval, reduceCtorEq, forall_const])) (by simp only [LV, ldV, LY, seval, reduceCtorEq, implies_true]) ?_ ⟨rfl, rfl, rfl⟩
    simp only [ldV, LY, seval, reduceCtorEq, implies_true]
    intro j hj
    by_cases h : j = p <;> simp only [h, if_true, if_false, LY, seval, reduceCtorEq, implies_true]
  · refine RetS.mk hx [0, 1] [] .nili [(0, ldV (fun j => if j = p then b p - v else b j) i o (.sl 1 [] 0 m 2) k)] 2 (by decide) (by (simp only [LV, ldV, LZ, seval, reduceCtorEq, forall_const])) (by simp only [LV, ldV, LY, seval, reduceCtorEq, implies_true]) ?_ ⟨rfl, rfl, rfl⟩
    simp only [ldV, LY, seval, reduceCtorEq, implies_true]
    intro j hj
    by_cases h : j = p <;> simp only [h, if_true, if_false, LY, seval, reduceCtorEq, implies_true]
theorem runs_Lock0 {M : Seat} (ok : OkLd M) (b : Nat → BitVec 64) (i o : BitVec 64) (k : BitVec 64) (p : Nat) (hp : p < 8) (v : BitVec 64) (h1 : ¬ b p < v) :
    Runs M 250 [.ptr 0 [], .int .i64 p, W v] [(0, ldV b i o .nils k)] 1 (fun r H' k' => r = tup2 (.int .i64 0) .nili ∧ H' = [(0, ldV (fun j => if j = p then b p - v else b j) i o (.sl 1 [] 0 1 2) (k + v)), (1, .ar 2 1 fun _ => bnV v false)] ∧ k' = 2) := by
  refine runs_fr ok.k250 rfl fun x hx => ?_
  have z0 : IntKind.i64.wrap 0 = 0 := rfl
  refine ex_sound 2000 _ _ _ _ ?_; (simp (maxSteps := 4000000) only [f250, c250, ldV, LZ, seval, reduceCtorEq, forall_const])
  refine call_mB [0] [0] (runs_take ok b i o .nils 1 (.inl ⟨rfl, rfl⟩) k p hp v h1) (by rfl) (by rfl) (by decide) (by rfl) (by rfl) (by ((try simp only [ldV, LY, seval, reduceCtorEq, implies_true]); first | done | exact True.intro | rfl)) (by ((try simp only [ldV, LY, seval, reduceCtorEq, implies_true]); first | done | exact True.intro | rfl)) (by simp only [ldV, LX, implies_true]) (by simp only [ldV, LX, implies_true]) ?_
  (simp (maxSteps := 4000000) only [ldV, z0, LZ, seval, reduceCtorEq, forall_const])
  refine RetS.mk hx [0, 369] [] (tup2 (.int .i64 0) .nili) [(0, ldV (fun j => if j = p then b p - v else b j) i o (.sl 1 [] 0 1 2) (k + v)), (1, .ar 2 1 fun _ => bnV v false)] 2 (by decide) (by (simp only [LV, ldV, LZ, seval, reduceCtorEq, forall_const])) (by simp only [LV, ldV, tup2, LY, seval, reduceCtorEq, implies_true]) ?_ ⟨rfl, rfl, rfl⟩
  simp only [ldV, bnV, LY, seval, reduceCtorEq, implies_true]
  intro j hj
  obtain rfl : j = 0 := by omega
  simp only [if_true, LY, seval, reduceCtorEq, implies_true]
theorem runs_LockS {M : Seat} (ok : OkLd M) (b : Nat → BitVec 64) (i o : BitVec 64) (k : BitVec 64) (p : Nat) (hp : p < 8) (v : BitVec 64) (h1 : ¬ b p < v) (m : Nat) (hm : m < 1000) (f : Nat → V) (hf : ∀ j, ∃ u g, f j = bnV u g) :
    Runs M 250 [.ptr 0 [], .int .i64 p, W v] [(0, ldV b i o (.sl 1 [] 0 m 2) k), (1, .ar 2 m f)] 2 (fun r H' k' => r = tup2 (.int .i64 m) .nili ∧ H' = [(0, ldV (fun j => if j = p then b p - v else b j) i o (.sl 2 [] 0 (m + 1) 2) (k + v)), (2, .ar 2 (m + 1) fun j => if j < m then f j else bnV v false)] ∧ k' = 3) := by
  refine runs_fr ok.k250 rfl fun x hx => ?_
  have z0 : IntKind.i64.wrap ((m + 1 : Nat) - 1 : Int) = (m : Int) := by rw [wrap_i64 (by omega)]; omega
  have z1 : ((65536 : Int) ≤ (m : Int)) = False := eq_false (by omega)
  refine ex_sound 2000 _ _ _ _ ?_; (simp (maxSteps := 4000000) only [f250, c250, ldV, LZ, seval, reduceCtorEq, forall_const])
  refine call_mB [0, 1] [0] (runs_take ok b i o (.sl 1 [] 0 m 2) 2 (.inr ⟨m, rfl, rfl⟩) k p hp v h1) (by rfl) (by rfl) (by decide) (by rfl) (by rfl) (by ((try simp only [ldV, LY, seval, reduceCtorEq, implies_true]); first | done | exact True.intro | rfl)) (by ((try simp only [ldV, LY, seval, reduceCtorEq, implies_true]); first | done | exact True.intro | rfl)) (by simp only [ldV, LX, implies_true]) (by simp only [ldV, LX, implies_true]) ?_
  (simp (maxSteps := 4000000) only [ldV, z0, z1, LZ, seval, reduceCtorEq, forall_const])
  repeat (refine And.intro (by first | omega | exact True.intro | rfl) ?_)
  refine RetS.mk hx [0, 1, 370] [] (tup2 (.int .i64 m) .nili) [(0, ldV (fun j => if j = p then b p - v else b j) i o (.sl 2 [] 0 (m + 1) 2) (k + v)), (2, .ar 2 (m + 1) fun j => if j < m then f j else bnV v false)] 3 (by decide) (by (simp only [LV, ldV, LZ, seval, reduceCtorEq, forall_const])) (by simp only [LV, ldV, tup2, LY, seval, reduceCtorEq, implies_true]) ?_ ⟨rfl, rfl, rfl⟩
  simp only [ldV, bnV, LY, seval, reduceCtorEq, implies_true]
  intro j hj
  by_cases h : j < m
  · obtain ⟨u, g, e⟩ := hf j
    rw [if_pos h, if_pos h, e]; simp only [bnV, LY, seval, reduceCtorEq, implies_true]
  · rw [if_neg h, if_neg h, if_pos (by omega)]; simp only [LY, seval, reduceCtorEq, implies_true]
/-- (moot/mootref18.Ledger).Sum -/
def c149 : LC := (.seq (.reg [A1 3 (.box (.t 0)),
  A1 6 (.mv (.c (.int .u64 0)))])
 ((.seq (.reg [A1 7 (.mv (.c (.int .u64 0)))])
 ((.seq ((.seq (.reg [A1 8 (.mv (.c (.int .i64 0)))])
 (.block 0 (.loop ((.seq ((.seq (.reg [A1 9 (.mv (.t 8)),
  A1 10 (.fadr 0 (.t 3)),
  A1 11 (.load false 1 (.t 10)),
  A1 12 (.len 0 (.t 11)),
  A1 13 (.ari .lss (.t 9) (.t 12))])
 (.cond (.t 13) (.skip) (.exit 0))))
 ((.seq (.block 1 ((.seq (.reg [A1 16 (.fadr 0 (.t 3)),
  A1 17 (.load false 1 (.t 16)),
  A1 18 (.mv (.t 8)),
  A1 19 (.isl 4 (.t 17) (.t 18)),
  A1 20 (.fadr 0 (.t 19)),
  A1 21 (.load false 1 (.t 20)),
  A1 22 (.mv (.t 1)),
  A1 23 (.ari .eql (.t 21) (.t 22)),
  A1 24 (.mv (.t 23)),
  A2 25 24 true (.mv (.t 2)),
  A2 26 24 true (.ari .lss (.t 25) (.c (.int .i64 0))),
  A2 27 24 true (.mv (.t 26)),
  A2 28 27 false (.fadr 0 (.t 3)),
  A2 29 27 false (.load false 1 (.t 28)),
  A2 30 27 false (.mv (.t 8)),
  A2 31 27 false (.isl 4 (.t 29) (.t 30)),
  A2 32 27 false (.fadr 1 (.t 31)),
  A2 33 27 false (.load false 1 (.t 32)),
  A2 34 27 false (.mv (.t 2)),
  A2 35 27 false (.ari .eql (.t 33) (.t 34)),
  A2 36 24 true (.pick (.t 27) (.c (.bool true)) (.t 35)),
  A1 37 (.pick (.t 24) (.t 36) (.c (.bool false)))])
 (.cond (.t 37) (.reg [A1 38 (.mv (.t 7)),
  A1 39 (.fadr 0 (.t 3)),
  A1 40 (.load false 1 (.t 39)),
  A1 41 (.mv (.t 8)),
  A1 42 (.isl 4 (.t 40) (.t 41)),
  A1 43 (.fadr 3 (.t 42)),
  A1 44 (.load false 1 (.t 43)),
  A1 45 (.ari .add (.t 38) (.t 44)),
  A1 7 (.mv (.t 45))]) (.skip)))))
 (.reg [A1 14 (.mv (.t 8)),
  A1 15 (.ari .add (.t 14) (.c (.int .i64 1))),
  A1 8 (.mv (.t 15))])))))))))
 ((.seq (.reg [A1 46 (.mv (.t 7)),
  A1 6 (.mv (.t 46))])
 (.ret))))))))
def f149 : LF := ⟨c149, 3, 0, 47, [.tmp 6]⟩

/-- (*moot/mootref18.Ledger).Do -/
def c263 : LC := (.seq (.reg [A1 3 (.box (.t 1)),
  A1 4 (.mv (.c (.int .i64 0))),
  A1 5 (.mv (.c (.int .i64 0)))])
 ((.seq ((.seq (.reg [A1 11 (.fadr 1 (.t 3)),
  A1 12 (.load false 1 (.t 11)),
  A1 13 (.ari .lss (.t 12) (.c (.int .i64 0))),
  A1 14 (.mv (.t 13)),
  A2 15 14 false (.fadr 1 (.t 3)),
  A2 16 14 false (.load false 1 (.t 15)),
  A2 17 14 false (.ari .geq (.t 16) (.c (.int .i64 8))),
  A1 18 (.pick (.t 14) (.c (.bool true)) (.t 17))])
 (.cond (.t 18) ((.seq (.reg [A1 4 (.mv (.c (.int .i64 0))),
  A1 5 (.mv (.c (.int .i64 2)))])
 (.ret))) (.skip))))
 ((.seq (.reg [A1 6 (.mv (.c (.int .i64 0)))])
 ((.seq (.reg [A1 7 (.mv (.c (.int .u64 0)))])
 ((.seq (.reg [A1 8 (.mv (.c (.bool false)))])
 ((.seq ((.seq (.reg [A1 9 (.mv (.c (.int .i64 0)))])
 (.block 0 (.loop ((.seq ((.seq (.reg [A1 19 (.mv (.t 9)),
  A1 20 (.mv (.t 0)),
  A1 21 (.nilc (.t 20)),
  A1 22 (.fadr 0 (.t 21)),
  A1 23 (.load false 1 (.t 22)),
  A1 24 (.len 0 (.t 23)),
  A1 25 (.ari .lss (.t 19) (.t 24))])
 (.cond (.t 25) (.skip) (.exit 0))))
 ((.seq (.block 1 ((.seq (.reg [A1 28 (.mv (.t 0)),
  A1 29 (.nilc (.t 28)),
  A1 30 (.fadr 0 (.t 29)),
  A1 31 (.load false 1 (.t 30)),
  A1 32 (.mv (.t 9)),
  A1 33 (.isl 4 (.t 31) (.t 32)),
  A1 34 (.load true 4 (.t 33)),
  A1 10 (.alloc (.st (.cons (.int .i64) (.cons (.int .i64) (.cons (.int .i64) (.cons (.int .u64) .nil)))))),
  A0 (.store 4 (.t 10) (.t 34))])
 ((.seq ((.seq (.reg [A1 35 (.fadr 0 (.t 10)),
  A1 36 (.load false 1 (.t 35)),
  A1 37 (.ari .eql (.t 36) (.c (.int .i64 3)))])
 (.cond (.t 37) ((.seq ((.seq (.reg [A1 38 (.mv (.t 6)),
  A1 39 (.fadr 2 (.t 3)),
  A1 40 (.load false 1 (.t 39)),
  A1 41 (.ari .eql (.t 38) (.t 40))])
 (.cond (.t 41) (.reg [A1 42 (.fadr 3 (.t 10)),
  A1 43 (.load false 1 (.t 42)),
  A1 7 (.mv (.t 43))]) (.skip))))
 (.reg [A1 44 (.mv (.t 6)),
  A1 45 (.ari .add (.t 44) (.c (.int .i64 1))),
  A1 6 (.mv (.t 45))]))) (.skip))))
 (.reg [A1 46 (.mv (.t 8)),
  A1 47 (.mv (.t 46)),
  A2 48 47 false (.fadr 0 (.t 10)),
  A2 49 47 false (.load false 1 (.t 48)),
  A2 50 47 false (.ari .eql (.t 49) (.c (.int .i64 4))),
  A2 51 47 false (.mv (.t 50)),
  A2 52 51 true (.fadr 2 (.t 10)),
  A2 53 51 true (.load false 1 (.t 52)),
  A2 54 51 true (.fadr 2 (.t 3)),
  A2 55 51 true (.load false 1 (.t 54)),
  A2 56 51 true (.ari .eql (.t 53) (.t 55)),
  A2 57 47 false (.pick (.t 51) (.t 56) (.c (.bool false))),
  A1 58 (.pick (.t 47) (.c (.bool true)) (.t 57)),
  A1 8 (.mv (.t 58))]))))))
 (.reg [A1 26 (.mv (.t 9)),
  A1 27 (.ari .add (.t 26) (.c (.int .i64 1))),
  A1 9 (.mv (.t 27))])))))))))
 ((.seq ((.seq (.reg [A1 59 (.fadr 0 (.t 3)),
  A1 60 (.load false 1 (.t 59))])
 (.block 2 ((.seq (.reg [A1 62 (.ari .eql (.t 60) (.c (.int .i64 1))),
  A1 61 (.mv (.t 62))])
 (.cond (.t 61) ((.seq (.regd [⟨0, 0, A1 63 (.fadr 3 (.t 3))⟩,
  ⟨1, 1, A1 64 (.load false 1 (.t 63))⟩,
  ⟨2, 3, A1 65 (.ari .gtr (.t 64) (.c (.int .u64 281474976710656)))⟩,
  ⟨3, 7, A1 66 (.mv (.t 65))⟩,
  ⟨4, 15, A2 67 66 false (.mv (.t 0))⟩,
  ⟨5, 31, A2 68 66 false (.nilc (.t 67))⟩,
  ⟨6, 63, A2 69 66 false (.load true 1 (.t 68))⟩,
  ⟨7, 127, ⟨(some 70), .call 149 [(.t 69), (.c (.int .i64 1)), (.c (.int .i64 (-1)))], (some (66, false))⟩⟩,
  ⟨8, 15, A2 71 66 false (.fadr 3 (.t 3))⟩,
  ⟨9, 271, A2 72 66 false (.load false 1 (.t 71))⟩,
  ⟨10, 1023, A2 73 66 false (.ari .add (.t 70) (.t 72))⟩,
  ⟨11, 2047, A2 74 66 false (.ari .gtr (.t 73) (.c (.int .u64 281474976710656)))⟩,
  ⟨12, 4095, A1 75 (.pick (.t 66) (.c (.bool true)) (.t 74))⟩])
 (.cond (.t 75) ((.seq (.reg [A1 4 (.mv (.c (.int .i64 0))),
  A1 5 (.mv (.c (.int .i64 2)))])
 (.ret))) (.skip)))) ((.seq ((.seq (.reg [A1 77 (.ari .eql (.t 60) (.c (.int .i64 2))),
  A1 76 (.mv (.t 77))])
 (.cond (.t 76) (.skip) (.reg [A1 78 (.ari .eql (.t 60) (.c (.int .i64 3))),
  A1 76 (.mv (.t 78))]))))
 (.cond (.t 76) ((.seq ((.seq (.regd [⟨0, 0, A1 79 (.mv (.t 0))⟩,
  ⟨1, 1, A1 80 (.nilc (.t 79))⟩,
  ⟨2, 3, A1 81 (.load true 1 (.t 80))⟩,
  ⟨3, 0, A1 82 (.fadr 1 (.t 3))⟩,
  ⟨4, 8, A1 83 (.load false 1 (.t 82))⟩,
  ⟨5, 31, ⟨(some 84), .call 150 [(.t 81), (.t 83)], none⟩⟩,
  ⟨6, 0, A1 85 (.fadr 3 (.t 3))⟩,
  ⟨7, 64, A1 86 (.load false 1 (.t 85))⟩,
  ⟨8, 255, A1 87 (.ari .lss (.t 84) (.t 86))⟩])
 (.cond (.t 87) ((.seq (.reg [A1 4 (.mv (.c (.int .i64 0))),
  A1 5 (.mv (.c (.int .i64 21)))])
 (.ret))) (.skip))))
 ((.seq (.reg [A1 88 (.fadr 0 (.t 3)),
  A1 89 (.load false 1 (.t 88)),
  A1 90 (.ari .eql (.t 89) (.c (.int .i64 3))),
  A1 91 (.mv (.t 90)),
  A2 92 91 true (.mv (.t 6)),
  A2 93 91 true (.ari .geq (.t 92) (.c (.int .i64 65536))),
  A1 94 (.pick (.t 91) (.t 93) (.c (.bool false)))])
 (.cond (.t 94) ((.seq (.reg [A1 4 (.mv (.c (.int .i64 0))),
  A1 5 (.mv (.c (.int .i64 5)))])
 (.ret))) (.skip)))))) ((.seq (.reg [A1 96 (.ari .eql (.t 60) (.c (.int .i64 4))),
  A1 95 (.mv (.t 96))])
 (.cond (.t 95) ((.seq ((.seq (.reg [A1 97 (.fadr 2 (.t 3)),
  A1 98 (.load false 1 (.t 97)),
  A1 99 (.ari .lss (.t 98) (.c (.int .i64 0))),
  A1 100 (.mv (.t 99)),
  A2 101 100 false (.fadr 2 (.t 3)),
  A2 102 100 false (.load false 1 (.t 101)),
  A2 103 100 false (.mv (.t 6)),
  A2 104 100 false (.ari .geq (.t 102) (.t 103)),
  A1 105 (.pick (.t 100) (.c (.bool true)) (.t 104))])
 (.cond (.t 105) ((.seq (.reg [A1 4 (.mv (.c (.int .i64 0))),
  A1 5 (.mv (.c (.int .i64 4)))])
 (.ret))) (.skip))))
 ((.seq ((.seq (.reg [A1 106 (.mv (.t 8))])
 (.cond (.t 106) ((.seq (.reg [A1 4 (.mv (.c (.int .i64 0))),
  A1 5 (.mv (.c (.int .i64 41)))])
 (.ret))) (.skip))))
 (.reg [A1 107 (.mv (.t 7)),
  A1 108 (.fadr 3 (.t 3)),
  A0 (.store 1 (.t 108) (.t 107))]))))) (.skip)))))))))))))
 ((.seq (.regd [⟨1, 0, A1 110 (.mv (.t 0))⟩,
  ⟨2, 1, A1 111 (.nilc (.t 110))⟩,
  ⟨3, 3, A1 112 (.fadr 0 (.t 111))⟩,
  ⟨4, 7, A1 113 (.load false 1 (.t 112))⟩,
  ⟨5, 0, A1 114 (.load true 4 (.t 3))⟩,
  ⟨6, 16, A1 115 (.bsl 4 1 (.st (.cons (.int .i64) (.cons (.int .i64) (.cons (.int .i64) (.cons (.int .u64) .nil))))) [(.i 4 0, 4, (.t 114))])⟩,
  ⟨7, 63, A1 116 (.app 4 32 (.t 113) (.t 115))⟩,
  ⟨0, 0, A1 109 (.mv (.t 0))⟩,
  ⟨8, 255, A1 117 (.nilc (.t 109))⟩,
  ⟨9, 511, A1 118 (.fadr 0 (.t 117))⟩,
  ⟨10, 1023, A0 (.store 1 (.t 118) (.t 116))⟩])
 ((.seq ((.seq (.reg [A1 119 (.fadr 0 (.t 3)),
  A1 120 (.load false 1 (.t 119)),
  A1 121 (.ari .eql (.t 120) (.c (.int .i64 3)))])
 (.cond (.t 121) ((.seq (.reg [A1 122 (.mv (.t 6)),
  A1 4 (.mv (.t 122)),
  A1 5 (.mv (.c (.int .i64 0)))])
 (.ret))) (.skip))))
 ((.seq (.reg [A1 4 (.mv (.c (.int .i64 0))),
  A1 5 (.mv (.c (.int .i64 0)))])
 (.ret))))))))))))))))))))
def f263 : LF := ⟨c263, 2, 0, 123, [.tmp 4, .tmp 5]⟩

end Mv
