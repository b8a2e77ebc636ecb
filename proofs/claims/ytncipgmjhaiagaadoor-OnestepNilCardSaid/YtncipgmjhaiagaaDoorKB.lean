/- What the document fixes of a step's proof. -/
import Derived.Test.YtncipgmjhaiagaaDoorT
import Derived.Test.YtncipgmjhaiagaaDoorW1
import Derived.Test.YtncipgmjhaiagaaDoorKA
import Derived.Test.YtncipgmjhaiagaaDoorKa
import Derived.KernelRfl
set_option linter.unusedSimpArgs false
set_option linter.unusedVariables false
namespace Mv
open Go
/-- moot/mootlaw15.fixed -/
def c96 : LC := (.seq (.reg [A1 0 (.mv (.c (.bool false)))])
 ((.seq (.reg [⟨(some 12), .call 74 [(.c .nils)], none⟩,
  A1 11 (.mv (.t 12)),
  A1 13 (.ext (.t 11) 0),
  A1 14 (.ext (.t 11) 1),
  A1 1 (.mv (.t 13)),
  A1 2 (.mv (.t 14))])
 ((.seq (.reg [⟨(some 15), .call 68 [], none⟩,
  A1 3 (.mv (.t 15))])
 ((.seq ((.seq (.reg [A1 16 (.mv (.t 2)),
  A1 17 (.eq true true (.iface [74]) (.t 16) (.c .nili)),
  A1 18 (.mv (.t 17)),
  A2 19 18 false (.mv (.t 1)),
  A2 20 18 false (.eq false true .ptr (.t 19) (.c .nilp)),
  A1 21 (.pick (.t 18) (.c (.bool true)) (.t 20)),
  A1 22 (.mv (.t 21)),
  A2 23 22 false (.mv (.t 3)),
  A2 24 22 false (.eq false true .ptr (.t 23) (.c .nilp)),
  A1 25 (.pick (.t 22) (.c (.bool true)) (.t 24))])
 (.cond (.t 25) ((.seq (.reg [A1 0 (.mv (.c (.bool false)))])
 (.ret))) (.skip))))
 ((.seq (.reg [A1 27 (.mv (.t 1)),
  A1 28 (.mv (.t 3)),
  ⟨(some 29), .call 97 [(.t 27), (.t 28)], none⟩,
  A1 26 (.mv (.t 29)),
  A1 30 (.ext (.t 26) 0),
  A1 31 (.ext (.t 26) 1),
  A1 4 (.alloc (.st (.cons (.ar 32 (.int .u8)) (.cons (.st (.cons (.ar 16 (.int .u64)) (.cons (.int .u64) (.cons .bool (.cons (.int .u64) .nil))))) (.cons .slice (.cons (.ar 64 (.int .u8)) .nil)))))),
  A0 (.store 116 (.t 4) (.t 30)),
  A1 2 (.mv (.t 31))])
 ((.seq (.reg [A1 33 (.mv (.t 1)),
  ⟨(some 34), .call 54 [(.t 33)], none⟩,
  A1 32 (.mv (.t 34)),
  A1 35 (.ext (.t 32) 0),
  A1 36 (.ext (.t 32) 1),
  A1 5 (.alloc (.ar 32 (.int .u8))),
  A0 (.store 32 (.t 5) (.t 35)),
  A1 6 (.mv (.t 36))])
 ((.seq (.reg [A1 38 (.load true 32 (.t 5)),
  A1 39 (.load true 116 (.t 4)),
  ⟨(some 40), .call 98 [(.t 38), (.t 39)], none⟩,
  A1 37 (.mv (.t 40)),
  A1 41 (.ext (.t 37) 0),
  A1 42 (.ext (.t 37) 1),
  A1 7 (.alloc (.ar 32 (.int .u8))),
  A0 (.store 32 (.t 7) (.t 41)),
  A1 8 (.mv (.t 42))])
 ((.seq (.reg [A1 43 (.mv (.t 1)),
  A1 44 (.mv (.t 3)),
  ⟨(some 45), .call 70 [(.t 43), (.t 44)], none⟩])
 ((.seq (.reg [A1 47 (.mv (.t 1)),
  ⟨(some 48), .call 54 [(.t 47)], none⟩,
  A1 46 (.mv (.t 48)),
  A1 49 (.ext (.t 46) 0),
  A1 50 (.ext (.t 46) 1),
  A1 9 (.alloc (.ar 32 (.int .u8))),
  A0 (.store 32 (.t 9) (.t 49)),
  A1 10 (.mv (.t 50))])
 ((.seq (.reg [A1 51 (.mv (.t 2)),
  A1 52 (.eq false true (.iface [74]) (.t 51) (.c .nili)),
  A1 53 (.mv (.t 52)),
  A2 54 53 true (.mv (.t 6)),
  A2 55 53 true (.eq false true (.iface [74]) (.t 54) (.c .nili)),
  A1 56 (.pick (.t 53) (.t 55) (.c (.bool false))),
  A1 57 (.mv (.t 56)),
  A2 58 57 true (.mv (.t 8)),
  A2 59 57 true (.eq false true (.iface [74]) (.t 58) (.c .nili)),
  A1 60 (.pick (.t 57) (.t 59) (.c (.bool false))),
  A1 61 (.mv (.t 60)),
  A2 62 61 true (.mv (.t 10)),
  A2 63 61 true (.eq false true (.iface [74]) (.t 62) (.c .nili)),
  A1 64 (.pick (.t 61) (.t 63) (.c (.bool false))),
  A1 65 (.mv (.t 64)),
  A2 66 65 true (.fadr 51 (.t 4)),
  A2 67 65 true (.load false 1 (.t 66)),
  A2 68 65 true (.len 0 (.t 67)),
  A2 69 65 true (.ari .eql (.t 68) (.c (.int .i64 1))),
  A1 70 (.pick (.t 65) (.t 69) (.c (.bool false))),
  A1 71 (.mv (.t 70)),
  A2 72 71 true (.load true 32 (.t 7)),
  A2 73 71 true (.load true 32 (.t 9)),
  A2 74 71 true (.eq false false (.ar 32 1 false .int) (.t 72) (.t 73)),
  A1 75 (.pick (.t 71) (.t 74) (.c (.bool false))),
  A1 76 (.mv (.t 75)),
  A2 77 76 true (.load true 32 (.t 7)),
  A2 78 76 true (.load true 32 (.t 5)),
  A2 79 76 true (.eq true false (.ar 32 1 false .int) (.t 77) (.t 78)),
  A1 80 (.pick (.t 76) (.t 79) (.c (.bool false))),
  A1 0 (.mv (.t 80))])
 (.ret))))))))))))))))))))
def f96 : LF := ⟨c96, 0, 0, 81, [.tmp 0]⟩

end Mv
namespace Mv
open Go
set_option maxRecDepth 20000
set_option maxHeartbeats 4000000
set_option linter.unusedSimpArgs false

/-- The machine without anything; the same behind its step. -/
def mc0 : Mc := ⟨fun _ => 0#64, fun _ => 0#64, 0#64, false, 0#64⟩
def mc1 : Mc := ⟨fun _ => 0#64, fun _ => 0#64, 0#64, true, 0#64⟩
theorem isI0 : isI 0#64 = true := by decide
theorem pOp0 : pOp 0#64 = 0 := by decide
theorem nx0 (pres : List (Dg × Pr)) : nx (prM pres) mc0.h ⟨mc0.f, [], Pr.zero⟩ = (mc1.h, none, ⟨mc0.f, [pfOf mc0.f 0#64], Pr.zero⟩) := by
  show nx1 (prM pres) mc0.h 0#64 ⟨mc0.f, [pfOf mc0.f 0#64], Pr.zero⟩ = _
  rw [nx1, if_neg (by rw [isI0]; simp), if_pos pOp0]
  rfl
theorem prvX0 (pres : List (Dg × Pr)) : prvX pres mc0 = (none, [pfOf mc0.f 0#64], Pr.zero) := by
  rw [prvX, if_neg (by simp [mc0]), if_neg (by decide), nx0]
theorem prvX1 (pres : List (Dg × Pr)) : prvX pres mc1 = (none, [], Pr.zero) := by simp [prvX, mc1]
theorem stepX0 (pres : List (Dg × Pr)) : stepX pres mc0 = mc1 := by
  rw [stepX, if_neg (by simp [mc0]), if_neg (by decide), nx0]; rfl
theorem stepX1 (pres : List (Dg × Pr)) : stepX pres mc1 = mc1 := by simp [stepX, mc1]
theorem PresOk_new : ∀ n, PresOk (wNew n).pres
  | 0 => fun h p hk => by simp [wNew, lkp] at hk
  | n + 1 => by rw [wNew]; exact PresOk_add _ _ (PresOk_new n)

structure OkF15 (M : Seat) : Prop where
  o : OkOs M
  k96 : chkF M 96 f96 = true
/-- The store's blocks, in another order of fields. -/
theorem runs_fixed15 {M : Seat} (ok : OkF15 M) (hne : ¬ mc1.com = mc0.com) : Runs M 96 [] [] 0 (fun r H' k' => r = .bool true ∧ H' = [] ∧ k' = 0) := by
  have hP := runs_PvXN ok.o mc0 (wNew 16).pres 0
  rw [prvX0] at hP
  have hV := runs_Verify ok.o mc0.com (memN mc0.f 13 0) mc0.h [pfOf mc0.f 0#64] Pr.zero
  have hv := vfy_X (wNew 16).pres (PresOk_new 16) mc0 (by rw [prvX0])
  rw [prvX0, stepX0] at hv
  rw [hv] at hV
  have hS := runs_StepHalt ok.o.q.ok.toOkV mc0.f mc0.g mc0.pc mc0.xt (by decide) 0#64 rfl pOp0 (by decide)
  have hO0 := runs_Of ok.o.q.okA ok.o.d mc0.f mc0.g mc0.pc false mc0.xt
  have hO1 := runs_Of ok.o.q.okA ok.o.d mc1.f mc1.g mc1.pc true mc1.xt
  have e0 : comD mc0.f mc0.g mc0.pc false mc0.xt = mc0.com := rfl
  have e1 : comD mc1.f mc1.g mc1.pc true mc1.xt = mc1.com := rfl
  rw [e0] at hO0
  rw [e1] at hO1
  have hpv : pvR mc0 none [pfOf mc0.f 0#64] Pr.zero = tup2 (spV (memN mc0.f 13 0) mc0.h [pfOf mc0.f 0#64] Pr.zero) .nili := rfl
  have hm0 : mc0.v = mach (fun _ => 0#64) (fun _ => 0#64) 0#64 false 0#64 := rfl
  have hm1 : mc1.v = mach (fun _ => 0#64) (fun _ => 0#64) 0#64 true 0#64 := rfl
  dsimp only at hP
  rw [hpv, hm0] at hP
  have hS : Runs M 70 [.ptr 0 [], .ptr 1 []] [(0, mach (fun _ => 0#64) (fun _ => 0#64) 0#64 false 0#64)] 2 (fun r H' k' => r = .nili ∧ H' = [(0, mach (fun _ => 0#64) (fun _ => 0#64) 0#64 true 0#64)] ∧ k' = 2) := hS
  have hO0 : Runs M 54 [.imm (mach (fun _ => 0#64) (fun _ => 0#64) 0#64 false 0#64)] [] 0 (fun r H' k' => r = tup2 (dg mc0.com) .nili ∧ H' = [] ∧ k' = 0) := hO0
  have hO1 : Runs M 54 [.imm (mach (fun _ => 0#64) (fun _ => 0#64) 0#64 true 0#64)] [] 0 (fun r H' k' => r = tup2 (dg mc1.com) .nili ∧ H' = [] ∧ k' = 0) := hO1
  have hlen : ([pfOf mc0.f 0#64] : List Pf).length = 1 := rfl
  generalize mc0.com = C0 at *
  generalize mc1.com = C1 at *
  generalize memN mc0.f 13 0 = R0 at *
  generalize hL : [pfOf mc0.f 0#64] = L0 at *
  have hsp : spV R0 mc0.h L0 Pr.zero = .st 116 (.fcons 0 (dg R0) (.fcons 32 (.st 19 (.fcons 0 (.ar 1 16 (fun _ => W 0#64)) (.fcons 16 (W 0#64) (.fcons 17 (.bool false) (.fcons 18 (W 0#64) .fnil))))) (.fcons 51 (.lst 2 L0.length (pfs L0)) (.fcons 52 (prV Pr.zero) .fnil)))) := rfl
  rw [hsp, hlen] at hP hV
  clear hsp hpv hv hL hlen e0 e1
  refine runs_fr ok.k96 rfl fun x hx => ?_
  refine ex_sound 2000 _ _ _ _ ?_; (simp (maxSteps := 4000000) only [f96, c96, LZ, seval, reduceCtorEq, forall_const])
  refine call_fA (runs_Load ok.o.q.okA) (by decide) (by ((try simp only [mach, LY, seval, reduceCtorEq, implies_true]); first | done | exact True.intro | rfl)) (by simp only [mach, LX, implies_true]) (by simp only [mach, LX, implies_true]) ?_
  (simp (maxSteps := 4000000) only [tup2, ren_mach, LZ, seval, reduceCtorEq, forall_const])
  refine call_fA (runs_New ok.o.q.okA ok.o.q.ok.toOkS) (by decide) (by ((try simp only [stoH', stoV, kinV, Sim_seen, NoIm_seen, LMS, LY, seval, reduceCtorEq, implies_true]); first | done | exact True.intro | rfl)) (by simp only [stoH', stoV, kinV, Sim_seen, NoIm_seen, LMS, LX, implies_true]) (by simp only [stoH', stoV, kinV, Sim_seen, NoIm_seen, LMS, LX, implies_true]) ?_
  (simp (maxSteps := 4000000) only [stoH', stoV, kinV, ren_seen, ren_mach, LM, LZ, seval, reduceCtorEq, forall_const])
  refine call_mN [16, 112, 113, 114, 116] [16, 112, 113] (hP) (by rfl) (by rfl) (by decide) (by rfl) (by rfl) (by ((try simp only [st2, mach, LMS, LY, seval, reduceCtorEq, implies_true]); first | done | exact True.intro | rfl)) (by ((try simp only [st2, mach, LMS, LY, seval, reduceCtorEq, implies_true]); first | done | exact True.intro | rfl)) ?_
  (simp (maxSteps := 4000000) only [tup2, st2, ren_mach, ren_pfs, LM, LZ, seval, reduceCtorEq, forall_const])
  refine call_pA (hO0) (by ((try simp only [mach, dg, LY, seval, reduceCtorEq, implies_true]); first | done | exact True.intro | rfl)) (by first | rfl | (simp only [LN, LP, V.ren, tup2, tup3])) (by simp only [mach, dg, LX, implies_true]) ?_
  (simp (maxSteps := 4000000) only [tup2, LZ, seval, reduceCtorEq, forall_const])
  refine call_pA (hV) (by ((try simp only [dg, Sim_pfs, LMS, erN_none, LY, seval, reduceCtorEq, implies_true]); first | done | exact True.intro | rfl)) (by first | rfl | (simp only [LN, LP, V.ren, tup2, tup3])) (by simp only [dg, Sim_pfs, LMS, erN_none, LX, implies_true]) ?_
  (simp (maxSteps := 4000000) only [tup2, erN_none, LZ, seval, reduceCtorEq, forall_const])
  refine call_mB [16, 112] [16] (hS) (by rfl) (by rfl) (by decide) (by rfl) (by rfl) (by ((try simp only [mach, LY, seval, reduceCtorEq, implies_true]); first | done | exact True.intro | rfl)) (by ((try simp only [mach, LY, seval, reduceCtorEq, implies_true]); first | done | exact True.intro | rfl)) (by simp only [mach, LX, implies_true]) (by simp only [mach, LX, implies_true]) ?_
  (simp (maxSteps := 4000000) only [ren_mach, LZ, seval, reduceCtorEq, forall_const])
  refine call_pA (hO1) (by ((try simp only [mach, dg, LY, seval, reduceCtorEq, implies_true]); first | done | exact True.intro | rfl)) (by first | rfl | (simp only [LN, LP, V.ren, tup2, tup3])) (by simp only [mach, dg, LX, implies_true]) ?_
  (simp (maxSteps := 4000000) only [tup2, hne, LM, LZ, seval, reduceCtorEq, forall_const])
  exact RetS.mkZ hx [] ⟨rfl, rfl, rfl⟩
end Mv
namespace Mv
open Go

theorem mem_zeroN : ∀ h q, memN (fun _ => 0#64) h q = nought h
  | 0, q => by simp only [memN, show leafD 0#64 = Dg.zero from leafD_0, ite_self]; rfl
  | h + 1, q => by rw [memN, mem_zeroN h, mem_zeroN h]; rfl
theorem four0 (w : Nat → BitVec 64) (hw : ∀ j, j < 4 → w j = 0#64) : toN (fourD w) = 0 := by
  have h : toN (fourD w) = packW 8 (fun _ => 0) 32 := packW_congr 8 32 (fun k hk => by
    rw [fourD, Dg.at_mk' _ _ hk, byWs, hw _ (by omega)]
    have : ∀ k, k < 32 → (byW (0#64) (k % 8)).toNat = 0 := by decide
    exact this k hk)
  rw [h]; decide
theorem four1 : toN (fourD (w4 0#64 1#64 0#64 0#64)) = 1 <<< 120 := by
  have h : toN (fourD (w4 0#64 1#64 0#64 0#64)) = packW 8 (fun k => if k = 15 then 1 else 0) 32 := packW_congr 8 32 (fun k hk => by
    rw [fourD, Dg.at_mk' _ _ hk]
    have : ∀ k, k < 32 → (byWs (w4 0#64 1#64 0#64 0#64) k).toNat = if k = 15 then 1 else 0 := by decide
    exact this k hk)
  rw [h]; decide
def regN : Nat := pairN (pairN 0 0) (pairN 0 0)
def comN (x : Nat) : Nat := pairN (noughtN 13) (pairN regN x)
theorem com0_N : toN mc0.com = comN 0 := by
  show toN (pair (memN (fun _ => 0#64) 13 0) (pair (pair (pair (fourD fun _ => 0#64) (fourD fun _ => 0#64)) (pair (fourD fun _ => 0#64) (fourD fun _ => 0#64))) (fourD (w4 0#64 0#64 0#64 0#64)))) = _
  rw [pair_N, mem_zeroN, nought_N, pair_N, pair_N, pair_N, four0 _ (fun _ _ => rfl), four0 _ (by decide)]; rfl
theorem com1_N : toN mc1.com = comN (1 <<< 120) := by
  show toN (pair (memN (fun _ => 0#64) 13 0) (pair (pair (pair (fourD fun _ => 0#64) (fourD fun _ => 0#64)) (pair (fourD fun _ => 0#64) (fourD fun _ => 0#64))) (fourD (w4 0#64 1#64 0#64 0#64)))) = _
  rw [pair_N, mem_zeroN, nought_N, pair_N, pair_N, pair_N, four0 _ (fun _ _ => rfl), four1]; rfl
theorem com_differ : Nat.beq (comN (1 <<< 120)) (comN 0) = false := by kernel_rfl
theorem com_ne : ¬ mc1.com = mc0.com := by
  intro h
  have h2 := com_differ
  rw [← com1_N, ← com0_N, h, Nat.beq_refl] at h2
  cases h2
end Mv
