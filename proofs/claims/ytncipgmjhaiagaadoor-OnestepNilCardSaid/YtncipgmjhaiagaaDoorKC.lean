/- OnestepNil. -/
import Derived.Test.YtncipgmjhaiagaaDoorT
import Derived.Test.YtncipgmjhaiagaaDoorW1
import Derived.Test.YtncipgmjhaiagaaDoorKB
set_option linter.unusedSimpArgs false
set_option linter.unusedVariables false
namespace Mv
open Go
/-- moot/mootlaw15.OnestepNil -/
def c23 : LC := (.seq (.reg [A1 2 (.box (.t 0)),
  A1 4 (.mv (.c (.bool false)))])
 ((.seq (.reg [⟨(some 21), .call 74 [(.c .nils)], none⟩,
  A1 20 (.mv (.t 21)),
  A1 22 (.ext (.t 20) 0),
  A1 23 (.ext (.t 20) 1),
  A1 5 (.mv (.t 22)),
  A1 6 (.mv (.t 23))])
 ((.seq (.reg [⟨(some 24), .call 68 [], none⟩,
  A1 7 (.mv (.t 24))])
 ((.seq ((.seq (.reg [A1 25 (.mv (.t 6)),
  A1 26 (.eq true true (.iface [74]) (.t 25) (.c .nili)),
  A1 27 (.mv (.t 26)),
  A2 28 27 false (.mv (.t 5)),
  A2 29 27 false (.eq false true .ptr (.t 28) (.c .nilp)),
  A1 30 (.pick (.t 27) (.c (.bool true)) (.t 29)),
  A1 31 (.mv (.t 30)),
  ⟨(some 32), .call 96 [], (some (31, false))⟩,
  A2 33 31 false (.un .not (.t 32)),
  A1 34 (.pick (.t 31) (.c (.bool true)) (.t 33))])
 (.cond (.t 34) ((.seq (.reg [A1 4 (.mv (.c (.bool false)))])
 (.ret))) (.skip))))
 ((.seq (.reg [A1 36 (.mv (.t 7)),
  ⟨(some 37), .call 97 [(.c .nilp), (.t 36)], none⟩,
  A1 35 (.mv (.t 37)),
  A1 38 (.ext (.t 35) 0),
  A1 39 (.ext (.t 35) 1),
  A1 8 (.alloc (.st (.cons (.ar 32 (.int .u8)) (.cons (.st (.cons (.ar 16 (.int .u64)) (.cons (.int .u64) (.cons .bool (.cons (.int .u64) .nil))))) (.cons .slice (.cons (.ar 64 (.int .u8)) .nil)))))),
  A0 (.store 116 (.t 8) (.t 38)),
  A1 9 (.mv (.t 39))])
 ((.seq (.reg [A1 41 (.mv (.t 5)),
  ⟨(some 42), .call 97 [(.t 41), (.c .nilp)], none⟩,
  A1 40 (.mv (.t 42)),
  A1 43 (.ext (.t 40) 0),
  A1 44 (.ext (.t 40) 1),
  A1 10 (.alloc (.st (.cons (.ar 32 (.int .u8)) (.cons (.st (.cons (.ar 16 (.int .u64)) (.cons (.int .u64) (.cons .bool (.cons (.int .u64) .nil))))) (.cons .slice (.cons (.ar 64 (.int .u8)) .nil)))))),
  A0 (.store 116 (.t 10) (.t 43)),
  A1 11 (.mv (.t 44))])
 ((.seq (.reg [A1 45 (.mv (.t 5)),
  A1 46 (.mv (.t 1)),
  A1 47 (.nilc (.t 45)),
  A1 48 (.fadr 8209 (.t 47)),
  A0 (.store 1 (.t 48) (.t 46))])
 ((.seq (.reg [A1 50 (.mv (.t 5)),
  ⟨(some 51), .call 54 [(.t 50)], none⟩,
  A1 49 (.mv (.t 51)),
  A1 52 (.ext (.t 49) 0),
  A1 53 (.ext (.t 49) 1),
  A1 12 (.alloc (.ar 32 (.int .u8))),
  A0 (.store 32 (.t 12) (.t 52)),
  A1 13 (.mv (.t 53))])
 ((.seq (.reg [A1 55 (.mv (.t 5)),
  A1 56 (.mv (.t 7)),
  ⟨(some 57), .call 97 [(.t 55), (.t 56)], none⟩,
  A1 54 (.mv (.t 57)),
  A1 58 (.ext (.t 54) 0),
  A1 59 (.ext (.t 54) 1),
  A1 14 (.alloc (.st (.cons (.ar 32 (.int .u8)) (.cons (.st (.cons (.ar 16 (.int .u64)) (.cons (.int .u64) (.cons .bool (.cons (.int .u64) .nil))))) (.cons .slice (.cons (.ar 64 (.int .u8)) .nil)))))),
  A0 (.store 116 (.t 14) (.t 58)),
  A1 15 (.mv (.t 59))])
 ((.seq (.reg [A1 61 (.load true 32 (.t 2)),
  A1 62 (.load true 116 (.t 14)),
  ⟨(some 63), .call 98 [(.t 61), (.t 62)], none⟩,
  A1 60 (.mv (.t 63)),
  A1 64 (.ext (.t 60) 0),
  A1 65 (.ext (.t 60) 1),
  A1 16 (.alloc (.ar 32 (.int .u8))),
  A0 (.store 32 (.t 16) (.t 64)),
  A1 17 (.mv (.t 65))])
 ((.seq ((.seq (.reg [A1 66 (.load true 32 (.t 12)),
  A1 67 (.load true 32 (.t 2)),
  A1 68 (.eq false false (.ar 32 1 false .int) (.t 66) (.t 67))])
 (.cond (.t 68) (.reg [A1 69 (.mkif 74 (.c (.int .i64 31))),
  A1 17 (.mv (.t 69))]) (.skip))))
 ((.seq (.reg [A1 71 (.load true 32 (.t 12)),
  A1 72 (.load true 116 (.t 14)),
  ⟨(some 73), .call 98 [(.t 71), (.t 72)], none⟩,
  A1 70 (.mv (.t 73)),
  A1 74 (.ext (.t 70) 0),
  A1 75 (.ext (.t 70) 1),
  A1 18 (.alloc (.ar 32 (.int .u8))),
  A0 (.store 32 (.t 18) (.t 74)),
  A1 19 (.mv (.t 75))])
 ((.seq (.reg [A1 76 (.mv (.t 9)),
  A1 77 (.mkif 74 (.c (.int .i64 1))),
  ⟨(some 78), .call 63 [(.t 76), (.t 77)], none⟩,
  A1 79 (.mv (.t 78)),
  A2 80 79 true (.mv (.t 11)),
  A2 81 79 true (.mkif 74 (.c (.int .i64 1))),
  ⟨(some 82), .call 63 [(.t 80), (.t 81)], (some (79, true))⟩,
  A1 83 (.pick (.t 79) (.t 82) (.c (.bool false))),
  A1 84 (.mv (.t 83)),
  A2 85 84 true (.mv (.t 15)),
  A2 86 84 true (.eq false true (.iface [74]) (.t 85) (.c .nili)),
  A1 87 (.pick (.t 84) (.t 86) (.c (.bool false))),
  A1 88 (.mv (.t 87)),
  A2 89 88 true (.mv (.t 17)),
  A2 90 88 true (.mkif 74 (.c (.int .i64 31))),
  ⟨(some 91), .call 63 [(.t 89), (.t 90)], (some (88, true))⟩,
  A1 92 (.pick (.t 88) (.t 91) (.c (.bool false))),
  A1 93 (.mv (.t 92)),
  A2 94 93 true (.mv (.t 19)),
  A2 95 93 true (.eq false true (.iface [74]) (.t 94) (.c .nili)),
  A1 96 (.pick (.t 93) (.t 95) (.c (.bool false))),
  A1 97 (.mv (.t 96)),
  A2 98 97 true (.load true 32 (.t 18)),
  A2 99 97 true (.load true 32 (.t 12)),
  A2 100 97 true (.eq false false (.ar 32 1 false .int) (.t 98) (.t 99)),
  A2 101 97 true (.mv (.t 1)),
  A2 102 97 true (.eq false false .bool (.t 100) (.t 101)),
  A1 103 (.pick (.t 97) (.t 102) (.c (.bool false))),
  A1 104 (.mv (.t 103)),
  A2 105 104 true (.fadr 51 (.t 14)),
  A2 106 104 true (.load false 1 (.t 105)),
  A2 107 104 true (.len 0 (.t 106)),
  A2 108 104 true (.ari .eql (.t 107) (.c (.int .i64 0))),
  A2 109 104 true (.mv (.t 1)),
  A2 110 104 true (.eq false false .bool (.t 108) (.t 109)),
  A1 111 (.pick (.t 104) (.t 110) (.c (.bool false))),
  A1 4 (.mv (.t 111))])
 (.ret))))))))))))))))))))))))))
def f23 : LF := ⟨c23, 2, 0, 112, [.tmp 4]⟩

end Mv
namespace Mv
open Go
set_option maxRecDepth 20000
set_option maxHeartbeats 4000000
set_option linter.unusedSimpArgs false

structure OkONil (M : Seat) : Prop where
  f : OkF15 M
  k23 : chkF M 23 f23 = true
  is : ∀ a b : Int, Runs M 63 [.ifc 74 (.int .i64 a), .ifc 74 (.int .i64 b)] [] 0 (fun r H' k' => r = .bool (decide (a = b)) ∧ H' = [] ∧ k' = 0)

theorem vfy_bad (claim root : Dg) (h : Hd) (l : List Pf) (pre : Pr) (hc : ¬ pair root (headD h.g h.pc h.hl h.xt) = claim) : vfy claim root h l pre = (Dg.zero, some 31) := by
  unfold vfy; rw [if_pos hc]

theorem runs_ONilF {M : Seat} (ok : OkONil M) (hne : ¬ mc1.com = mc0.com) (claim : Dg) : Runs M 23 [dg claim, .bool false] [] 0 (fun r H' k' => r = .bool true ∧ H' = [] ∧ k' = 0) := by
  have hF := runs_fixed15 ok.f hne
  have hP := runs_PvXN ok.f.o mc0 (wNew 16).pres 0
  rw [prvX0] at hP
  have hV := runs_Verify ok.f.o mc0.com (memN mc0.f 13 0) mc0.h [pfOf mc0.f 0#64] Pr.zero
  have hv := vfy_X (wNew 16).pres (PresOk_new 16) mc0 (by rw [prvX0])
  rw [prvX0, stepX0] at hv
  dsimp only at hv hP
  rw [hv] at hV
  have hW := runs_Verify ok.f.o claim (memN mc0.f 13 0) mc0.h [pfOf mc0.f 0#64] Pr.zero
  have hb := vfy_bad claim (memN mc0.f 13 0) mc0.h [pfOf mc0.f 0#64] Pr.zero
  have hO : Runs M 54 [.imm (mach (fun _ => 0#64) (fun _ => 0#64) 0#64 false 0#64)] [] 0 (fun r H' k' => r = tup2 (dg mc0.com) .nili ∧ H' = [] ∧ k' = 0) := runs_Of ok.f.o.q.okA ok.f.o.d _ _ _ false _
  have hpv : pvR mc0 none ([pfOf mc0.f 0#64]) Pr.zero = tup2 (spV (memN mc0.f 13 0) mc0.h ([pfOf mc0.f 0#64]) Pr.zero) .nili := rfl
  have hm : mc0.v = mach (fun _ => 0#64) (fun _ => 0#64) 0#64 false 0#64 := rfl
  have hlen : ([pfOf mc0.f 0#64] : List Pf).length = 1 := rfl
  have hpr : pair (memN mc0.f 13 0) (headD mc0.h.g mc0.h.pc mc0.h.hl mc0.h.xt) = mc0.com := rfl
  rw [hpr] at hb
  rw [hpv, hm] at hP
  have e0 : ((0 : Int) = 0) = True := eq_true rfl
  generalize mc0.com = C0 at *
  generalize mc1.com = C1 at *
  generalize memN mc0.f 13 0 = R0 at *
  generalize hL : ([pfOf mc0.f 0#64] : List Pf) = L0 at *
  have hsp : spV R0 mc0.h L0 Pr.zero = .st 116 (.fcons 0 (dg R0) (.fcons 32 (.st 19 (.fcons 0 (.ar 1 16 (fun _ => W 0#64)) (.fcons 16 (W 0#64) (.fcons 17 (.bool false) (.fcons 18 (W 0#64) .fnil))))) (.fcons 51 (.lst 2 L0.length (pfs L0)) (.fcons 52 (prV Pr.zero) .fnil)))) := rfl
  rw [hsp, hlen] at hP hV hW
  have hM := runs_PvNilM ok.f.o
  have hS := runs_PvNilS ok.f.o
  have hsz : spV Dg.zero ⟨fun _ => 0#64, 0#64, false, 0#64⟩ [] Pr.zero = .st 116 (.fcons 0 (dg Dg.zero) (.fcons 32 (.st 19 (.fcons 0 (.ar 1 16 (fun _ => W 0#64)) (.fcons 16 (W 0#64) (.fcons 17 (.bool false) (.fcons 18 (W 0#64) .fnil))))) (.fcons 51 (.lst 2 0 (pfs [])) (.fcons 52 (prV Pr.zero) .fnil)))) := rfl
  rw [hsz] at hM hS
  generalize hQ : vfy claim R0 mc0.h L0 Pr.zero = Q at *
  clear hsp hsz hpv hv hL hlen hpr hm hQ
  refine runs_fr ok.k23 rfl fun x hx => ?_
  refine ex_sound 2000 _ _ _ _ ?_; (simp (maxSteps := 4000000) only [f23, c23, LZ, seval, reduceCtorEq, forall_const])
  refine call_fA (runs_Load ok.f.o.q.okA) (by decide) (by ((try simp only [mach, LY, seval, reduceCtorEq, implies_true]); first | done | exact True.intro | rfl)) (by simp only [mach, LX, implies_true]) (by simp only [mach, LX, implies_true]) ?_
  (simp (maxSteps := 4000000) only [tup2, ren_mach, LZ, seval, reduceCtorEq, forall_const])
  refine call_fA (runs_New ok.f.o.q.okA ok.f.o.q.ok.toOkS) (by decide) (by ((try simp only [stoH', stoV, kinV, Sim_seen, NoIm_seen, LMS, LY, seval, reduceCtorEq, implies_true]); first | done | exact True.intro | rfl)) (by simp only [stoH', stoV, kinV, Sim_seen, NoIm_seen, LMS, LX, implies_true]) (by simp only [stoH', stoV, kinV, Sim_seen, NoIm_seen, LMS, LX, implies_true]) ?_
  (simp (maxSteps := 4000000) only [stoH', stoV, kinV, ren_seen, ren_mach, LM, LZ, seval, reduceCtorEq, forall_const])
  refine call_pZ (hF) ?_
  (simp (maxSteps := 4000000) only [LZ, seval, reduceCtorEq, forall_const])
  refine call_mN [128] [] (hM) (by rfl) (by rfl) (by decide) (by rfl) (by rfl) (by ((try simp only [LMS, LY, seval, reduceCtorEq, implies_true]); first | done | exact True.intro | rfl)) (by ((try simp only [LMS, LY, seval, reduceCtorEq, implies_true]); first | done | exact True.intro | rfl)) ?_
  (simp (maxSteps := 4000000) only [tup2, ren_pfs, LM, LZ, seval, reduceCtorEq, forall_const])
  refine call_mN [32] [] (hS) (by rfl) (by rfl) (by decide) (by rfl) (by rfl) (by ((try simp only [LMS, LY, seval, reduceCtorEq, implies_true]); first | done | exact True.intro | rfl)) (by ((try simp only [LMS, LY, seval, reduceCtorEq, implies_true]); first | done | exact True.intro | rfl)) ?_
  (simp (maxSteps := 4000000) only [tup2, ren_pfs, LM, mach, LZ, seval, reduceCtorEq, forall_const])
  refine call_pA (hO) (by ((try simp only [mach, dg, LY, seval, reduceCtorEq, implies_true]); first | done | exact True.intro | rfl)) (by first | rfl | (simp only [LN, LP, V.ren, tup2, tup3])) (by simp only [mach, dg, LX, implies_true]) ?_
  (simp (maxSteps := 4000000) only [tup2, LZ, seval, reduceCtorEq, forall_const])
  refine call_mN [32, 128, 129, 130, 132] [32, 128, 129] (hP) (by rfl) (by rfl) (by decide) (by rfl) (by rfl) (by ((try simp only [st2, mach, LMS, LY, seval, reduceCtorEq, implies_true]); first | done | exact True.intro | rfl)) (by ((try simp only [st2, mach, LMS, LY, seval, reduceCtorEq, implies_true]); first | done | exact True.intro | rfl)) ?_
  (simp (maxSteps := 4000000) only [tup2, st2, mach, ren_pfs, LM, LZ, seval, reduceCtorEq, forall_const])
  by_cases hc : C0 = claim
  · subst hc
    obtain ⟨d, e⟩ := Q
    cases e
    all_goals
      refine call_pA (hW) (by ((try simp only [dg, Sim_pfs, LMS, erN_none, erN_some, LY, seval, reduceCtorEq, implies_true]); first | done | exact True.intro | rfl)) (by first | rfl | (simp only [LN, LP, V.ren, tup2, tup3])) (by simp only [dg, Sim_pfs, LMS, erN_none, erN_some, LX, implies_true]) ?_
      (simp (maxSteps := 4000000) only [tup2, LM, erN_none, erN_some, LZ, seval, reduceCtorEq, forall_const])
      refine call_pA (hV) (by ((try simp only [dg, Sim_pfs, LMS, erN_none, LY, seval, reduceCtorEq, implies_true]); first | done | exact True.intro | rfl)) (by first | rfl | (simp only [LN, LP, V.ren, tup2, tup3])) (by simp only [dg, Sim_pfs, LMS, erN_none, LX, implies_true]) ?_
      (simp (maxSteps := 4000000) only [tup2, erN_none, LZ, seval, reduceCtorEq, forall_const])
      refine call_pZ (ok.is 1 1) ?_
      (simp (maxSteps := 4000000) only [LZ, seval, reduceCtorEq, forall_const])
      refine call_pZ (ok.is 1 1) ?_
      (simp (maxSteps := 4000000) only [LZ, seval, reduceCtorEq, forall_const])
      refine call_pZ (ok.is 31 31) ?_
      (simp (maxSteps := 4000000) only [LM, hne, e0, LZ, seval, reduceCtorEq, forall_const])
      exact RetS.mkZ hx [] ⟨rfl, rfl, rfl⟩
  · rw [hb hc] at hW
    refine call_pA (hW) (by ((try simp only [dg, Sim_pfs, LMS, erN_some, LY, seval, reduceCtorEq, implies_true]); first | done | exact True.intro | rfl)) (by first | rfl | (simp only [LN, LP, V.ren, tup2, tup3])) (by simp only [dg, Sim_pfs, LMS, erN_some, LX, implies_true]) ?_
    (simp (maxSteps := 4000000) only [tup2, LM, eq_false hc, erN_some, LZ, seval, reduceCtorEq, forall_const])
    refine call_pA (hV) (by ((try simp only [dg, Sim_pfs, LMS, erN_none, LY, seval, reduceCtorEq, implies_true]); first | done | exact True.intro | rfl)) (by first | rfl | (simp only [LN, LP, V.ren, tup2, tup3])) (by simp only [dg, Sim_pfs, LMS, erN_none, LX, implies_true]) ?_
    (simp (maxSteps := 4000000) only [tup2, erN_none, LZ, seval, reduceCtorEq, forall_const])
    refine call_pZ (ok.is 1 1) ?_
    (simp (maxSteps := 4000000) only [LZ, seval, reduceCtorEq, forall_const])
    refine call_pZ (ok.is 1 1) ?_
    (simp (maxSteps := 4000000) only [LZ, seval, reduceCtorEq, forall_const])
    refine call_pZ (ok.is 31 31) ?_
    (simp (maxSteps := 4000000) only [LM, hne, e0, LZ, seval, reduceCtorEq, forall_const])
    exact RetS.mkZ hx [] ⟨rfl, rfl, rfl⟩
theorem runs_ONilT {M : Seat} (ok : OkONil M) (hne : ¬ mc1.com = mc0.com) (claim : Dg) : Runs M 23 [dg claim, .bool true] [] 0 (fun r H' k' => r = .bool true ∧ H' = [] ∧ k' = 0) := by
  have hF := runs_fixed15 ok.f hne
  have hP := runs_PvXN ok.f.o mc1 (wNew 16).pres 0
  rw [prvX1] at hP
  have hV := runs_Verify ok.f.o mc1.com (memN mc1.f 13 0) mc1.h [] Pr.zero
  have hv := vfy_X (wNew 16).pres (PresOk_new 16) mc1 (by rw [prvX1])
  rw [prvX1, stepX1] at hv
  dsimp only at hv hP
  rw [hv] at hV
  have hW := runs_Verify ok.f.o claim (memN mc1.f 13 0) mc1.h [] Pr.zero
  have hb := vfy_bad claim (memN mc1.f 13 0) mc1.h [] Pr.zero
  have hO : Runs M 54 [.imm (mach (fun _ => 0#64) (fun _ => 0#64) 0#64 true 0#64)] [] 0 (fun r H' k' => r = tup2 (dg mc1.com) .nili ∧ H' = [] ∧ k' = 0) := runs_Of ok.f.o.q.okA ok.f.o.d _ _ _ true _
  have hpv : pvR mc1 none ([]) Pr.zero = tup2 (spV (memN mc1.f 13 0) mc1.h ([]) Pr.zero) .nili := rfl
  have hm : mc1.v = mach (fun _ => 0#64) (fun _ => 0#64) 0#64 true 0#64 := rfl
  have hlen : ([] : List Pf).length = 0 := rfl
  have hpr : pair (memN mc1.f 13 0) (headD mc1.h.g mc1.h.pc mc1.h.hl mc1.h.xt) = mc1.com := rfl
  rw [hpr] at hb
  rw [hpv, hm] at hP
  have e0 : ((0 : Int) = 0) = True := eq_true rfl
  generalize mc0.com = C0 at *
  generalize mc1.com = C1 at *
  generalize memN mc1.f 13 0 = R0 at *
  generalize hL : ([] : List Pf) = L0 at *
  have hsp : spV R0 mc1.h L0 Pr.zero = .st 116 (.fcons 0 (dg R0) (.fcons 32 (.st 19 (.fcons 0 (.ar 1 16 (fun _ => W 0#64)) (.fcons 16 (W 0#64) (.fcons 17 (.bool true) (.fcons 18 (W 0#64) .fnil))))) (.fcons 51 (.lst 2 L0.length (pfs L0)) (.fcons 52 (prV Pr.zero) .fnil)))) := rfl
  rw [hsp, hlen] at hP hV hW
  have hM := runs_PvNilM ok.f.o
  have hS := runs_PvNilS ok.f.o
  have hsz : spV Dg.zero ⟨fun _ => 0#64, 0#64, false, 0#64⟩ [] Pr.zero = .st 116 (.fcons 0 (dg Dg.zero) (.fcons 32 (.st 19 (.fcons 0 (.ar 1 16 (fun _ => W 0#64)) (.fcons 16 (W 0#64) (.fcons 17 (.bool false) (.fcons 18 (W 0#64) .fnil))))) (.fcons 51 (.lst 2 0 (pfs [])) (.fcons 52 (prV Pr.zero) .fnil)))) := rfl
  rw [hsz] at hM hS
  generalize hQ : vfy claim R0 mc1.h L0 Pr.zero = Q at *
  clear hsp hsz hpv hv hL hlen hpr hm hQ
  refine runs_fr ok.k23 rfl fun x hx => ?_
  refine ex_sound 2000 _ _ _ _ ?_; (simp (maxSteps := 4000000) only [f23, c23, LZ, seval, reduceCtorEq, forall_const])
  refine call_fA (runs_Load ok.f.o.q.okA) (by decide) (by ((try simp only [mach, LY, seval, reduceCtorEq, implies_true]); first | done | exact True.intro | rfl)) (by simp only [mach, LX, implies_true]) (by simp only [mach, LX, implies_true]) ?_
  (simp (maxSteps := 4000000) only [tup2, ren_mach, LZ, seval, reduceCtorEq, forall_const])
  refine call_fA (runs_New ok.f.o.q.okA ok.f.o.q.ok.toOkS) (by decide) (by ((try simp only [stoH', stoV, kinV, Sim_seen, NoIm_seen, LMS, LY, seval, reduceCtorEq, implies_true]); first | done | exact True.intro | rfl)) (by simp only [stoH', stoV, kinV, Sim_seen, NoIm_seen, LMS, LX, implies_true]) (by simp only [stoH', stoV, kinV, Sim_seen, NoIm_seen, LMS, LX, implies_true]) ?_
  (simp (maxSteps := 4000000) only [stoH', stoV, kinV, ren_seen, ren_mach, LM, LZ, seval, reduceCtorEq, forall_const])
  refine call_pZ (hF) ?_
  (simp (maxSteps := 4000000) only [LZ, seval, reduceCtorEq, forall_const])
  refine call_mN [128] [] (hM) (by rfl) (by rfl) (by decide) (by rfl) (by rfl) (by ((try simp only [LMS, LY, seval, reduceCtorEq, implies_true]); first | done | exact True.intro | rfl)) (by ((try simp only [LMS, LY, seval, reduceCtorEq, implies_true]); first | done | exact True.intro | rfl)) ?_
  (simp (maxSteps := 4000000) only [tup2, ren_pfs, LM, LZ, seval, reduceCtorEq, forall_const])
  refine call_mN [32] [] (hS) (by rfl) (by rfl) (by decide) (by rfl) (by rfl) (by ((try simp only [LMS, LY, seval, reduceCtorEq, implies_true]); first | done | exact True.intro | rfl)) (by ((try simp only [LMS, LY, seval, reduceCtorEq, implies_true]); first | done | exact True.intro | rfl)) ?_
  (simp (maxSteps := 4000000) only [tup2, ren_pfs, LM, mach, LZ, seval, reduceCtorEq, forall_const])
  refine call_pA (hO) (by ((try simp only [mach, dg, LY, seval, reduceCtorEq, implies_true]); first | done | exact True.intro | rfl)) (by first | rfl | (simp only [LN, LP, V.ren, tup2, tup3])) (by simp only [mach, dg, LX, implies_true]) ?_
  (simp (maxSteps := 4000000) only [tup2, LZ, seval, reduceCtorEq, forall_const])
  refine call_mN [32, 128, 129, 130, 132] [32, 128, 129] (hP) (by rfl) (by rfl) (by decide) (by rfl) (by rfl) (by ((try simp only [st2, mach, LMS, LY, seval, reduceCtorEq, implies_true]); first | done | exact True.intro | rfl)) (by ((try simp only [st2, mach, LMS, LY, seval, reduceCtorEq, implies_true]); first | done | exact True.intro | rfl)) ?_
  (simp (maxSteps := 4000000) only [tup2, st2, mach, ren_pfs, LM, LZ, seval, reduceCtorEq, forall_const])
  by_cases hc : C1 = claim
  · subst hc
    obtain ⟨d, e⟩ := Q
    cases e
    all_goals
      refine call_pA (hW) (by ((try simp only [dg, Sim_pfs, LMS, erN_none, erN_some, LY, seval, reduceCtorEq, implies_true]); first | done | exact True.intro | rfl)) (by first | rfl | (simp only [LN, LP, V.ren, tup2, tup3])) (by simp only [dg, Sim_pfs, LMS, erN_none, erN_some, LX, implies_true]) ?_
      (simp (maxSteps := 4000000) only [tup2, LM, erN_none, erN_some, LZ, seval, reduceCtorEq, forall_const])
      refine call_pA (hV) (by ((try simp only [dg, Sim_pfs, LMS, erN_none, LY, seval, reduceCtorEq, implies_true]); first | done | exact True.intro | rfl)) (by first | rfl | (simp only [LN, LP, V.ren, tup2, tup3])) (by simp only [dg, Sim_pfs, LMS, erN_none, LX, implies_true]) ?_
      (simp (maxSteps := 4000000) only [tup2, erN_none, LZ, seval, reduceCtorEq, forall_const])
      refine call_pZ (ok.is 1 1) ?_
      (simp (maxSteps := 4000000) only [LZ, seval, reduceCtorEq, forall_const])
      refine call_pZ (ok.is 1 1) ?_
      (simp (maxSteps := 4000000) only [LZ, seval, reduceCtorEq, forall_const])
      refine call_pZ (ok.is 31 31) ?_
      (simp (maxSteps := 4000000) only [LM, hne, e0, LZ, seval, reduceCtorEq, forall_const])
      exact RetS.mkZ hx [] ⟨rfl, rfl, rfl⟩
  · rw [hb hc] at hW
    refine call_pA (hW) (by ((try simp only [dg, Sim_pfs, LMS, erN_some, LY, seval, reduceCtorEq, implies_true]); first | done | exact True.intro | rfl)) (by first | rfl | (simp only [LN, LP, V.ren, tup2, tup3])) (by simp only [dg, Sim_pfs, LMS, erN_some, LX, implies_true]) ?_
    (simp (maxSteps := 4000000) only [tup2, LM, eq_false hc, erN_some, LZ, seval, reduceCtorEq, forall_const])
    refine call_pA (hV) (by ((try simp only [dg, Sim_pfs, LMS, erN_none, LY, seval, reduceCtorEq, implies_true]); first | done | exact True.intro | rfl)) (by first | rfl | (simp only [LN, LP, V.ren, tup2, tup3])) (by simp only [dg, Sim_pfs, LMS, erN_none, LX, implies_true]) ?_
    (simp (maxSteps := 4000000) only [tup2, erN_none, LZ, seval, reduceCtorEq, forall_const])
    refine call_pZ (ok.is 1 1) ?_
    (simp (maxSteps := 4000000) only [LZ, seval, reduceCtorEq, forall_const])
    refine call_pZ (ok.is 1 1) ?_
    (simp (maxSteps := 4000000) only [LZ, seval, reduceCtorEq, forall_const])
    refine call_pZ (ok.is 31 31) ?_
    (simp (maxSteps := 4000000) only [LM, hne, e0, LZ, seval, reduceCtorEq, forall_const])
    exact RetS.mkZ hx [] ⟨rfl, rfl, rfl⟩
theorem runs_OnestepNil {M : Seat} (ok : OkONil M) (hne : ¬ mc1.com = mc0.com) (claim : Dg) (b : Bool) : Runs M 23 [dg claim, .bool b] [] 0 (fun r H' k' => r = .bool true ∧ H' = [] ∧ k' = 0) := by
  cases b
  · exact runs_ONilF ok hne claim
  · exact runs_ONilT ok hne claim
end Mv
