/- IrEnds. -/
import Derived.Test.YtdenaplelfkecaaDoorT
import Derived.Test.YtdenaplelfkecaaDoorW1
import Derived.Test.YtdenaplelfkecaaDoorIm
set_option linter.unusedSimpArgs false
set_option linter.unusedVariables false
namespace Mv
open Go
/-- moot/mootlaw12.IrEnds -/
def c17 : LC := (.seq (.reg [A1 6 (.mv (.c (.bool false)))])
 ((.seq (.reg [A1 11 (.mv (.t 0)),
  ⟨(some 12), .call 84 [(.t 11)], none⟩,
  A1 13 (.build (.st (.cons (.int .i64) (.cons (.int .i64) (.cons (.st (.cons (.int .i64) (.cons (.int .u64) (.cons .slice .nil)))) (.cons (.st (.cons (.int .i64) (.cons (.int .u64) (.cons .slice .nil)))) (.cons .slice (.cons .slice .nil))))))) [(.f 0, 1, (.c (.int .i64 7))), (.f 2, 3, (.t 12))]),
  A1 7 (.alloc (.st (.cons (.int .i64) (.cons (.int .i64) (.cons (.st (.cons (.int .i64) (.cons (.int .u64) (.cons .slice .nil)))) (.cons (.st (.cons (.int .i64) (.cons (.int .u64) (.cons .slice .nil)))) (.cons .slice (.cons .slice .nil)))))))),
  A0 (.store 10 (.t 7) (.t 13))])
 ((.seq ((.seq (.reg [A1 14 (.mv (.t 2))])
 (.cond (.t 14) ((.seq (.reg [A1 15 (.mv (.t 1)),
  A1 16 (.ari .rem (.t 15) (.c (.int .u64 1000))),
  A1 17 (.ari .add (.c (.int .u64 2048)) (.t 16)),
  ⟨(some 18), .call 84 [(.t 17)], none⟩,
  A1 19 (.bsl 3 1 (.st (.cons (.int .i64) (.cons (.int .u64) (.cons .slice .nil)))) [(.i 3 0, 3, (.t 18))]),
  ⟨(some 20), .call 86 [(.c (.int .i64 28)), (.t 19)], none⟩,
  A1 21 (.build (.st (.cons (.int .i64) (.cons (.int .i64) (.cons (.st (.cons (.int .i64) (.cons (.int .u64) (.cons .slice .nil)))) (.cons (.st (.cons (.int .i64) (.cons (.int .u64) (.cons .slice .nil)))) (.cons .slice (.cons .slice .nil))))))) [(.f 0, 1, (.c (.int .i64 6))), (.f 2, 3, (.t 20))]),
  A0 (.store 10 (.t 7) (.t 21))])
 (.reg [A1 0 (.mv (.c (.int .u64 18446744073709551614)))]))) (.skip))))
 ((.seq (.reg [A1 22 (.mv (.t 1)),
  A1 23 (.ari .rem (.t 22) (.c (.int .u64 2048))),
  A1 1 (.mv (.t 23))])
 ((.seq (.regd [⟨0, 0, ⟨(some 24), .call 84 [(.c (.int .u64 1))], none⟩⟩,
  ⟨3, 0, A1 27 (.mv (.t 1))⟩,
  ⟨4, 3, ⟨(some 28), .call 84 [(.t 27)], none⟩⟩,
  ⟨5, 7, ⟨(some 29), .call 84 [(.c (.int .u64 8))], none⟩⟩,
  ⟨11, 0, A1 35 (.mv (.t 1))⟩,
  ⟨12, 31, ⟨(some 36), .call 84 [(.t 35)], none⟩⟩,
  ⟨13, 63, ⟨(some 37), .call 84 [(.c (.int .u64 9))], none⟩⟩,
  ⟨15, 127, ⟨(some 39), .call 84 [(.c (.int .u64 1))], none⟩⟩,
  ⟨19, 0, A1 43 (.mv (.t 1))⟩,
  ⟨20, 511, ⟨(some 44), .call 84 [(.t 43)], none⟩⟩,
  ⟨21, 1023, ⟨(some 45), .call 84 [(.c (.int .u64 7))], none⟩⟩,
  ⟨1, 0, A1 25 (.build (.st (.cons (.int .i64) (.cons (.int .u64) (.cons .slice .nil)))) [(.f 0, 1, (.c (.int .i64 29))), (.f 1, 1, (.c (.int .u64 1)))])⟩,
  ⟨2, 2048, A1 26 (.build (.st (.cons (.int .i64) (.cons (.int .i64) (.cons (.st (.cons (.int .i64) (.cons (.int .u64) (.cons .slice .nil)))) (.cons (.st (.cons (.int .i64) (.cons (.int .u64) (.cons .slice .nil)))) (.cons .slice (.cons .slice .nil))))))) [(.f 0, 1, (.c (.int .i64 6))), (.f 2, 3, (.t 25))])⟩,
  ⟨6, 15, A1 30 (.build (.st (.cons (.int .i64) (.cons (.int .i64) (.cons (.st (.cons (.int .i64) (.cons (.int .u64) (.cons .slice .nil)))) (.cons (.st (.cons (.int .i64) (.cons (.int .u64) (.cons .slice .nil)))) (.cons .slice (.cons .slice .nil))))))) [(.f 0, 1, (.c (.int .i64 2))), (.f 2, 3, (.t 28)), (.f 5, 3, (.t 29))])⟩,
  ⟨7, 14351, A1 31 (.bsl 10 2 (.st (.cons (.int .i64) (.cons (.int .i64) (.cons (.st (.cons (.int .i64) (.cons (.int .u64) (.cons .slice .nil)))) (.cons (.st (.cons (.int .i64) (.cons (.int .u64) (.cons .slice .nil)))) (.cons .slice (.cons .slice .nil))))))) [(.i 10 0, 10, (.t 26)), (.i 10 1, 10, (.t 30))])⟩,
  ⟨8, 30735, A1 32 (.build (.st (.cons (.int .i64) (.cons (.int .i64) (.cons (.st (.cons (.int .i64) (.cons (.int .u64) (.cons .slice .nil)))) (.cons (.st (.cons (.int .i64) (.cons (.int .u64) (.cons .slice .nil)))) (.cons .slice (.cons .slice .nil))))))) [(.f 0, 1, (.c (.int .i64 4))), (.f 2, 3, (.t 24)), (.f 8, 1, (.t 31))])⟩,
  ⟨9, 63503, A1 33 (.bsl 10 1 (.st (.cons (.int .i64) (.cons (.int .i64) (.cons (.st (.cons (.int .i64) (.cons (.int .u64) (.cons .slice .nil)))) (.cons (.st (.cons (.int .i64) (.cons (.int .u64) (.cons .slice .nil)))) (.cons .slice (.cons .slice .nil))))))) [(.i 10 0, 10, (.t 32))])⟩,
  ⟨10, 129039, A1 34 (.build (.st (.cons (.int .i64) (.cons (.int .i64) (.cons .slice .nil)))) [(.f 2, 1, (.t 33))])⟩,
  ⟨14, 127, A1 38 (.build (.st (.cons (.int .i64) (.cons (.int .i64) (.cons (.st (.cons (.int .i64) (.cons (.int .u64) (.cons .slice .nil)))) (.cons (.st (.cons (.int .i64) (.cons (.int .u64) (.cons .slice .nil)))) (.cons .slice (.cons .slice .nil))))))) [(.f 0, 1, (.c (.int .i64 2))), (.f 2, 3, (.t 36)), (.f 5, 3, (.t 37))])⟩,
  ⟨16, 0, A1 40 (.load true 10 (.t 7))⟩,
  ⟨17, 524288, A1 41 (.bsl 10 1 (.st (.cons (.int .i64) (.cons (.int .i64) (.cons (.st (.cons (.int .i64) (.cons (.int .u64) (.cons .slice .nil)))) (.cons (.st (.cons (.int .i64) (.cons (.int .u64) (.cons .slice .nil)))) (.cons .slice (.cons .slice .nil))))))) [(.i 10 0, 10, (.t 40))])⟩,
  ⟨18, 1573119, A1 42 (.build (.st (.cons (.int .i64) (.cons (.int .i64) (.cons (.st (.cons (.int .i64) (.cons (.int .u64) (.cons .slice .nil)))) (.cons (.st (.cons (.int .i64) (.cons (.int .u64) (.cons .slice .nil)))) (.cons .slice (.cons .slice .nil))))))) [(.f 0, 1, (.c (.int .i64 3))), (.f 2, 3, (.t 39)), (.f 8, 1, (.t 41))])⟩,
  ⟨22, 2047, A1 46 (.build (.st (.cons (.int .i64) (.cons (.int .i64) (.cons (.st (.cons (.int .i64) (.cons (.int .u64) (.cons .slice .nil)))) (.cons (.st (.cons (.int .i64) (.cons (.int .u64) (.cons .slice .nil)))) (.cons .slice (.cons .slice .nil))))))) [(.f 0, 1, (.c (.int .i64 2))), (.f 2, 3, (.t 44)), (.f 5, 3, (.t 45))])⟩,
  ⟨23, 8128511, A1 47 (.bsl 10 3 (.st (.cons (.int .i64) (.cons (.int .i64) (.cons (.st (.cons (.int .i64) (.cons (.int .u64) (.cons .slice .nil)))) (.cons (.st (.cons (.int .i64) (.cons (.int .u64) (.cons .slice .nil)))) (.cons .slice (.cons .slice .nil))))))) [(.i 10 0, 10, (.t 38)), (.i 10 1, 10, (.t 42)), (.i 10 2, 10, (.t 46))])⟩,
  ⟨24, 16517119, A1 48 (.build (.st (.cons (.int .i64) (.cons (.int .i64) (.cons .slice .nil)))) [(.f 2, 1, (.t 47))])⟩,
  ⟨25, 33554431, A1 49 (.bsl 3 2 (.st (.cons (.int .i64) (.cons (.int .i64) (.cons .slice .nil)))) [(.i 3 0, 3, (.t 34)), (.i 3 1, 3, (.t 48))])⟩,
  ⟨26, 67108863, A1 8 (.mv (.t 49))⟩])
 ((.seq (.reg [A1 51 (.mv (.t 8)),
  ⟨(some 52), .call 87 [(.t 51), (.c .nils)], none⟩,
  A1 50 (.mv (.t 52)),
  A1 53 (.ext (.t 50) 0),
  A1 54 (.ext (.t 50) 1),
  A1 9 (.alloc (.st (.cons (.int .u64) (.cons .slice (.cons (.int .i64) .nil))))),
  A0 (.store 3 (.t 9) (.t 53)),
  A1 10 (.mv (.t 54))])
 ((.seq (.reg [⟨(some 55), .call 88 [], none⟩,
  A1 56 (.mv (.t 55)),
  A2 57 56 true (.mv (.t 10)),
  A2 58 56 true (.eq false true (.iface [74]) (.t 57) (.c .nili)),
  A1 59 (.pick (.t 56) (.t 58) (.c (.bool false))),
  A1 60 (.mv (.t 59)),
  A2 61 60 true (.fadr 0 (.t 9)),
  A2 62 60 true (.load false 1 (.t 61)),
  A2 63 60 true (.mv (.t 0)),
  A2 64 60 true (.ari .eql (.t 62) (.t 63)),
  A1 65 (.pick (.t 60) (.t 64) (.c (.bool false))),
  A1 66 (.mv (.t 65)),
  A2 67 66 true (.fadr 1 (.t 9)),
  A2 68 66 true (.load false 1 (.t 67)),
  A2 69 66 true (.mv (.t 1)),
  A2 70 66 true (.isl 1 (.t 68) (.t 69)),
  A2 71 66 true (.load false 1 (.t 70)),
  A2 72 66 true (.ari .eql (.t 71) (.c (.int .u64 9))),
  A1 73 (.pick (.t 66) (.t 72) (.c (.bool false))),
  A1 74 (.mv (.t 73)),
  A2 75 74 true (.fadr 2 (.t 9)),
  A2 76 74 true (.load false 1 (.t 75)),
  A2 77 74 true (.ari .gtr (.t 76) (.c (.int .i64 5))),
  A1 78 (.pick (.t 74) (.t 77) (.c (.bool false))),
  A1 6 (.mv (.t 78))])
 (.ret))))))))))))))
def f17 : LF := ⟨c17, 3, 0, 79, [.tmp 6]⟩

end Mv
namespace Mv
open Go
set_option maxRecDepth 20000
set_option maxHeartbeats 4000000
set_option linter.unusedSimpArgs false

def ieP (a : BitVec 64) (en : IrSt) : List Fu := [⟨0, 0, [.mk 4 0 (cE 1#64) e0 [.mk 6 0 (.mk 29 1#64 []) e0 [] [], .mk 2 0 (cE a) (cE 8#64) [] []] []]⟩, ⟨0, 0, [.mk 2 0 (cE a) (cE 9#64) [] [], .mk 3 0 (cE 1#64) e0 [en] [], .mk 2 0 (cE a) (cE 7#64) [] []]⟩]
theorem ie_run1 (x a : BitVec 64) (h : a < 2048#64) : ∃ q, ev ap2 (ieP a (.mk 7 0 (cE x) e0 [] [])) (20 + 1) (.c 0 []) (s0I 100000) (fun _ => 0#64) 0 = some q ∧ (endS q.s q.v).out = false ∧ (endS q.s q.v).exit = x ∧ (endS q.s q.v).d a.toNat = 9#64 ∧ 5 < (endS q.s q.v).used := by
  simp (config := {decide := true}) [ieP, ev, evAs, evB, burnB, burn, endS, s0I, h]
theorem ie_run2 (y a : BitVec 64) (h : a < 2048#64) (hy : ¬ y < 2048#64) : ∃ q, ev ap2 (ieP a (.mk 6 0 (.mk 28 0#64 [cE y]) e0 [] [])) (20 + 1) (.c 0 []) (s0I 100000) (fun _ => 0#64) 0 = some q ∧ (endS q.s q.v).out = false ∧ (endS q.s q.v).exit = 18446744073709551614#64 ∧ (endS q.s q.v).d a.toNat = 9#64 ∧ 5 < (endS q.s q.v).used := by
  simp (config := {decide := true}) [ieP, ev, evAs, evB, burnB, burn, endS, s0I, h, hy]
theorem ie_right (a : BitVec 64) (en : IrSt) (c : Nat) (hc : c < 100) (h : RgS (ieP a en) 1 14 en c) : RgP (ieP a en) (fun i => if i = 0 then 7 else 8 + c) := by
  have h0 : ∀ i, i < (ieP a en).length → i = 0 ∨ i = 1 := fun i hi => by simp [ieP] at hi; omega
  refine ⟨by simp [ieP], by simp [ieP], fun i hi => ?_, rfl, fun i hi => ?_, ?_⟩
  · rcases h0 i hi with rfl | rfl
    · exact (show (0 : Int) ≤ 0 ∧ (0 : Int) ≤ 0 ∧ (0 : Int) ≤ 24 by decide)
    · exact (show (0 : Int) ≤ 0 ∧ (0 : Int) ≤ 0 ∧ (0 : Int) ≤ 24 by decide)
  · rcases h0 i hi with rfl | rfl
    · exact rb_1 _ 0 15 _ _ (.loop _ _ _ _ _ _ _ _ (re_con _ _ _ _) (rb_2 _ _ _ _ _ _ _
        (.other _ 6 _ _ _ _ _ _ (by decide) (by decide) (RE.mk _ 29 1#64 [] (fun _ => 0) (.call (P := ieP a en) (i := 0) 1#64 [] (by decide) (show 1 < 2 by decide) rfl) (by decide) (fun j hj => absurd hj (by simp))))
        (.store _ _ _ _ _ _ _ _ (re_con _ _ _ _) (re_con _ _ _ _))))
    · have hb := rb_3 (ieP a en) 1 15 _ _ _ _ _ _ (.store _ 0 (cE a) (cE 9#64) [] [] _ _ (re_con _ _ _ _) (re_con _ _ _ _)) (.branch _ 0 (cE 1#64) e0 [en] [] _ _ _ (re_con _ _ _ _) (rb_1 _ _ _ _ _ h) (rb_0 _ _ _)) (.store _ 0 (cE a) (cE 7#64) [] [] _ _ (re_con _ _ _ _) (re_con _ _ _ _))
      have e : 3 + ((1 + 1 + c + 0) + 3) = 8 + c := by omega
      exact e ▸ hb
  · show 7 + ((8 + c) + 0) ≤ 6000
    omega

theorem urem_lt (a : BitVec 64) (n : Nat) (h0 : 0 < n) (h : n < 18446744073709551616) : (a % BitVec.ofNat 64 n).toNat < n := by
  rw [BitVec.toNat_umod, BitVec.toNat_ofNat, Nat.mod_eq_of_lt h]
  exact Nat.mod_lt _ h0

theorem runs_IrEnds {M : Seat} (ok : OkJ M) (k17 : chkF M 17 f17 = true) (exit at_ : BitVec 64) (wrong : Bool) : Runs M 17 [W exit, W at_, .bool wrong] [] 0 (fun r H' k' => r = .bool true ∧ H' = [] ∧ k' = 0) := by
  refine runs_fr k17 rfl fun x hx => ?_
  have ha : at_ % 2048#64 < 2048#64 := urem_lt at_ 2048 (by decide) (by decide)
  have hb : (at_ % 1000#64).toNat < 1000 := urem_lt at_ 1000 (by decide) (by decide)
  have hy : ¬ 2048#64 + at_ % 1000#64 < 2048#64 := by
    rw [BitVec.lt_def, BitVec.toNat_add]
    show ¬ (2048 + (at_ % 1000#64).toNat) % 18446744073709551616 < 2048
    omega
  have hal : (at_ % 2048#64).toNat < 2048 := ha
  generalize hg : at_ % 2048#64 = a at *
  generalize hz : 2048#64 + at_ % 1000#64 = y at *
  cases wrong
  case false =>
    obtain ⟨q, hq, f1, f2, f3, f4⟩ := ie_run1 exit a ha
    have hE := runs_eval ok ap2 (ap2_ok ok.k215) _ _ (ie_right a (.mk 7 0 (cE exit) e0 [] []) 2 (by decide) (.other _ 7 _ _ _ _ _ _ (by decide) (by decide) (re_con _ _ _ _))) 20 q _ _ hq f1
    simp only [resJ, f2] at hE
    have f5 : ((5 : Int) < ((endS q.s q.v).used : Int)) = True := eq_true (by omega)
    generalize endS q.s q.v = sE at *
    refine ex_sound 2000 _ _ _ _ ?_; (simp (maxSteps := 4000000) only [f17, c17, LZ, seval, reduceCtorEq, forall_const])
    refine call_pZ (runs_constant ok exit) ?_
    (simp (maxSteps := 4000000) only [hg, LZ, seval, reduceCtorEq, forall_const])
    refine opd_pZ (runs_constant ok 1#64) ?_
    (simp (maxSteps := 4000000) only [LZ, seval, reduceCtorEq, forall_const])
    refine opd_pZ (runs_constant ok a) ?_
    (simp (maxSteps := 4000000) only [LZ, seval, reduceCtorEq, forall_const])
    refine opd_pZ (runs_constant ok 8#64) ?_
    (simp (maxSteps := 4000000) only [LZ, seval, reduceCtorEq, forall_const])
    refine opd_pZ (runs_constant ok a) ?_
    (simp (maxSteps := 4000000) only [LZ, seval, reduceCtorEq, forall_const])
    refine opd_pZ (runs_constant ok 9#64) ?_
    (simp (maxSteps := 4000000) only [LZ, seval, reduceCtorEq, forall_const])
    refine opd_pZ (runs_constant ok 1#64) ?_
    (simp (maxSteps := 4000000) only [LZ, seval, reduceCtorEq, forall_const])
    refine opd_pZ (runs_constant ok a) ?_
    (simp (maxSteps := 4000000) only [LZ, seval, reduceCtorEq, forall_const])
    refine opd_pZ (runs_constant ok 7#64) ?_
    (simp (maxSteps := 4000000) only [Nat.zero_testBit, List.map_nil, List.map_cons, List.nil_append, LZ, seval, reduceCtorEq, forall_const])
    repeat (refine And.intro (by first | omega | exact True.intro | rfl) ?_)
    refine call_fA (hE) (by decide) (by ((try simp only [ieP, fuL, fuF, fuV, stL, stF, stV, exL, exF, exV, List.length_cons, List.length_nil, Nat.reduceAdd, Nat.zero_add, bl1, bl2, bl3, nim_memI, LY, seval, reduceCtorEq, implies_true]); first | done | exact True.intro | rfl)) (by simp only [ieP, fuL, fuF, fuV, stL, stF, stV, exL, exF, exV, List.length_cons, List.length_nil, Nat.reduceAdd, Nat.zero_add, bl1, bl2, bl3, nim_memI, LX, implies_true]) (by simp only [ieP, fuL, fuF, fuV, stL, stF, stV, exL, exF, exV, List.length_cons, List.length_nil, Nat.reduceAdd, Nat.zero_add, bl1, bl2, bl3, nim_memI, LX, implies_true]) ?_
    (simp (maxSteps := 4000000) only [tup2, ren_memI, LZ, seval, reduceCtorEq, forall_const])
    refine call_pZ (runs_fixed12 ok) ?_
    (simp (maxSteps := 4000000) only [memI, f3, hal, f5, LZ, seval, reduceCtorEq, forall_const])
    exact RetS.mkZ hx [] ⟨rfl, rfl, rfl⟩
  case true =>
    obtain ⟨q, hq, f1, f2, f3, f4⟩ := ie_run2 y a ha hy
    have hE := runs_eval ok ap2 (ap2_ok ok.k215) _ _ (ie_right a (.mk 6 0 (.mk 28 0#64 [cE y]) e0 [] []) 3 (by decide) (.other _ 6 _ _ _ _ _ _ (by decide) (by decide) (re_1 _ _ _ _ _ _ _ (.load _ _) (re_con _ _ _ _)))) 20 q _ _ hq f1
    simp only [resJ, f2] at hE
    have f5 : ((5 : Int) < ((endS q.s q.v).used : Int)) = True := eq_true (by omega)
    generalize endS q.s q.v = sE at *
    refine ex_sound 2000 _ _ _ _ ?_; (simp (maxSteps := 4000000) only [f17, c17, LZ, seval, reduceCtorEq, forall_const])
    refine call_pZ (runs_constant ok exit) ?_
    (simp (maxSteps := 4000000) only [hz, LZ, seval, reduceCtorEq, forall_const])
    refine call_pZ (runs_constant ok y) ?_
    (simp (maxSteps := 4000000) only [LZ, seval, reduceCtorEq, forall_const])
    refine call_mB [176] [] (runs_op ok 28 1) (by rfl) (by rfl) (by decide) (by rfl) (by rfl) (by ((try simp only [LY, seval, reduceCtorEq, implies_true]); first | done | exact True.intro | rfl)) (by ((try simp only [LY, seval, reduceCtorEq, implies_true]); first | done | exact True.intro | rfl)) (by simp only [LX, implies_true]) (by simp only [LX, implies_true]) ?_
    (simp (maxSteps := 4000000) only [hg, LZ, seval, reduceCtorEq, forall_const])
    refine opd_pZ (runs_constant ok 1#64) ?_
    (simp (maxSteps := 4000000) only [LZ, seval, reduceCtorEq, forall_const])
    refine opd_pZ (runs_constant ok a) ?_
    (simp (maxSteps := 4000000) only [LZ, seval, reduceCtorEq, forall_const])
    refine opd_pZ (runs_constant ok 8#64) ?_
    (simp (maxSteps := 4000000) only [LZ, seval, reduceCtorEq, forall_const])
    refine opd_pZ (runs_constant ok a) ?_
    (simp (maxSteps := 4000000) only [LZ, seval, reduceCtorEq, forall_const])
    refine opd_pZ (runs_constant ok 9#64) ?_
    (simp (maxSteps := 4000000) only [LZ, seval, reduceCtorEq, forall_const])
    refine opd_pZ (runs_constant ok 1#64) ?_
    (simp (maxSteps := 4000000) only [LZ, seval, reduceCtorEq, forall_const])
    refine opd_pZ (runs_constant ok a) ?_
    (simp (maxSteps := 4000000) only [LZ, seval, reduceCtorEq, forall_const])
    refine opd_pZ (runs_constant ok 7#64) ?_
    (simp (maxSteps := 4000000) only [Nat.zero_testBit, List.map_nil, List.map_cons, List.nil_append, LZ, seval, reduceCtorEq, forall_const])
    repeat (refine And.intro (by first | omega | exact True.intro | rfl) ?_)
    refine call_fA (hE) (by decide) (by ((try simp only [ieP, fuL, fuF, fuV, stL, stF, stV, exL, exF, exV, List.length_cons, List.length_nil, Nat.reduceAdd, Nat.zero_add, bl1, bl2, bl3, nim_memI, LY, seval, reduceCtorEq, implies_true]); first | done | exact True.intro | rfl)) (by simp only [ieP, fuL, fuF, fuV, stL, stF, stV, exL, exF, exV, List.length_cons, List.length_nil, Nat.reduceAdd, Nat.zero_add, bl1, bl2, bl3, nim_memI, LX, implies_true]) (by simp only [ieP, fuL, fuF, fuV, stL, stF, stV, exL, exF, exV, List.length_cons, List.length_nil, Nat.reduceAdd, Nat.zero_add, bl1, bl2, bl3, nim_memI, LX, implies_true]) ?_
    (simp (maxSteps := 4000000) only [tup2, ren_memI, LZ, seval, reduceCtorEq, forall_const])
    refine call_pZ (runs_fixed12 ok) ?_
    (simp (maxSteps := 4000000) only [memI, f3, hal, f5, LZ, seval, reduceCtorEq, forall_const])
    exact RetS.mkZ hx [] ⟨rfl, rfl, rfl⟩
end Mv
