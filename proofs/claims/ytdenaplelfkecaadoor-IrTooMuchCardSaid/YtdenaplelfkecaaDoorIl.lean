/- IrTooMuch. -/
import Derived.Test.YtdenaplelfkecaaDoorT
import Derived.Test.YtdenaplelfkecaaDoorW1
import Derived.Test.YtdenaplelfkecaaDoorIj
set_option linter.unusedSimpArgs false
set_option linter.unusedVariables false
namespace Mv
open Go
/-- moot/mootlaw12.IrTooMuch -/
def c19 : LC := (.seq (.reg [A1 4 (.mv (.c (.bool false)))])
 ((.seq (.reg [⟨(some 14), .call 84 [(.c (.int .u64 1))], none⟩,
  A1 15 (.build (.st (.cons (.int .i64) (.cons (.int .i64) (.cons (.st (.cons (.int .i64) (.cons (.int .u64) (.cons .slice .nil)))) (.cons (.st (.cons (.int .i64) (.cons (.int .u64) (.cons .slice .nil)))) (.cons .slice (.cons .slice .nil))))))) [(.f 0, 1, (.c (.int .i64 4))), (.f 2, 3, (.t 14))]),
  A1 16 (.bsl 10 1 (.st (.cons (.int .i64) (.cons (.int .i64) (.cons (.st (.cons (.int .i64) (.cons (.int .u64) (.cons .slice .nil)))) (.cons (.st (.cons (.int .i64) (.cons (.int .u64) (.cons .slice .nil)))) (.cons .slice (.cons .slice .nil))))))) [(.i 10 0, 10, (.t 15))]),
  A1 17 (.build (.st (.cons (.int .i64) (.cons (.int .i64) (.cons .slice .nil)))) [(.f 2, 1, (.t 16))]),
  A1 18 (.bsl 3 1 (.st (.cons (.int .i64) (.cons (.int .i64) (.cons .slice .nil)))) [(.i 3 0, 3, (.t 17))]),
  A1 5 (.mv (.t 18))])
 ((.seq (.reg [⟨(some 20), .call 73 [(.c .nils)], none⟩,
  A1 19 (.mv (.t 20)),
  A1 21 (.ext (.t 19) 0),
  A1 22 (.ext (.t 19) 1),
  A1 6 (.mv (.t 21)),
  A1 7 (.mv (.t 22))])
 ((.seq (.reg [A1 23 (.mv (.t 0)),
  A1 24 (.conv .u64 (.t 23)),
  A1 25 (.ari .rem (.t 24) (.c (.int .u64 5000))),
  A1 26 (.conv .i64 (.t 25)),
  A1 0 (.mv (.t 26))])
 ((.seq (.reg [A1 28 (.mv (.t 5)),
  A1 29 (.mv (.t 6)),
  A1 30 (.mv (.t 0)),
  ⟨(some 31), .call 94 [(.t 28), (.c .nils), (.t 29), (.t 30)], none⟩,
  A1 27 (.mv (.t 31)),
  A1 32 (.ext (.t 27) 0),
  A1 33 (.ext (.t 27) 1),
  A1 8 (.alloc (.st (.cons (.int .u64) (.cons .slice (.cons (.int .i64) .nil))))),
  A0 (.store 3 (.t 8) (.t 32)),
  A1 9 (.mv (.t 33))])
 ((.seq (.reg [A1 35 (.mv (.t 5)),
  A1 36 (.mv (.t 1)),
  A1 37 (.conv .u64 (.t 36)),
  A1 38 (.ari .rem (.t 37) (.c (.int .u64 50))),
  A1 39 (.conv .i64 (.t 38)),
  A1 40 (.ari .add (.c (.int .i64 2049)) (.t 39)),
  A1 41 (.mksl 1 8 (.int .u64) (.t 40) (.t 40)),
  A1 42 (.mv (.t 6)),
  A1 43 (.mv (.t 0)),
  ⟨(some 44), .call 94 [(.t 35), (.t 41), (.t 42), (.t 43)], none⟩,
  A1 34 (.mv (.t 44)),
  A1 45 (.ext (.t 34) 0),
  A1 46 (.ext (.t 34) 1),
  A1 10 (.alloc (.st (.cons (.int .u64) (.cons .slice (.cons (.int .i64) .nil))))),
  A0 (.store 3 (.t 10) (.t 45)),
  A1 11 (.mv (.t 46))])
 ((.seq (.reg [A1 48 (.mv (.t 5)),
  A1 49 (.mv (.t 6)),
  A1 50 (.mv (.t 0)),
  A1 51 (.ari .sub (.c (.int .i64 (-1))) (.t 50)),
  ⟨(some 52), .call 94 [(.t 48), (.c .nils), (.t 49), (.t 51)], none⟩,
  A1 47 (.mv (.t 52)),
  A1 53 (.ext (.t 47) 0),
  A1 54 (.ext (.t 47) 1),
  A1 12 (.alloc (.st (.cons (.int .u64) (.cons .slice (.cons (.int .i64) .nil))))),
  A0 (.store 3 (.t 12) (.t 53)),
  A1 13 (.mv (.t 54))])
 ((.seq (.reg [⟨(some 55), .call 88 [], none⟩,
  A1 56 (.mv (.t 55)),
  A2 57 56 true (.mv (.t 9)),
  A2 58 56 true (.mkif 74 (.c (.int .i64 30))),
  ⟨(some 59), .call 63 [(.t 57), (.t 58)], (some (56, true))⟩,
  A1 60 (.pick (.t 56) (.t 59) (.c (.bool false))),
  A1 61 (.mv (.t 60)),
  A2 62 61 true (.fadr 0 (.t 8)),
  A2 63 61 true (.load false 1 (.t 62)),
  A2 64 61 true (.ari .eql (.t 63) (.c (.int .u64 0))),
  A1 65 (.pick (.t 61) (.t 64) (.c (.bool false))),
  A1 66 (.mv (.t 65)),
  A2 67 66 true (.fadr 1 (.t 8)),
  A2 68 66 true (.load false 1 (.t 67)),
  A2 69 66 true (.len 0 (.t 68)),
  A2 70 66 true (.ari .eql (.t 69) (.c (.int .i64 0))),
  A1 71 (.pick (.t 66) (.t 70) (.c (.bool false))),
  A1 72 (.mv (.t 71)),
  A2 73 72 true (.fadr 2 (.t 8)),
  A2 74 72 true (.load false 1 (.t 73)),
  A2 75 72 true (.ari .eql (.t 74) (.c (.int .i64 0))),
  A1 76 (.pick (.t 72) (.t 75) (.c (.bool false))),
  A1 77 (.mv (.t 76)),
  A2 78 77 true (.mv (.t 11)),
  A2 79 77 true (.mkif 74 (.c (.int .i64 5))),
  ⟨(some 80), .call 63 [(.t 78), (.t 79)], (some (77, true))⟩,
  A1 81 (.pick (.t 77) (.t 80) (.c (.bool false))),
  A1 82 (.mv (.t 81)),
  A2 83 82 true (.mv (.t 13)),
  A2 84 82 true (.mkif 74 (.c (.int .i64 2))),
  ⟨(some 85), .call 63 [(.t 83), (.t 84)], (some (82, true))⟩,
  A1 86 (.pick (.t 82) (.t 85) (.c (.bool false))),
  A1 4 (.mv (.t 86))])
 (.ret))))))))))))))))
def f19 : LF := ⟨c19, 2, 0, 87, [.tmp 4]⟩

end Mv
namespace Mv
open Go
set_option maxRecDepth 20000
set_option maxHeartbeats 4000000
set_option linter.unusedSimpArgs false

def tmP : List Fu := [⟨0, 0, [.mk 4 0 (cE 1#64) e0 [] []]⟩]
theorem tmP_right : RgP tmP (fun _ => 2) := by
  refine ⟨by simp [tmP], by decide, fun i hi => ?_, rfl, fun i hi => ?_, by decide⟩
  · have : i = 0 := by simp [tmP] at hi; omega
    subst this
    exact ⟨by decide, by decide, by decide⟩
  · have : i = 0 := by simp [tmP] at hi; omega
    subst this
    exact rb_1 tmP 0 15 _ _ (.loop _ _ _ _ _ _ _ _ (re_con _ _ _ _) (rb_0 _ _ _))

abbrev ApT := Int → BitVec 64 → BitVec 64 → BitVec 64 → Option (BitVec 64)
theorem ev_con (ap : ApT) (P : List Fu) (k : Nat) (s : IrS) (L : Nat → BitVec 64) (nl : Nat) (n : BitVec 64) : ev ap P (k + 1) (.e (cE n)) s L nl = some ⟨if burnB s then n else 0#64, false, burn s, L⟩ := by
  simp only [ev, if_true]
  cases burnB s <;> rfl
theorem ev_nil (ap : ApT) (P : List Fu) (k : Nat) (s : IrS) (L : Nat → BitVec 64) (nl : Nat) : ev ap P (k + 1) (.b []) s L nl = some ⟨0#64, false, s, L⟩ := rfl
theorem ev_l (ap : ApT) (P : List Fu) (k : Nat) (s : IrS) (L : Nat → BitVec 64) (nl : Nat) (kind n : Int) (a b : Ex) (body els : List IrSt) : ev ap P (k + 1) (.l (.mk kind n a b body els)) s L nl =
    if burnB s = false then some ⟨0#64, true, burn s, L⟩
    else match ev ap P k (.e a) (burn s) L nl with
      | none => none
      | some q =>
        if q.s.over then some ⟨0#64, true, q.s, L⟩
        else if q.v = 0#64 then some ⟨0#64, false, q.s, L⟩
        else match ev ap P k (.b body) q.s L nl with
          | none => none
          | some p => if p.back then some ⟨p.v, true, p.s, p.L⟩ else ev ap P k (.l (.mk kind n a b body els)) p.s p.L nl := rfl
theorem burn_go {s : IrS} (h : s.over = false) (hu : s.used < s.fuel) : burnB s = true ∧ burn s = { s with used := s.used + 1 } := by
  refine ⟨?_, ?_⟩
  · simp [burnB, h]; omega
  · rw [burn, h, if_neg (by decide), if_neg (by omega)]
theorem burn_out {s : IrS} (h : s.over = false) (hu : s.used = s.fuel) : burnB s = false ∧ burn s = { s with over := true, out := true } := by
  refine ⟨?_, ?_⟩
  · simp [burnB, hu]
  · rw [burn, h, if_neg (by decide), if_pos hu]
theorem ev_s4 (ap : ApT) (P : List Fu) (k : Nat) (s : IrS) (L : Nat → BitVec 64) (nl : Nat) (n : Int) (a b : Ex) (body els : List IrSt) : ev ap P (k + 1) (.s (.mk 4 n a b body els)) s L nl = ev ap P k (.l (.mk 4 n a b body els)) s L nl := by
  conv => lhs; rw [ev]
  rw [if_pos rfl]
theorem ev_b1 (ap : ApT) (P : List Fu) (k : Nat) (s : IrS) (L : Nat → BitVec 64) (nl : Nat) (x : IrSt) : ev ap P (k + 1) (.b [x]) s L nl = (match ev ap P k (.s x) s L nl with
    | some q => if q.back || q.s.over then some ⟨q.v, true, q.s, q.L⟩ else some ⟨0#64, false, q.s, q.L⟩
    | none => none) := by
  conv => lhs; rw [ev]
  rw [if_neg (by simp)]
  rfl
theorem ev_c (ap : ApT) (P : List Fu) (k : Nat) (i : Nat) (as : List (BitVec 64)) (s : IrS) (L : Nat → BitVec 64) (nl : Nat) (f : Fu) (h : P[i]? = some f) (hl : 0 ≤ f.locals ∧ f.locals < 1000) : ev ap P (k + 1) (.c i as) s L nl =
    (match ev ap P k (.b f.body) s (fun j => if j < f.locals.toNat then as.getD j 0#64 else 0#64) f.locals.toNat with
      | none => none
      | some q => some ⟨q.v, false, q.s, L⟩) := by
  conv => lhs; rw [ev]
  rw [h]
  simp only [if_pos hl]
  rfl
theorem tm_loop (ap : Int → BitVec 64 → BitVec 64 → BitVec 64 → Option (BitVec 64)) (P : List Fu) (L : Nat → BitVec 64) (nl : Nat) : ∀ (n k : Nat) (s : IrS), s.over = false → s.used ≤ s.fuel → s.fuel - s.used ≤ n → n + 3 ≤ k →
    ∃ q, ev ap P k (.l (.mk 4 0 (cE 1#64) e0 [] [])) s L nl = some q ∧ q.s.over = true ∧ q.s.out = true ∧ q.back = true := by
  intro n
  induction n with
  | zero =>
    intro k s h1 h2 h3 h4
    obtain ⟨k, rfl⟩ : ∃ j, k = j + 1 := ⟨k - 1, by omega⟩
    obtain ⟨hb, hc⟩ := burn_out h1 (by omega : s.used = s.fuel)
    exact ⟨⟨0#64, true, burn s, L⟩, by rw [ev_l, if_pos hb], by rw [hc], by rw [hc], rfl⟩
  | succ n ih =>
    intro k s h1 h2 h3 h4
    by_cases hu : s.used = s.fuel
    · obtain ⟨k, rfl⟩ : ∃ j, k = j + 1 := ⟨k - 1, by omega⟩
      obtain ⟨hb, hc⟩ := burn_out h1 hu
      exact ⟨⟨0#64, true, burn s, L⟩, by rw [ev_l, if_pos hb], by rw [hc], by rw [hc], rfl⟩
    obtain ⟨k, rfl⟩ : ∃ j, k = j + 1 + 1 := ⟨k - 2, by omega⟩
    obtain ⟨hb, hc⟩ := burn_go h1 (by omega : s.used < s.fuel)
    generalize hs1 : burn s = s1 at *
    have o1 : s1.over = false := by rw [hc]; exact h1
    have f1 : s1.fuel = s.fuel := by rw [hc]
    have u1 : s1.used = s.used + 1 := by rw [hc]
    by_cases hv : s1.used = s1.fuel
    · obtain ⟨hb2, hc2⟩ := burn_out o1 hv
      refine ⟨⟨0#64, true, burn s1, L⟩, ?_, by rw [hc2], by rw [hc2], rfl⟩
      rw [ev_l, if_neg (by rw [hb]; decide), hs1, ev_con]
      show (if (burn s1).over = true then _ else _) = _
      rw [if_pos (by rw [hc2])]
    · obtain ⟨hb2, hc2⟩ := burn_go o1 (by omega : s1.used < s1.fuel)
      obtain ⟨q, hq, hr⟩ := ih (k + 1) (burn s1) (by rw [hc2]; exact o1) (by rw [hc2]; show s1.used + 1 ≤ s1.fuel; omega) (by rw [hc2]; show s1.fuel - (s1.used + 1) ≤ n; omega) (by omega)
      refine ⟨q, ?_, hr⟩
      rw [← hq, ev_l, if_neg (by rw [hb]; decide), hs1, ev_con]
      show (if (burn s1).over = true then _ else _) = _
      rw [if_neg (by rw [hc2]; simp [o1]), if_neg (by simp only [hb2, if_true]; decide), ev_nil]
      rfl

theorem tm_runs (fuel : Nat) : ∃ q, ev ap2 tmP (fuel + 10 + 1) (.c 0 []) (s0I fuel) (fun _ => 0#64) 0 = some q ∧ (endS q.s q.v).out = true := by
  obtain ⟨q, hq, h1, h2, h3⟩ := tm_loop ap2 tmP (fun _ => 0#64) 0 fuel (fuel + 8) (s0I fuel) rfl (Nat.zero_le _) (Nat.le_refl _) (by omega)
  refine ⟨Rs.mk q.v false q.s (fun _ => 0#64), ?_, by simp [endS, h1, h2]⟩
  have hz : (fun j => if j < (0 : Int).toNat then ([] : List (BitVec 64)).getD j 0#64 else 0#64) = fun _ => 0#64 := by funext j; simp
  have e2 : ev ap2 tmP (fuel + 10) (.b [.mk 4 0 (cE 1#64) e0 [] []]) (s0I fuel) (fun _ => 0#64) 0 = some ⟨q.v, true, q.s, q.L⟩ := by
    rw [ev_b1, ev_s4, hq]
    simp only [h3, Bool.true_or, if_true]
  rw [ev_c ap2 tmP (fuel + 10) 0 [] (s0I fuel) (fun _ => 0#64) 0 ⟨0, 0, [.mk 4 0 (cE 1#64) e0 [] []]⟩ rfl (show (0 : Int) ≤ 0 ∧ (0 : Int) < 1000 by decide)]
  simp only [hz]
  show (match ev ap2 tmP (fuel + 10) (.b [.mk 4 0 (cE 1#64) e0 [] []]) (s0I fuel) (fun _ => 0#64) 0 with | none => none | some q => some (Rs.mk q.v false q.s (fun _ => 0#64))) = _
  rw [e2]

def m5k (n : Int) : Nat := (BitVec.ofInt 64 n % 5000#64).toNat
theorem m5k_lt (n : Int) : m5k n < 5000 := by rw [m5k, BitVec.toNat_umod]; exact Nat.mod_lt _ (by decide)
theorem m5k_int (n : Int) : (BitVec.ofInt 64 n % 5000#64).toInt = (m5k n : Int) := by
  have := m5k_lt n
  rw [BitVec.toInt_eq_toNat_cond, if_pos (by unfold m5k at this; omega)]; rfl
def m50 (n : Int) : Nat := (BitVec.ofInt 64 n % 50#64).toNat
theorem m50_lt (n : Int) : m50 n < 50 := by rw [m50, BitVec.toNat_umod]; exact Nat.mod_lt _ (by decide)
theorem m50_int (n : Int) : (BitVec.ofInt 64 n % 50#64).toInt = (m50 n : Int) := by
  have := m50_lt n
  rw [BitVec.toInt_eq_toNat_cond, if_pos (by unfold m50 at this; omega)]; rfl

theorem runs_IrTooMuch {M : Seat} (ok : OkJ M) (k19 : chkF M 19 f19 = true) (fuel size : Int) : Runs M 19 [.int .i64 fuel, .int .i64 size] [] 0 (fun r H' k' => r = .bool true ∧ H' = [] ∧ k' = 0) := by
  refine runs_fr k19 rfl fun x hx => ?_
  obtain ⟨q, hq, ho⟩ := tm_runs (m5k fuel)
  have h5 := m5k_lt fuel
  have h50 := m50_lt size
  have hE1 := runs_EvalOut ok.toOkEv ap2 (ap2_ok ok.k215) tmP _ tmP_right (m5k fuel) (m5k fuel + 10) (by omega) q _ _ hq ho
  have hE2 := runs_EvalFull ok.toOkEv tmP _ tmP_right (m5k fuel) (2049 + m50 size) (by omega) (fun _ => W 0#64)
  have hE3 := runs_EvalNeg ok.toOkEv tmP _ tmP_right (-1 - (m5k fuel : Int)) (by omega)
  have w1 : IntKind.i64.wrap (2049 + (m50 size : Int)) = ((2049 + m50 size : Nat) : Int) := by rw [wrap_i64 (by omega)]; omega
  have w2 : IntKind.i64.wrap (-1 - (m5k fuel : Int)) = -1 - (m5k fuel : Int) := by rw [wrap_i64 (by omega)]
  refine ex_sound 2000 _ _ _ _ ?_; (simp (maxSteps := 4000000) only [f19, c19, LZ, seval, reduceCtorEq, forall_const])
  refine call_pZ (runs_constant ok 1#64) ?_
  (simp (maxSteps := 4000000) only [LZ, seval, reduceCtorEq, forall_const])
  refine call_fA (runs_StoresN ok.okA ok.okS ok.okB ok.okR) (by decide) (by ((try simp only [tup2, stoH', stoV, kinV, rs5, rstV, dg, LMS, NoIm_seen, List.cons_append, List.nil_append, LY, seval, reduceCtorEq, implies_true]); first | done | exact True.intro | rfl)) (by simp only [tup2, stoH', stoV, kinV, rs5, rstV, dg, LMS, NoIm_seen, List.cons_append, List.nil_append, LX, implies_true]) (by simp only [tup2, stoH', stoV, kinV, rs5, rstV, dg, LMS, NoIm_seen, List.cons_append, List.nil_append, LX, implies_true]) ?_
  (simp (maxSteps := 4000000) only [tup2, stoH', stoV, kinV, rs5, rstV, dg, List.cons_append, List.nil_append, ren_seen, LM, m5k_int, LZ, seval, reduceCtorEq, forall_const])
  refine call_mB [112] [] (hE1) (by rfl) (by rfl) (by decide) (by rfl) (by rfl) (by ((try simp only [tmP, fuL, fuF, fuV, stL, stF, stV, exL, exF, exV, List.length_cons, List.length_nil, Nat.reduceAdd, Nat.zero_add, bl1, bl2, bl3, rsI0, LY, seval, reduceCtorEq, implies_true]); first | done | exact True.intro | rfl)) (by ((try simp only [tmP, fuL, fuF, fuV, stL, stF, stV, exL, exF, exV, List.length_cons, List.length_nil, Nat.reduceAdd, Nat.zero_add, bl1, bl2, bl3, rsI0, LY, seval, reduceCtorEq, implies_true]); first | done | exact True.intro | rfl)) (by simp only [tmP, fuL, fuF, fuV, stL, stF, stV, exL, exF, exV, List.length_cons, List.length_nil, Nat.reduceAdd, Nat.zero_add, bl1, bl2, bl3, rsI0, LX, implies_true]) (by simp only [tmP, fuL, fuF, fuV, stL, stF, stV, exL, exF, exV, List.length_cons, List.length_nil, Nat.reduceAdd, Nat.zero_add, bl1, bl2, bl3, rsI0, LX, implies_true]) ?_
  (simp (maxSteps := 4000000) only [tup2, rsI0, m50_int, w1, LZ, seval, reduceCtorEq, forall_const])
  repeat (refine And.intro (by first | omega | exact True.intro | rfl) ?_)
  refine call_mB [112] [] (hE2) (by rfl) (by rfl) (by decide) (by rfl) (by rfl) (by ((try simp only [tmP, fuL, fuF, fuV, stL, stF, stV, exL, exF, exV, List.length_cons, List.length_nil, Nat.reduceAdd, Nat.zero_add, bl1, bl2, bl3, rsI0, LY, seval, reduceCtorEq, implies_true]); first | done | exact True.intro | rfl)) (by ((try simp only [tmP, fuL, fuF, fuV, stL, stF, stV, exL, exF, exV, List.length_cons, List.length_nil, Nat.reduceAdd, Nat.zero_add, bl1, bl2, bl3, rsI0, LY, seval, reduceCtorEq, implies_true]); first | done | exact True.intro | rfl)) (by simp only [tmP, fuL, fuF, fuV, stL, stF, stV, exL, exF, exV, List.length_cons, List.length_nil, Nat.reduceAdd, Nat.zero_add, bl1, bl2, bl3, rsI0, LX, implies_true]) (by simp only [tmP, fuL, fuF, fuV, stL, stF, stV, exL, exF, exV, List.length_cons, List.length_nil, Nat.reduceAdd, Nat.zero_add, bl1, bl2, bl3, rsI0, LX, implies_true]) ?_
  (simp (maxSteps := 4000000) only [tup2, rsI0, w2, LZ, seval, reduceCtorEq, forall_const])
  refine call_mB [112] [] (hE3) (by rfl) (by rfl) (by decide) (by rfl) (by rfl) (by ((try simp only [tmP, fuL, fuF, fuV, stL, stF, stV, exL, exF, exV, List.length_cons, List.length_nil, Nat.reduceAdd, Nat.zero_add, bl1, bl2, bl3, rsI0, LY, seval, reduceCtorEq, implies_true]); first | done | exact True.intro | rfl)) (by ((try simp only [tmP, fuL, fuF, fuV, stL, stF, stV, exL, exF, exV, List.length_cons, List.length_nil, Nat.reduceAdd, Nat.zero_add, bl1, bl2, bl3, rsI0, LY, seval, reduceCtorEq, implies_true]); first | done | exact True.intro | rfl)) (by simp only [tmP, fuL, fuF, fuV, stL, stF, stV, exL, exF, exV, List.length_cons, List.length_nil, Nat.reduceAdd, Nat.zero_add, bl1, bl2, bl3, rsI0, LX, implies_true]) (by simp only [tmP, fuL, fuF, fuV, stL, stF, stV, exL, exF, exV, List.length_cons, List.length_nil, Nat.reduceAdd, Nat.zero_add, bl1, bl2, bl3, rsI0, LX, implies_true]) ?_
  (simp (maxSteps := 4000000) only [tup2, rsI0, LZ, seval, reduceCtorEq, forall_const])
  refine call_pZ (runs_fixed12 ok) ?_
  (simp (maxSteps := 4000000) only [LZ, seval, reduceCtorEq, forall_const])
  refine call_pZ (ok.okIs.is 30 30) ?_
  (simp (maxSteps := 4000000) only [dEq, LZ, seval, reduceCtorEq, forall_const])
  refine call_pZ (ok.okIs.is 5 5) ?_
  (simp (maxSteps := 4000000) only [dEq, LZ, seval, reduceCtorEq, forall_const])
  refine call_pZ (ok.okIs.is 2 2) ?_
  (simp (maxSteps := 4000000) only [dEq, LZ, seval, reduceCtorEq, forall_const])
  exact RetS.mkZ hx [] ⟨rfl, rfl, rfl⟩
end Mv
