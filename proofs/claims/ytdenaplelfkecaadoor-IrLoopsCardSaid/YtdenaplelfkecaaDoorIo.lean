/- IrLoops. -/
import Derived.Test.YtdenaplelfkecaaDoorT
import Derived.Test.YtdenaplelfkecaaDoorW1
import Derived.Test.YtdenaplelfkecaaDoorIm
set_option linter.unusedSimpArgs false
set_option linter.unusedVariables false
namespace Mv
open Go
/-- moot/mootlaw12.IrLoops -/
def c15 : LC := (.seq (.reg [A1 4 (.mv (.c (.bool false)))])
 ((.seq (.reg [A1 8 (.mv (.t 0)),
  A1 9 (.ari .rem (.t 8) (.c (.int .u64 200))),
  A1 0 (.mv (.t 9))])
 ((.seq (.reg [A1 10 (.mv (.t 0)),
  ⟨(some 11), .call 84 [(.t 10)], none⟩,
  A1 12 (.build (.st (.cons (.int .i64) (.cons (.int .i64) (.cons (.st (.cons (.int .i64) (.cons (.int .u64) (.cons .slice .nil)))) (.cons (.st (.cons (.int .i64) (.cons (.int .u64) (.cons .slice .nil)))) (.cons .slice (.cons .slice .nil))))))) [(.f 0, 1, (.c (.int .i64 1))), (.f 1, 1, (.c (.int .i64 0))), (.f 2, 3, (.t 11))]),
  ⟨(some 13), .call 85 [(.c (.int .u64 0))], none⟩,
  ⟨(some 14), .call 85 [(.c (.int .u64 1))], none⟩,
  A1 15 (.mv (.t 1)),
  ⟨(some 16), .call 84 [(.t 15)], none⟩,
  A1 17 (.bsl 3 2 (.st (.cons (.int .i64) (.cons (.int .u64) (.cons .slice .nil)))) [(.i 3 0, 3, (.t 14)), (.i 3 1, 3, (.t 16))]),
  ⟨(some 18), .call 86 [(.c (.int .i64 1)), (.t 17)], none⟩,
  A1 19 (.build (.st (.cons (.int .i64) (.cons (.int .i64) (.cons (.st (.cons (.int .i64) (.cons (.int .u64) (.cons .slice .nil)))) (.cons (.st (.cons (.int .i64) (.cons (.int .u64) (.cons .slice .nil)))) (.cons .slice (.cons .slice .nil))))))) [(.f 0, 1, (.c (.int .i64 1))), (.f 1, 1, (.c (.int .i64 1))), (.f 2, 3, (.t 18))]),
  ⟨(some 20), .call 85 [(.c (.int .u64 0))], none⟩,
  ⟨(some 21), .call 84 [(.c (.int .u64 1))], none⟩,
  A1 22 (.bsl 3 2 (.st (.cons (.int .i64) (.cons (.int .u64) (.cons .slice .nil)))) [(.i 3 0, 3, (.t 20)), (.i 3 1, 3, (.t 21))]),
  ⟨(some 23), .call 86 [(.c (.int .i64 2)), (.t 22)], none⟩,
  A1 24 (.build (.st (.cons (.int .i64) (.cons (.int .i64) (.cons (.st (.cons (.int .i64) (.cons (.int .u64) (.cons .slice .nil)))) (.cons (.st (.cons (.int .i64) (.cons (.int .u64) (.cons .slice .nil)))) (.cons .slice (.cons .slice .nil))))))) [(.f 0, 1, (.c (.int .i64 1))), (.f 1, 1, (.c (.int .i64 0))), (.f 2, 3, (.t 23))]),
  A1 25 (.bsl 10 2 (.st (.cons (.int .i64) (.cons (.int .i64) (.cons (.st (.cons (.int .i64) (.cons (.int .u64) (.cons .slice .nil)))) (.cons (.st (.cons (.int .i64) (.cons (.int .u64) (.cons .slice .nil)))) (.cons .slice (.cons .slice .nil))))))) [(.i 10 0, 10, (.t 19)), (.i 10 1, 10, (.t 24))]),
  A1 26 (.build (.st (.cons (.int .i64) (.cons (.int .i64) (.cons (.st (.cons (.int .i64) (.cons (.int .u64) (.cons .slice .nil)))) (.cons (.st (.cons (.int .i64) (.cons (.int .u64) (.cons .slice .nil)))) (.cons .slice (.cons .slice .nil))))))) [(.f 0, 1, (.c (.int .i64 4))), (.f 2, 3, (.t 13)), (.f 8, 1, (.t 25))]),
  ⟨(some 27), .call 85 [(.c (.int .u64 1))], none⟩,
  A1 28 (.build (.st (.cons (.int .i64) (.cons (.int .i64) (.cons (.st (.cons (.int .i64) (.cons (.int .u64) (.cons .slice .nil)))) (.cons (.st (.cons (.int .i64) (.cons (.int .u64) (.cons .slice .nil)))) (.cons .slice (.cons .slice .nil))))))) [(.f 0, 1, (.c (.int .i64 5))), (.f 2, 3, (.t 27))]),
  A1 29 (.bsl 10 3 (.st (.cons (.int .i64) (.cons (.int .i64) (.cons (.st (.cons (.int .i64) (.cons (.int .u64) (.cons .slice .nil)))) (.cons (.st (.cons (.int .i64) (.cons (.int .u64) (.cons .slice .nil)))) (.cons .slice (.cons .slice .nil))))))) [(.i 10 0, 10, (.t 12)), (.i 10 1, 10, (.t 26)), (.i 10 2, 10, (.t 28))]),
  A1 30 (.build (.st (.cons (.int .i64) (.cons (.int .i64) (.cons .slice .nil)))) [(.f 1, 1, (.c (.int .i64 2))), (.f 2, 1, (.t 29))]),
  A1 31 (.bsl 3 1 (.st (.cons (.int .i64) (.cons (.int .i64) (.cons .slice .nil)))) [(.i 3 0, 3, (.t 30))]),
  A1 5 (.mv (.t 31))])
 ((.seq (.reg [A1 33 (.mv (.t 5)),
  ⟨(some 34), .call 87 [(.t 33), (.c .nils)], none⟩,
  A1 32 (.mv (.t 34)),
  A1 35 (.ext (.t 32) 0),
  A1 36 (.ext (.t 32) 1),
  A1 6 (.alloc (.st (.cons (.int .u64) (.cons .slice (.cons (.int .i64) .nil))))),
  A0 (.store 3 (.t 6) (.t 35)),
  A1 7 (.mv (.t 36))])
 ((.seq (.reg [⟨(some 37), .call 88 [], none⟩,
  A1 38 (.mv (.t 37)),
  A2 39 38 true (.mv (.t 7)),
  A2 40 38 true (.eq false true (.iface [74]) (.t 39) (.c .nili)),
  A1 41 (.pick (.t 38) (.t 40) (.c (.bool false))),
  A1 42 (.mv (.t 41)),
  A2 43 42 true (.fadr 0 (.t 6)),
  A2 44 42 true (.load false 1 (.t 43)),
  A2 45 42 true (.mv (.t 0)),
  A2 46 42 true (.mv (.t 1)),
  A2 47 42 true (.ari .mul (.t 45) (.t 46)),
  A2 48 42 true (.ari .eql (.t 44) (.t 47)),
  A1 49 (.pick (.t 42) (.t 48) (.c (.bool false))),
  A1 50 (.mv (.t 49)),
  A2 51 50 true (.fadr 2 (.t 6)),
  A2 52 50 true (.load false 1 (.t 51)),
  A2 53 50 true (.mv (.t 0)),
  A2 54 50 true (.conv .i64 (.t 53)),
  A2 55 50 true (.ari .mul (.t 54) (.c (.int .i64 10))),
  A2 56 50 true (.ari .add (.c (.int .i64 2)) (.t 55)),
  A2 57 50 true (.ari .add (.t 56) (.c (.int .i64 2))),
  A2 58 50 true (.ari .add (.t 57) (.c (.int .i64 2))),
  A2 59 50 true (.ari .eql (.t 52) (.t 58)),
  A1 60 (.pick (.t 50) (.t 59) (.c (.bool false))),
  A1 4 (.mv (.t 60))])
 (.ret))))))))))
def f15 : LF := ⟨c15, 2, 0, 61, [.tmp 4]⟩

end Mv
namespace Mv
open Go
set_option maxRecDepth 20000
set_option maxHeartbeats 4000000
set_option linter.unusedSimpArgs false

def stp (s : IrS) (n : Nat) : IrS := { s with used := s.used + n }
theorem stpB (s : IrS) (n : Nat) (h : s.over = false) (hu : s.used + n < s.fuel) : burnB (stp s n) = true := by simp [burnB, stp, h]; omega
theorem stpS (s : IrS) (n : Nat) (h : s.over = false) (hu : s.used + n < s.fuel) : burn (stp s n) = stp s (n + 1) := by
  rw [burn, if_neg (by simp [stp, h]), if_neg (by simp [stp]; omega)]; rfl
theorem stpO (s : IrS) (n : Nat) (h : s.over = false) : (stp s n).over = false := h

theorem stp_stp (s : IrS) (a b : Nat) : stp (stp s a) b = stp s (a + b) := by simp [stp, Nat.add_assoc]
def ilB (v : BitVec 64) : List IrSt := [.mk 1 1 (.mk 1 0#64 [lE 1#64, cE v]) e0 [] [], .mk 1 0 (.mk 2 0#64 [lE 0#64, cE 1#64]) e0 [] []]
def ilW (v : BitVec 64) : IrSt := .mk 4 0 (lE 0#64) e0 (ilB v) []
def ilP (n v : BitVec 64) : List Fu := [⟨0, 2, [.mk 1 0 (cE n) e0 [] [], ilW v, .mk 5 0 (lE 1#64) e0 [] []]⟩]

theorem il_body (P : List Fu) (v : BitVec 64) (s : IrS) (L : Nat → BitVec 64) (k : Nat) (ho : s.over = false) (hu : s.used + 10 < s.fuel) :
    ∃ L', ev ap2 P (k + 4) (.b (ilB v)) (stp s 2) L 2 = some ⟨0#64, false, stp s 10, L'⟩ ∧ L' 0 = L 0 - 1#64 ∧ L' 1 = L 1 + v := by
  refine ⟨fun j => if j = 0 then L 0 - 1#64 else if j = 1 then L 1 + v else L j, ?_, rfl, rfl⟩
  have b2 := stpB s 2 ho (by omega)
  have b3 := stpB s 3 ho (by omega)
  have b4 := stpB s 4 ho (by omega)
  have b5 := stpB s 5 ho (by omega)
  have b6 := stpB s 6 ho (by omega)
  have b7 := stpB s 7 ho (by omega)
  have b8 := stpB s 8 ho (by omega)
  have b9 := stpB s 9 ho (by omega)
  have c2 := stpS s 2 ho (by omega)
  have c3 := stpS s 3 ho (by omega)
  have c4 := stpS s 4 ho (by omega)
  have c5 := stpS s 5 ho (by omega)
  have c6 := stpS s 6 ho (by omega)
  have c7 := stpS s 7 ho (by omega)
  have c8 := stpS s 8 ho (by omega)
  have c9 := stpS s 9 ho (by omega)
  have o := fun n => stpO s n ho
  simp (config := {decide := true}) [ilB, ev, evAs, evB, b2, b3, b4, b5, b6, b7, b8, b9, c2, c3, c4, c5, c6, c7, c8, c9, o, ap2]

theorem il_loop (P : List Fu) (v : BitVec 64) : ∀ (i : Nat) (s : IrS) (L : Nat → BitVec 64) (k : Nat), i < 200 → s.over = false → s.used + 10 * i + 2 < s.fuel → L 0 = BitVec.ofNat 64 i →
    ∃ L', ev ap2 P (k + i + 6) (.l (ilW v)) s L 2 = some ⟨0#64, false, stp s (10 * i + 2), L'⟩ ∧ L' 1 = L 1 + BitVec.ofNat 64 i * v := by
  intro i
  induction i with
  | zero =>
    intro s L k hi ho hu h0
    refine ⟨L, ?_, by simp⟩
    have hs : s = stp s 0 := rfl
    rw [hs, ilW, ev_l, if_neg (by rw [stpB s 0 ho (by omega)]; decide), stpS s 0 ho (by omega), ev_loc _ _ _ _ _ _ _ (by decide), stpB s 1 ho (by omega), stpS s 1 ho (by omega)]
    simp only [if_true, stpO _ _ ho, Bool.false_eq_true, if_false, h0, show ((0#64 : BitVec 64).toNat) = 0 from rfl]
    rfl
  | succ i ih =>
    intro s L k hi ho hu h0
    have hs : s = stp s 0 := rfl
    have hne : ¬ (BitVec.ofNat 64 (i + 1) = 0#64) := by
      intro h
      have := congrArg BitVec.toNat h
      rw [BitVec.toNat_ofNat, Nat.mod_eq_of_lt (by omega)] at this
      simp at this
    have hsub : BitVec.ofNat 64 (i + 1) - 1#64 = BitVec.ofNat 64 i := by
      rw [BitVec.ofNat_add, BitVec.add_sub_cancel]
    obtain ⟨L1, hb, g0, g1⟩ := il_body P v s L (k + i + 2) ho (by omega)
    obtain ⟨L', h1, h2⟩ := ih (stp s 10) L1 k (by omega) ho (by show s.used + 10 + 10 * i + 2 < s.fuel; omega) (by rw [g0, h0, hsub])
    refine ⟨L', ?_, ?_⟩
    · have e : stp s (10 * (i + 1) + 2) = stp (stp s 10) (10 * i + 2) := by
        show { s with used := _ } = { s with used := _ }
        congr 1
        show s.used + (10 * (i + 1) + 2) = s.used + 10 + (10 * i + 2)
        omega
      rw [e, ← h1]
      have e2 : ev ap2 P (k + (i + 1) + 6) (.l (ilW v)) (stp s 0) L 2 = ev ap2 P (k + i + 5 + 1) (.l (ilW v)) (stp s 10) L1 2 := by
        rw [show k + (i + 1) + 6 = k + i + 5 + 1 + 1 by omega]
        show ev ap2 P (k + i + 5 + 1 + 1) (.l (.mk 4 0 (lE 0#64) e0 (ilB v) [])) (stp s 0) L 2 = _
        rw [ev_l ap2 P (k + i + 5 + 1), if_neg (by rw [stpB s 0 ho (by omega)]; decide), stpS s 0 ho (by omega), ev_loc _ _ _ _ _ _ _ (by decide), stpB s 1 ho (by omega), stpS s 1 ho (by omega)]
        simp only [if_true, stpO _ _ ho, Bool.false_eq_true, if_false, h0, show ((0#64 : BitVec 64).toNat) = 0 from rfl, if_neg hne]
        have hb' : ev ap2 P (k + i + 5 + 1) (.b (ilB v)) (stp s 2) L 2 = some ⟨0#64, false, stp s 10, L1⟩ := by rw [← hb]
        rw [hb']
        rfl
      exact e2
    · rw [h2, g1, BitVec.ofNat_add, BitVec.add_mul, BitVec.one_mul, BitVec.add_assoc, BitVec.add_comm v]

theorem il_run (n v : BitVec 64) (hn : n.toNat < 200) : ∃ q, ev ap2 (ilP n v) (299 + 1) (.c 0 []) (s0I 100000) (fun _ => 0#64) 0 = some q ∧ (endS q.s q.v).out = false ∧ (endS q.s q.v).exit = n * v ∧ (endS q.s q.v).used = 2 + n.toNat * 10 + 2 + 2 := by
  have hs0 : (s0I 100000).over = false := rfl
  obtain ⟨L', h1, h2⟩ := il_loop (ilP n v) v n.toNat (stp (s0I 100000) 2) (fun j => if j = 0 then n else 0#64) (297 - n.toNat - 6) hn rfl (by show 0 + 2 + 10 * n.toNat + 2 < 100000; omega) (by simp)
  rw [show 297 - n.toNat - 6 + n.toNat + 6 = 297 by omega] at h1
  have hu : ∀ j, (stp (s0I 100000) j).used = j := fun j => Nat.zero_add j
  have o := fun j => stpO (s0I 100000) j rfl
  have B := fun j (h : j < 100000) => stpB (s0I 100000) j rfl (by show 0 + j < 100000; omega)
  have C := fun j (h : j < 100000) => stpS (s0I 100000) j rfl (by show 0 + j < 100000; omega)
  have es1 : ev ap2 (ilP n v) 298 (.s (.mk 1 0 (cE n) e0 [] [])) (stp (s0I 100000) 0) (fun _ => 0#64) 2 = some ⟨0#64, false, stp (s0I 100000) 2, fun j => if j = 0 then n else 0#64⟩ := by
    simp (config := {decide := true}) [ev, B, C, o]
  have es2 : ev ap2 (ilP n v) 298 (.s (ilW v)) (stp (s0I 100000) 2) (fun j => if j = 0 then n else 0#64) 2 = some ⟨0#64, false, stp (s0I 100000) (10 * n.toNat + 4), L'⟩ := by
    show ev ap2 (ilP n v) 298 (.s (.mk 4 0 (lE 0#64) e0 (ilB v) [])) _ _ _ = _
    rw [ev_s4]
    show ev ap2 (ilP n v) 297 (.l (ilW v)) _ _ _ = _
    rw [h1]
    have : stp (stp (s0I 100000) 2) (10 * n.toNat + 2) = stp (s0I 100000) (10 * n.toNat + 4) := by
      rw [stp_stp]; congr 1; omega
    rw [this]
  have es3 : ev ap2 (ilP n v) 298 (.s (.mk 5 0 (lE 1#64) e0 [] [])) (stp (s0I 100000) (10 * n.toNat + 4)) L' 2 = some ⟨L' 1, true, stp (s0I 100000) (10 * n.toNat + 6), L'⟩ := by
    have b1 := B (10 * n.toNat + 4) (by omega)
    have c1 := C (10 * n.toNat + 4) (by omega)
    have b2 := B (10 * n.toNat + 5) (by omega)
    have c2 := C (10 * n.toNat + 5) (by omega)
    simp (config := {decide := true}) [ev, b1, c1, b2, c2, o]
  have eb : ev ap2 (ilP n v) 299 (.b [.mk 1 0 (cE n) e0 [] [], ilW v, .mk 5 0 (lE 1#64) e0 [] []]) (stp (s0I 100000) 0) (fun _ => 0#64) 2 = some ⟨L' 1, true, stp (s0I 100000) (10 * n.toNat + 6), L'⟩ := by
    show evB (fun x s L => ev ap2 (ilP n v) 298 (.s x) s L 2) _ _ _ = _
    simp only [evB, es1, es2, es3, o, Bool.false_or, Bool.false_eq_true, if_false, Bool.true_or, if_true]
  refine ⟨Rs.mk (L' 1) false (stp (s0I 100000) (10 * n.toNat + 6)) (fun _ => 0#64), ?_, rfl, ?_, ?_⟩
  · rw [ev_c ap2 (ilP n v) 299 0 [] (s0I 100000) (fun _ => 0#64) 0 ⟨0, 2, [.mk 1 0 (cE n) e0 [] [], ilW v, .mk 5 0 (lE 1#64) e0 [] []]⟩ rfl (show (0 : Int) ≤ 2 ∧ (2 : Int) < 1000 by decide)]
    have hz : (fun j => if j < (2 : Int).toNat then ([] : List (BitVec 64)).getD j 0#64 else 0#64) = fun _ => 0#64 := by funext j; simp
    simp only [hz]
    show (match ev ap2 (ilP n v) 299 (.b [.mk 1 0 (cE n) e0 [] [], ilW v, .mk 5 0 (lE 1#64) e0 [] []]) (stp (s0I 100000) 0) (fun _ => 0#64) 2 with | none => none | some q => some (Rs.mk q.v false q.s (fun _ => 0#64))) = _
    rw [eb]
  · show L' 1 = _
    rw [h2]
    simp
  · show 0 + (10 * n.toNat + 6) = _
    omega

theorem il_right (n v : BitVec 64) : RgP (ilP n v) (fun _ => 14) := by
  refine ⟨by simp [ilP], by show 1 ≤ 64; decide, fun i hi => ?_, rfl, fun i hi => ?_, by show 14 + 0 ≤ 6000; decide⟩
  · have : i = 0 := by simp [ilP] at hi; omega
    subst this
    exact (show (0 : Int) ≤ 0 ∧ (0 : Int) ≤ 2 ∧ (2 : Int) ≤ 24 by decide)
  · have : i = 0 := by simp [ilP] at hi; omega
    subst this
    have h0 : ∀ w : BitVec 64, w.toNat < 2 → (w.toNat : Int) < locI (ilP n v) 0 := fun w h => by show (w.toNat : Int) < 2; omega
    have h1 : locI (ilP n v) 0 < 1000 := by show (2 : Int) < 1000; decide
    exact rb_3 (ilP n v) 0 15 _ _ _ _ _ _ (.set _ 0 _ _ _ _ _ (by decide) (by show (0 : Int) < 2; decide) (re_con _ _ _ _))
      (.loop _ _ _ _ _ _ _ _ (re_loc _ _ _ _ (h0 _ (by decide)) h1) (rb_2 _ _ _ _ _ _ _
        (.set _ 1 _ _ _ _ _ (by decide) (by show (1 : Int) < 2; decide) (re_2 _ _ _ _ _ _ _ _ _ (.ar _ _ _ (by decide) (by decide) rfl) (re_loc _ _ _ _ (h0 _ (by decide)) h1) (re_con _ _ _ _)))
        (.set _ 0 _ _ _ _ _ (by decide) (by show (0 : Int) < 2; decide) (re_2 _ _ _ _ _ _ _ _ _ (.ar _ _ _ (by decide) (by decide) rfl) (re_loc _ _ _ _ (h0 _ (by decide)) h1) (re_con _ _ _ _)))))
      (.other _ 5 _ _ _ _ _ _ (by decide) (by decide) (re_loc _ _ _ _ (h0 _ (by decide)) h1))

theorem runs_IrLoops {M : Seat} (ok : OkJ M) (k15 : chkF M 15 f15 = true) (n0 v : BitVec 64) : Runs M 15 [W n0, W v] [] 0 (fun r H' k' => r = .bool true ∧ H' = [] ∧ k' = 0) := by
  refine runs_fr k15 rfl fun x hx => ?_
  have hn : (n0 % 200#64).toNat < 200 := by
    rw [BitVec.toNat_umod]; exact Nat.mod_lt _ (by decide)
  obtain ⟨n, hg⟩ : ∃ n, n0 % 200#64 = n := ⟨_, rfl⟩
  rw [hg] at hn
  obtain ⟨q, hq, f1, f2, f3⟩ := il_run n v hn
  have hE := runs_eval ok ap2 (ap2_ok ok.k215) _ _ (il_right n v) 299 q _ _ hq f1
  simp only [resJ, f2, f3] at hE
  generalize endS q.s q.v = sE at *
  have hni : n.toInt = (n.toNat : Int) := by rw [BitVec.toInt_eq_toNat_cond, if_pos (by omega)]
  have w1 : IntKind.i64.wrap ((n.toNat : Int) * 10) = ((n.toNat * 10 : Nat) : Int) := by rw [wrap_i64 (by omega)]; omega
  have w2 : IntKind.i64.wrap (2 + ((n.toNat * 10 : Nat) : Int)) = ((2 + n.toNat * 10 : Nat) : Int) := by rw [wrap_i64 (by omega)]; omega
  have w3 : IntKind.i64.wrap (((2 + n.toNat * 10 : Nat) : Int) + 2) = ((2 + n.toNat * 10 + 2 : Nat) : Int) := by rw [wrap_i64 (by omega)]; omega
  have w4 : IntKind.i64.wrap (((2 + n.toNat * 10 + 2 : Nat) : Int) + 2) = ((2 + n.toNat * 10 + 2 + 2 : Nat) : Int) := by rw [wrap_i64 (by omega)]; omega
  refine ex_sound 2000 _ _ _ _ ?_; (simp (maxSteps := 4000000) only [f15, c15, hg, LZ, seval, reduceCtorEq, forall_const])
  refine call_pZ (runs_constant ok n) ?_
  (simp (maxSteps := 4000000) only [LZ, seval, reduceCtorEq, forall_const])
  refine call_pZ (runs_local ok 0#64) ?_
  (simp (maxSteps := 4000000) only [LZ, seval, reduceCtorEq, forall_const])
  refine call_pZ (runs_local ok 1#64) ?_
  (simp (maxSteps := 4000000) only [LZ, seval, reduceCtorEq, forall_const])
  refine call_pZ (runs_constant ok v) ?_
  (simp (maxSteps := 4000000) only [LZ, seval, reduceCtorEq, forall_const])
  refine call_mB [176] [] (runs_op ok 1 2) (by rfl) (by rfl) (by decide) (by rfl) (by rfl) (by ((try simp only [LY, seval, reduceCtorEq, implies_true]); first | done | exact True.intro | rfl)) (by ((try simp only [LY, seval, reduceCtorEq, implies_true]); first | done | exact True.intro | rfl)) (by simp only [LX, implies_true]) (by simp only [LX, implies_true]) ?_
  (simp (maxSteps := 4000000) only [LZ, seval, reduceCtorEq, forall_const])
  refine call_pZ (runs_local ok 0#64) ?_
  (simp (maxSteps := 4000000) only [LZ, seval, reduceCtorEq, forall_const])
  refine call_pZ (runs_constant ok 1#64) ?_
  (simp (maxSteps := 4000000) only [LZ, seval, reduceCtorEq, forall_const])
  refine call_mB [256] [] (runs_op ok 2 2) (by rfl) (by rfl) (by decide) (by rfl) (by rfl) (by ((try simp only [LY, seval, reduceCtorEq, implies_true]); first | done | exact True.intro | rfl)) (by ((try simp only [LY, seval, reduceCtorEq, implies_true]); first | done | exact True.intro | rfl)) (by simp only [LX, implies_true]) (by simp only [LX, implies_true]) ?_
  (simp (maxSteps := 4000000) only [LZ, seval, reduceCtorEq, forall_const])
  refine call_pZ (runs_local ok 1#64) ?_
  (simp (maxSteps := 4000000) only [LZ, seval, reduceCtorEq, forall_const])
  refine call_fA (hE) (by decide) (by ((try simp only [ilP, ilW, ilB, fuL, fuF, fuV, stL, stF, stV, exL, exF, exV, List.length_cons, List.length_nil, Nat.reduceAdd, Nat.zero_add, bl1, bl2, bl3, nim_memI, LY, seval, reduceCtorEq, implies_true]); first | done | exact True.intro | rfl)) (by simp only [ilP, ilW, ilB, fuL, fuF, fuV, stL, stF, stV, exL, exF, exV, List.length_cons, List.length_nil, Nat.reduceAdd, Nat.zero_add, bl1, bl2, bl3, nim_memI, LX, implies_true]) (by simp only [ilP, ilW, ilB, fuL, fuF, fuV, stL, stF, stV, exL, exF, exV, List.length_cons, List.length_nil, Nat.reduceAdd, Nat.zero_add, bl1, bl2, bl3, nim_memI, LX, implies_true]) ?_
  (simp (maxSteps := 4000000) only [tup2, ren_memI, LZ, seval, reduceCtorEq, forall_const])
  refine call_pZ (runs_fixed12 ok) ?_
  (simp (maxSteps := 4000000) only [hni, w1, w2, w3, w4, LZ, seval, reduceCtorEq, forall_const])
  exact RetS.mkZ hx [] ⟨rfl, rfl, rfl⟩
end Mv
