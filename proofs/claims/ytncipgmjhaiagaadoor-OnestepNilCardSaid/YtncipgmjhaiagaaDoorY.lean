/- keccak.Permute -/
import Derived.Test.YtncipgmjhaiagaaDoorCa
import Derived.Test.YtncipgmjhaiagaaDoorDa
import Derived.Test.YtncipgmjhaiagaaDoorU
import Derived.Test.YtncipgmjhaiagaaDoorT
set_option linter.unusedSimpArgs false
set_option linter.unusedVariables false
namespace Mv
open Go
set_option maxRecDepth 20000
set_option maxHeartbeats 4000000
set_option linter.unusedSimpArgs false

/-- A column's parity; what is laid over each of a column. -/
def par (s : List (BitVec 64)) (x : Nat) : BitVec 64 := s.getD x 0 ^^^ s.getD (x + 5) 0 ^^^ s.getD (x + 10) 0 ^^^ s.getD (x + 15) 0 ^^^ s.getD (x + 20) 0
def dth (s : List (BitVec 64)) (x : Nat) : BitVec 64 := par s ((x + 4) % 5) ^^^ rot (par s ((x + 1) % 5)) 1
/-- The first step of a round, as far as q rows. -/
def thq (s : List (BitVec 64)) (q j : Nat) : BitVec 64 := if j < 5 * q then s.getD j 0 ^^^ dth s (j % 5) else s.getD j 0

/-- The first step of a round. -/
def th (s : List (BitVec 64)) : List (BitVec 64) := (List.range 25).map (thq s 5)

theorem th_at (s : List (BitVec 64)) (j : Nat) (hj : j < 25) : (th s).getD j 0 = thq s 5 j := by
  simp [th, List.getD, List.getElem?_map, List.getElem?_range hj]

/-- The second step of a round: the word in hand, the row. -/
def rps (a : List (BitVec 64)) : Nat → BitVec 64 × List (BitVec 64)
  | 0 => (a.getD 1 0, a)
  | p + 1 => ((rps a p).2.getD (lanes.getD p 0).toNat 0, (rps a p).2.set (lanes.getD p 0).toNat (rot (rps a p).1 (turns.getD p 0).toNat))

theorem th_len (s : List (BitVec 64)) : (th s).length = 25 := by simp [th]

theorem rps_len (a : List (BitVec 64)) (ha : a.length = 25) : ∀ p, (rps a p).2.length = 25
  | 0 => ha
  | p + 1 => by simp only [rps, List.length_set]; exact rps_len a ha p

theorem set_at (l : List (BitVec 64)) (t : Nat) (v : BitVec 64) (j : Nat) (ht : t < l.length) : (l.set t v).getD j 0 = if j = t then v else l.getD j 0 := by
  by_cases h : j = t
  · subst h; simp [List.getD, ht]
  · simp [List.getD, List.getElem?_set_ne (Ne.symm h), h]

/-- The third step of a round, as far as q rows. -/
def chq (b : List (BitVec 64)) (q j : Nat) : BitVec 64 :=
  if j < 5 * q then b.getD j 0 ^^^ (~~~ b.getD (5 * (j / 5) + (j + 1) % 5) 0 &&& b.getD (5 * (j / 5) + (j + 2) % 5) 0) else b.getD j 0

theorem thq_step (s : List (BitVec 64)) (q j : Nat) :
    (if j = 5 * q + 4 then thq s q (5 * q + 4) ^^^ dth s 4 else if j = 5 * q + 3 then thq s q (5 * q + 3) ^^^ dth s 3 else if j = 5 * q + 2 then thq s q (5 * q + 2) ^^^ dth s 2 else if j = 5 * q + 1 then thq s q (5 * q + 1) ^^^ dth s 1 else if j = 5 * q then thq s q (5 * q) ^^^ dth s 0 else thq s q j) = thq s (q + 1) j := by
  have key : ∀ c, c < 5 → thq s q (5 * q + c) ^^^ dth s c = thq s (q + 1) (5 * q + c) := fun c hc => by
    have e1 : (5 * q + c) % 5 = c := by omega
    simp only [thq, if_neg (show ¬ 5 * q + c < 5 * q by omega), if_pos (show 5 * q + c < 5 * (q + 1) by omega), e1]
  split
  · rename_i h; rw [h]; exact key 4 (by omega)
  · split
    · rename_i h; rw [h]; exact key 3 (by omega)
    · split
      · rename_i h; rw [h]; exact key 2 (by omega)
      · split
        · rename_i h; rw [h]; exact key 1 (by omega)
        · split
          · rename_i h; rw [h]; exact key 0 (by omega)
          · by_cases hj : j < 5 * q
            · simp only [thq, if_pos hj, if_pos (show j < 5 * (q + 1) by omega)]
            · simp only [thq, if_neg hj, if_neg (show ¬ j < 5 * (q + 1) by omega)]

theorem chq_step (b : List (BitVec 64)) (q j : Nat) :
    (if j = 5 * q + 4 then chq b q (5 * q + 4) ^^^ (~~~ chq b q (5 * q) &&& chq b q (5 * q + 1)) else if j = 5 * q + 3 then chq b q (5 * q + 3) ^^^ (~~~ chq b q (5 * q + 4) &&& chq b q (5 * q))
      else if j = 5 * q + 2 then chq b q (5 * q + 2) ^^^ (~~~ chq b q (5 * q + 3) &&& chq b q (5 * q + 4)) else if j = 5 * q + 1 then chq b q (5 * q + 1) ^^^ (~~~ chq b q (5 * q + 2) &&& chq b q (5 * q + 3))
      else if j = 5 * q then chq b q (5 * q) ^^^ (~~~ chq b q (5 * q + 1) &&& chq b q (5 * q + 2)) else chq b q j) = chq b (q + 1) j := by
  have raw : ∀ c, chq b q (5 * q + c) = b.getD (5 * q + c) 0 := fun c => by simp only [chq, if_neg (show ¬ 5 * q + c < 5 * q by omega)]
  have raw0 : chq b q (5 * q) = b.getD (5 * q) 0 := raw 0
  have key : ∀ c, c < 5 → chq b (q + 1) (5 * q + c) = b.getD (5 * q + c) 0 ^^^ (~~~ b.getD (5 * q + (c + 1) % 5) 0 &&& b.getD (5 * q + (c + 2) % 5) 0) := fun c hc => by
    have e0 : (5 * q + c) / 5 = q := by omega
    have e1 : (5 * q + c + 1) % 5 = (c + 1) % 5 := by omega
    have e2 : (5 * q + c + 2) % 5 = (c + 2) % 5 := by omega
    simp only [chq, if_pos (show 5 * q + c < 5 * (q + 1) by omega), e0, e1, e2]
  simp only [raw, raw0]
  split
  · rename_i h; rw [h, key 4 (by omega)]; rfl
  · split
    · rename_i h; rw [h, key 3 (by omega)]; rfl
    · split
      · rename_i h; rw [h, key 2 (by omega)]
      · split
        · rename_i h; rw [h, key 1 (by omega)]
        · split
          · rename_i h; rw [h]; exact (key 0 (by omega)).symm
          · by_cases hj : j < 5 * q
            · simp only [chq, if_pos hj, if_pos (show j < 5 * (q + 1) by omega)]
            · simp only [chq, if_neg hj, if_neg (show ¬ j < 5 * (q + 1) by omega)]

/-- A round; the rounds as far as n. -/
def rnd (s : List (BitVec 64)) (n : Nat) : List (BitVec 64) :=
  (List.range 25).map fun j => if j = 0 then chq (rps (th s) 24).2 5 0 ^^^ rc.getD n 0 else chq (rps (th s) 24).2 5 j
def permN (s : List (BitVec 64)) : Nat → List (BitVec 64)
  | 0 => s
  | n + 1 => rnd (permN s n) n
def perm (s : List (BitVec 64)) : List (BitVec 64) := permN s 24

theorem rnd_at (s : List (BitVec 64)) (n j : Nat) (hj : j < 25) : (rnd s n).getD j 0 = if j = 0 then chq (rps (th s) 24).2 5 0 ^^^ rc.getD n 0 else chq (rps (th s) 24).2 5 j := by
  simp [rnd, List.getD, List.getElem?_map, List.getElem?_range hj]

theorem runs_Permute {M : Seat} (hc : chkF M 417 f417 = true) (hrot : chkF M 462 f462 = true) (s : List (BitVec 64)) :
    Runs M 417 [.ar 1 25 (ws s)] [] 0 (fun r H' k' => r = .ar 1 25 (ws (perm s)) ∧ H' = [] ∧ k' = 0) := by
  refine runs_fr hc rfl fun x hx => ?_
  refine ex_sound 30 _ _ _ _ ?_
  simp only [f417, c417, LR, ↓step_conv, ex, Ro, RoD, OpD, epk, epochs, Mv.hx, idsOK, bs, wmask, LK.isW, LK.isA, LK.isP, step, num, X.ev, List.cons_append, List.nil_append, ne_eq, Nat.reduceLT, Int.reduceLE, Int.reduceLT, Int.cast_ofNat_Int, Nat.reducePow, Nat.reduceAnd, Nat.reduceOr, Nat.reduceShiftRight, BEq.rfl, Int.reduceToNat, vpick, vopt, optInt, isInt, vbuild, vbuildOK, vcaps, vcapsOK, elems, elemsOK, List.length_cons, List.length_nil, hget, hset, hdel, hhas, padd, V.ok, V.get, V.set, V.fget, V.fhas, V.fset, noR, Z.v, Z.sz, if_true, if_false, ite_true, ite_false, cond_true, cond_false, reduceCtorEq, forall_const, Nat.reduceAdd, Nat.reduceMul, Nat.reduceSub, Nat.reduceBEq, Nat.reduceEqDiff, dropTo, List.map_cons, List.map_nil, List.filter_cons, List.filter_nil]
  refine loop_rule (σ := Nat × List (BitVec 64)) (fun i => i.1 ≤ 24 ∧ i.2 = permN s i.1) (fun i => fr 270 [(1, .ptr 0 []), (2, .ptr 1 []), (27, .ar 1 24 (ws rc)), (28, .int .i64 i.1)])
      (fun i => [(0, .ar 1 25 (ws i.2)), (1, .ar 1 25 (fun _ => W 0))]) (fun _ => 2) (fun i => 24 - i.1) (0, s) ⟨by simp, rfl⟩ ?_ ?_
  · refine Weak.fr [0, 16] [] hx (by simp only [fr_length]) (by decide) ?_ ?_
    · simp only [LS, SimL, ne_eq, Nat.reduceLT, SimA, Sim, SimH, frz, hget, hhas, List.getElem?_cons_zero, List.getElem?_cons_succ, List.getElem?_nil, BEq.rfl, if_true, reduceCtorEq, Option.some.injEq, Nat.reduceEqDiff, if_false]
      exact ⟨fun _ _ => trivial, rfl⟩
    · simp only [LS, SimL, ne_eq, Nat.reduceLT, SimA, Sim, SimH, frz, hget, hhas, List.getElem?_cons_zero, List.getElem?_cons_succ, List.getElem?_nil, BEq.rfl, if_true, reduceCtorEq, Option.some.injEq, Nat.reduceEqDiff, if_false]
      exact ⟨⟨rfl, fun _ _ => trivial⟩, fun _ _ => by simp only [W, Sim]; rfl⟩
  · intro i ⟨hi, hii⟩
    refine ex_sound 40 _ _ _ _ ?_
    simp only [LR, ↓step_conv, ex, Ro, RoD, OpD, epk, epochs, Mv.hx, idsOK, bs, wmask, LK.isW, LK.isA, LK.isP, step, num, X.ev, List.cons_append, List.nil_append, ne_eq, Nat.reduceLT, Int.reduceLE, Int.reduceLT, Int.cast_ofNat_Int, Nat.reducePow, Nat.reduceAnd, Nat.reduceOr, Nat.reduceShiftRight, BEq.rfl, Int.reduceToNat, vpick, vopt, optInt, isInt, vbuild, vbuildOK, vcaps, vcapsOK, elems, elemsOK, List.length_cons, List.length_nil, hget, hset, hdel, hhas, padd, V.ok, V.get, V.set, V.fget, V.fhas, V.fset, noR, Z.v, Z.sz, if_true, if_false, ite_true, ite_false, cond_true, cond_false, reduceCtorEq, forall_const, Nat.reduceAdd, Nat.reduceMul, Nat.reduceSub, Nat.reduceBEq, Nat.reduceEqDiff, dropTo, List.map_cons, List.map_nil, List.filter_cons, List.filter_nil]
    refine ⟨fun hlt => ?_, fun hge => ?_⟩
    · have hlt : (i.1 : Int) < 24 := by simpa using hlt
      refine ⟨⟨by omega, by omega⟩, ?_⟩
      refine call_pure (runs_RotW hrot _ 1 (by omega)) ⟨rfl, rfl, trivial⟩ rfl ?_
      simp only [LR, ↓step_conv, ex, Ro, RoD, OpD, epk, epochs, Mv.hx, idsOK, bs, wmask, LK.isW, LK.isA, LK.isP, step, num, X.ev, List.cons_append, List.nil_append, ne_eq, Nat.reduceLT, Int.reduceLE, Int.reduceLT, Int.cast_ofNat_Int, Nat.reducePow, Nat.reduceAnd, Nat.reduceOr, Nat.reduceShiftRight, BEq.rfl, Int.reduceToNat, vpick, vopt, optInt, isInt, vbuild, vbuildOK, vcaps, vcapsOK, elems, elemsOK, List.length_cons, List.length_nil, hget, hset, hdel, hhas, padd, V.ok, V.get, V.set, V.fget, V.fhas, V.fset, noR, Z.v, Z.sz, if_true, if_false, ite_true, ite_false, cond_true, cond_false, reduceCtorEq, forall_const, Nat.reduceAdd, Nat.reduceMul, Nat.reduceSub, Nat.reduceBEq, Nat.reduceEqDiff, dropTo, List.map_cons, List.map_nil, List.filter_cons, List.filter_nil]
      refine call_pure (runs_RotW hrot _ 1 (by omega)) ⟨rfl, rfl, trivial⟩ rfl ?_
      simp only [LR, ↓step_conv, ex, Ro, RoD, OpD, epk, epochs, Mv.hx, idsOK, bs, wmask, LK.isW, LK.isA, LK.isP, step, num, X.ev, List.cons_append, List.nil_append, ne_eq, Nat.reduceLT, Int.reduceLE, Int.reduceLT, Int.cast_ofNat_Int, Nat.reducePow, Nat.reduceAnd, Nat.reduceOr, Nat.reduceShiftRight, BEq.rfl, Int.reduceToNat, vpick, vopt, optInt, isInt, vbuild, vbuildOK, vcaps, vcapsOK, elems, elemsOK, List.length_cons, List.length_nil, hget, hset, hdel, hhas, padd, V.ok, V.get, V.set, V.fget, V.fhas, V.fset, noR, Z.v, Z.sz, if_true, if_false, ite_true, ite_false, cond_true, cond_false, reduceCtorEq, forall_const, Nat.reduceAdd, Nat.reduceMul, Nat.reduceSub, Nat.reduceBEq, Nat.reduceEqDiff, dropTo, List.map_cons, List.map_nil, List.filter_cons, List.filter_nil]
      refine call_pure (runs_RotW hrot _ 1 (by omega)) ⟨rfl, rfl, trivial⟩ rfl ?_
      simp only [LR, ↓step_conv, ex, Ro, RoD, OpD, epk, epochs, Mv.hx, idsOK, bs, wmask, LK.isW, LK.isA, LK.isP, step, num, X.ev, List.cons_append, List.nil_append, ne_eq, Nat.reduceLT, Int.reduceLE, Int.reduceLT, Int.cast_ofNat_Int, Nat.reducePow, Nat.reduceAnd, Nat.reduceOr, Nat.reduceShiftRight, BEq.rfl, Int.reduceToNat, vpick, vopt, optInt, isInt, vbuild, vbuildOK, vcaps, vcapsOK, elems, elemsOK, List.length_cons, List.length_nil, hget, hset, hdel, hhas, padd, V.ok, V.get, V.set, V.fget, V.fhas, V.fset, noR, Z.v, Z.sz, if_true, if_false, ite_true, ite_false, cond_true, cond_false, reduceCtorEq, forall_const, Nat.reduceAdd, Nat.reduceMul, Nat.reduceSub, Nat.reduceBEq, Nat.reduceEqDiff, dropTo, List.map_cons, List.map_nil, List.filter_cons, List.filter_nil]
      refine call_pure (runs_RotW hrot _ 1 (by omega)) ⟨rfl, rfl, trivial⟩ rfl ?_
      simp only [LR, ↓step_conv, ex, Ro, RoD, OpD, epk, epochs, Mv.hx, idsOK, bs, wmask, LK.isW, LK.isA, LK.isP, step, num, X.ev, List.cons_append, List.nil_append, ne_eq, Nat.reduceLT, Int.reduceLE, Int.reduceLT, Int.cast_ofNat_Int, Nat.reducePow, Nat.reduceAnd, Nat.reduceOr, Nat.reduceShiftRight, BEq.rfl, Int.reduceToNat, vpick, vopt, optInt, isInt, vbuild, vbuildOK, vcaps, vcapsOK, elems, elemsOK, List.length_cons, List.length_nil, hget, hset, hdel, hhas, padd, V.ok, V.get, V.set, V.fget, V.fhas, V.fset, noR, Z.v, Z.sz, if_true, if_false, ite_true, ite_false, cond_true, cond_false, reduceCtorEq, forall_const, Nat.reduceAdd, Nat.reduceMul, Nat.reduceSub, Nat.reduceBEq, Nat.reduceEqDiff, dropTo, List.map_cons, List.map_nil, List.filter_cons, List.filter_nil]
      refine call_pure (runs_RotW hrot _ 1 (by omega)) ⟨rfl, rfl, trivial⟩ rfl ?_
      simp only [LR, ↓step_conv, ex, Ro, RoD, OpD, epk, epochs, Mv.hx, idsOK, bs, wmask, LK.isW, LK.isA, LK.isP, step, num, X.ev, List.cons_append, List.nil_append, ne_eq, Nat.reduceLT, Int.reduceLE, Int.reduceLT, Int.cast_ofNat_Int, Nat.reducePow, Nat.reduceAnd, Nat.reduceOr, Nat.reduceShiftRight, BEq.rfl, Int.reduceToNat, vpick, vopt, optInt, isInt, vbuild, vbuildOK, vcaps, vcapsOK, elems, elemsOK, List.length_cons, List.length_nil, hget, hset, hdel, hhas, padd, V.ok, V.get, V.set, V.fget, V.fhas, V.fset, noR, Z.v, Z.sz, if_true, if_false, ite_true, ite_false, cond_true, cond_false, reduceCtorEq, forall_const, Nat.reduceAdd, Nat.reduceMul, Nat.reduceSub, Nat.reduceBEq, Nat.reduceEqDiff, dropTo, List.map_cons, List.map_nil, List.filter_cons, List.filter_nil]
      refine loop_rule (σ := Nat) (fun q => q ≤ 5) (fun q => fr 270 [(1, .ptr 0 []), (2, .ptr 1 []), (4, W (rc.getD i.1 0)), (10, W (dth i.2 0)), (11, W (dth i.2 1)), (12, W (dth i.2 2)), (13, W (dth i.2 3)), (14, W (dth i.2 4)), (15, .int .i64 (5 * q : Nat)), (27, .ar 1 24 (ws rc)), (28, .int .i64 i.1)])
        (fun q => [(0, .ar 1 25 (fun j => W (thq i.2 q j))), (1, .ar 1 25 (fun _ => W 0))]) (fun _ => 2) (fun q => 5 - q) 0 (by omega) ?_ ?_
      · refine Weak.fr [0, 1] [] hx (by simp only [fr_length]) (by decide) ?_ ?_
        · simp only [LS, SimL, ne_eq, Nat.reduceLT, SimA, Sim, SimH, frz, hget, hhas, List.getElem?_cons_zero, List.getElem?_cons_succ, List.getElem?_nil, BEq.rfl, if_true, reduceCtorEq, Option.some.injEq, Nat.reduceEqDiff, if_false]
          exact ⟨rfl, rfl, rfl, rfl, rfl, rfl, fun _ _ => trivial⟩
        · simp only [LS, SimL, ne_eq, Nat.reduceLT, SimA, Sim, SimH, frz, hget, hhas, List.getElem?_cons_zero, List.getElem?_cons_succ, List.getElem?_nil, BEq.rfl, if_true, reduceCtorEq, Option.some.injEq, Nat.reduceEqDiff, if_false]
          exact ⟨fun j _ => by simp [thq], rfl, fun _ _ => trivial⟩
      · intro q hq
        refine ex_sound 40 _ _ _ _ ?_
        simp only [LR, ↓step_conv, ex, Ro, RoD, OpD, epk, epochs, Mv.hx, idsOK, bs, wmask, LK.isW, LK.isA, LK.isP, step, num, X.ev, List.cons_append, List.nil_append, ne_eq, Nat.reduceLT, Int.reduceLE, Int.reduceLT, Int.cast_ofNat_Int, Nat.reducePow, Nat.reduceAnd, Nat.reduceOr, Nat.reduceShiftRight, BEq.rfl, Int.reduceToNat, vpick, vopt, optInt, isInt, vbuild, vbuildOK, vcaps, vcapsOK, elems, elemsOK, List.length_cons, List.length_nil, hget, hset, hdel, hhas, padd, V.ok, V.get, V.set, V.fget, V.fhas, V.fset, noR, Z.v, Z.sz, if_true, if_false, ite_true, ite_false, cond_true, cond_false, reduceCtorEq, forall_const, Nat.reduceAdd, Nat.reduceMul, Nat.reduceSub, Nat.reduceBEq, Nat.reduceEqDiff, dropTo, List.map_cons, List.map_nil, List.filter_cons, List.filter_nil]
        refine ⟨fun hlt2 => ?_, fun hge2 => ?_⟩
        · have hlt2 : ((5 * q : Nat) : Int) < 25 := by simpa using hlt2
          refine ⟨by omega, by omega, by omega, by omega, by omega, by omega, by omega, by omega, by omega, by omega, by omega, by omega, by omega, by omega, by omega, by omega, by omega, q + 1, by omega, by omega, ?_⟩
          have w1 : IntKind.i64.wrap (((5 * q : Nat) : Int) + 5) = ((5 * (q + 1) : Nat) : Int) := by rw [wrap_i64 (by omega)]; omega
          refine Weak.fr [0, 1] [] hx (by simp only [fr_length]) (by decide) ?_ ?_
          · simp only [LS, SimL, ne_eq, Nat.reduceLT, SimA, Sim, SimH, frz, hget, hhas, List.getElem?_cons_zero, List.getElem?_cons_succ, List.getElem?_nil, BEq.rfl, if_true, reduceCtorEq, Option.some.injEq, Nat.reduceEqDiff, if_false, w1]
            exact fun _ _ => trivial
          · simp only [LS, SimL, ne_eq, Nat.reduceLT, SimA, Sim, SimH, frz, hget, hhas, List.getElem?_cons_zero, List.getElem?_cons_succ, List.getElem?_nil, BEq.rfl, if_true, reduceCtorEq, Option.some.injEq, Nat.reduceEqDiff, if_false]
            exact ⟨fun j _ => thq_step _ _ _, rfl, fun _ _ => trivial⟩
        · have hge2 : ¬ ((5 * q : Nat) : Int) < 25 := by simpa using hge2
          have hq5 : q = 5 := by omega
          subst hq5
          refine loop_rule (σ := Nat) (fun p => p ≤ 24) (fun p => fr 270 [(1, .ptr 0 []), (2, .ptr 1 []), (4, W (rc.getD i.1 0)), (17, W (rps (th i.2) p).1), (27, .ar 1 24 (ws rc)), (28, .int .i64 i.1), (175, .ar 1 24 (fun i => .int .i64 (lanes.getD i 0))), (176, .int .i64 p)])
            (fun p => [(0, .ar 1 25 (ws (rps (th i.2) p).2)), (1, .ar 1 25 (fun _ => W 0))]) (fun _ => 2) (fun p => 24 - p) 0 (by omega) ?_ ?_
          · refine Weak.fr [0, 1] [] hx (by simp only [fr_length]) (by decide) ?_ ?_
            · simp only [LS, SimL, ne_eq, Nat.reduceLT, SimA, Sim, SimH, frz, hget, hhas, List.getElem?_cons_zero, List.getElem?_cons_succ, List.getElem?_nil, BEq.rfl, if_true, reduceCtorEq, Option.some.injEq, Nat.reduceEqDiff, if_false]
              exact ⟨(th_at _ 1 (by omega)).symm, fun _ _ => trivial, fun _ _ => trivial, rfl⟩
            · simp only [LS, SimL, ne_eq, Nat.reduceLT, SimA, Sim, SimH, frz, hget, hhas, List.getElem?_cons_zero, List.getElem?_cons_succ, List.getElem?_nil, BEq.rfl, if_true, reduceCtorEq, Option.some.injEq, Nat.reduceEqDiff, if_false]
              exact ⟨fun j hj => (th_at _ j hj).symm, rfl, fun _ _ => trivial⟩
          · intro p hp
            refine ex_sound 40 _ _ _ _ ?_
            simp only [LR, ↓step_conv, ex, Ro, RoD, OpD, epk, epochs, Mv.hx, idsOK, bs, wmask, LK.isW, LK.isA, LK.isP, step, num, X.ev, List.cons_append, List.nil_append, ne_eq, Nat.reduceLT, Int.reduceLE, Int.reduceLT, Int.cast_ofNat_Int, Nat.reducePow, Nat.reduceAnd, Nat.reduceOr, Nat.reduceShiftRight, BEq.rfl, Int.reduceToNat, vpick, vopt, optInt, isInt, vbuild, vbuildOK, vcaps, vcapsOK, elems, elemsOK, List.length_cons, List.length_nil, hget, hset, hdel, hhas, padd, V.ok, V.get, V.set, V.fget, V.fhas, V.fset, noR, Z.v, Z.sz, if_true, if_false, ite_true, ite_false, cond_true, cond_false, reduceCtorEq, forall_const, Nat.reduceAdd, Nat.reduceMul, Nat.reduceSub, Nat.reduceBEq, Nat.reduceEqDiff, dropTo, List.map_cons, List.map_nil, List.filter_cons, List.filter_nil]
            refine ⟨fun hlt3 => ?_, fun hge3 => ?_⟩
            · have hlt3 : (p : Int) < 24 := by simpa using hlt3
              have ht := turns_ok p (by omega)
              have hl := lanes_ok p (by omega)
              have ht2 : turns.getD p 0 = ((turns.getD p 0).toNat : Int) := by omega
              have hcall := runs_RotW hrot (rps (th i.2) p).1 (turns.getD p 0).toNat (by omega)
              rw [← ht2] at hcall
              refine ⟨⟨by omega, by omega⟩, ⟨⟨by omega, by omega⟩, by omega⟩, _, _, call_pure hcall ⟨rfl, rfl, trivial⟩ rfl ⟨rfl, rfl⟩, ?_⟩
              simp only [LR, ↓step_conv, ex, Ro, RoD, OpD, epk, epochs, Mv.hx, idsOK, bs, wmask, LK.isW, LK.isA, LK.isP, step, num, X.ev, List.cons_append, List.nil_append, ne_eq, Nat.reduceLT, Int.reduceLE, Int.reduceLT, Int.cast_ofNat_Int, Nat.reducePow, Nat.reduceAnd, Nat.reduceOr, Nat.reduceShiftRight, BEq.rfl, Int.reduceToNat, vpick, vopt, optInt, isInt, vbuild, vbuildOK, vcaps, vcapsOK, elems, elemsOK, List.length_cons, List.length_nil, hget, hset, hdel, hhas, padd, V.ok, V.get, V.set, V.fget, V.fhas, V.fset, noR, Z.v, Z.sz, if_true, if_false, ite_true, ite_false, cond_true, cond_false, reduceCtorEq, forall_const, Nat.reduceAdd, Nat.reduceMul, Nat.reduceSub, Nat.reduceBEq, Nat.reduceEqDiff, dropTo, List.map_cons, List.map_nil, List.filter_cons, List.filter_nil]
              refine ⟨hl, by omega, ⟨by omega, by omega⟩, hl, by omega, p + 1, by omega, by omega, ?_⟩
              have w1 : IntKind.i64.wrap ((p : Int) + 1) = ((p + 1 : Nat) : Int) := by rw [wrap_i64 (by omega)]; omega
              refine Weak.fr [0, 1] [] hx (by simp only [fr_length]) (by decide) ?_ ?_
              · simp only [LS, SimL, ne_eq, Nat.reduceLT, SimA, Sim, SimH, frz, hget, hhas, List.getElem?_cons_zero, List.getElem?_cons_succ, List.getElem?_nil, BEq.rfl, if_true, reduceCtorEq, Option.some.injEq, Nat.reduceEqDiff, if_false, w1]
                exact ⟨rfl, fun _ _ => trivial⟩
              · simp only [LS, SimL, ne_eq, Nat.reduceLT, SimA, Sim, SimH, frz, hget, hhas, List.getElem?_cons_zero, List.getElem?_cons_succ, List.getElem?_nil, BEq.rfl, if_true, reduceCtorEq, Option.some.injEq, Nat.reduceEqDiff, if_false]
                exact ⟨fun j hj => (set_at _ _ _ _ (by rw [rps_len _ (th_len _)]; omega)).symm, rfl, fun _ _ => trivial⟩
            · have hge3 : ¬ (p : Int) < 24 := by simpa using hge3
              have hp24 : p = 24 := by omega
              subst hp24
              refine loop_rule (σ := Nat) (fun q => q ≤ 5) (fun q => fr 270 [(1, .ptr 0 []), (2, .ptr 1 []), (4, W (rc.getD i.1 0)), (20, .int .i64 (5 * q : Nat)), (27, .ar 1 24 (ws rc)), (28, .int .i64 i.1)])
                (fun q => [(0, .ar 1 25 (fun j => W (chq (rps (th i.2) 24).2 q j))), (1, .ar 1 25 (fun _ => W 0))]) (fun _ => 2) (fun q => 5 - q) 0 (by omega) ?_ ?_
              · refine Weak.fr [0, 1] [] hx (by simp only [fr_length]) (by decide) ?_ ?_
                · simp only [LS, SimL, ne_eq, Nat.reduceLT, SimA, Sim, SimH, frz, hget, hhas, List.getElem?_cons_zero, List.getElem?_cons_succ, List.getElem?_nil, BEq.rfl, if_true, reduceCtorEq, Option.some.injEq, Nat.reduceEqDiff, if_false]
                  exact ⟨rfl, fun _ _ => trivial⟩
                · simp only [LS, SimL, ne_eq, Nat.reduceLT, SimA, Sim, SimH, frz, hget, hhas, List.getElem?_cons_zero, List.getElem?_cons_succ, List.getElem?_nil, BEq.rfl, if_true, reduceCtorEq, Option.some.injEq, Nat.reduceEqDiff, if_false]
                  exact ⟨fun j _ => by simp [chq], rfl, fun _ _ => trivial⟩
              · intro q hq
                refine ex_sound 40 _ _ _ _ ?_
                simp only [LR, ↓step_conv, ex, Ro, RoD, OpD, epk, epochs, Mv.hx, idsOK, bs, wmask, LK.isW, LK.isA, LK.isP, step, num, X.ev, List.cons_append, List.nil_append, ne_eq, Nat.reduceLT, Int.reduceLE, Int.reduceLT, Int.cast_ofNat_Int, Nat.reducePow, Nat.reduceAnd, Nat.reduceOr, Nat.reduceShiftRight, BEq.rfl, Int.reduceToNat, vpick, vopt, optInt, isInt, vbuild, vbuildOK, vcaps, vcapsOK, elems, elemsOK, List.length_cons, List.length_nil, hget, hset, hdel, hhas, padd, V.ok, V.get, V.set, V.fget, V.fhas, V.fset, noR, Z.v, Z.sz, if_true, if_false, ite_true, ite_false, cond_true, cond_false, reduceCtorEq, forall_const, Nat.reduceAdd, Nat.reduceMul, Nat.reduceSub, Nat.reduceBEq, Nat.reduceEqDiff, dropTo, List.map_cons, List.map_nil, List.filter_cons, List.filter_nil]
                refine ⟨fun hlt4 => ?_, fun hge4 => ?_⟩
                · have hlt4 : ((5 * q : Nat) : Int) < 25 := by simpa using hlt4
                  refine ⟨by omega, by omega, by omega, by omega, by omega, by omega, by omega, by omega, by omega, by omega, by omega, by omega, by omega, by omega, by omega, by omega, by omega, q + 1, by omega, by omega, ?_⟩
                  have w1 : IntKind.i64.wrap (((5 * q : Nat) : Int) + 5) = ((5 * (q + 1) : Nat) : Int) := by rw [wrap_i64 (by omega)]; omega
                  refine Weak.fr [0, 1] [] hx (by simp only [fr_length]) (by decide) ?_ ?_
                  · simp only [LS, SimL, ne_eq, Nat.reduceLT, SimA, Sim, SimH, frz, hget, hhas, List.getElem?_cons_zero, List.getElem?_cons_succ, List.getElem?_nil, BEq.rfl, if_true, reduceCtorEq, Option.some.injEq, Nat.reduceEqDiff, if_false, w1]
                    exact fun _ _ => trivial
                  · simp only [LS, SimL, ne_eq, Nat.reduceLT, SimA, Sim, SimH, frz, hget, hhas, List.getElem?_cons_zero, List.getElem?_cons_succ, List.getElem?_nil, BEq.rfl, if_true, reduceCtorEq, Option.some.injEq, Nat.reduceEqDiff, if_false]
                    exact ⟨fun j _ => chq_step _ _ _, rfl, fun _ _ => trivial⟩
                · have hge4 : ¬ ((5 * q : Nat) : Int) < 25 := by simpa using hge4
                  have hq5 : q = 5 := by omega
                  subst hq5
                  have w1 : IntKind.i64.wrap ((i.1 : Int) + 1) = ((i.1 + 1 : Nat) : Int) := by rw [wrap_i64 (by omega)]; omega
                  refine ⟨(i.1 + 1, rnd i.2 i.1), ⟨by simp only; omega, by simp only [permN, hii]⟩, by simp only; omega, ?_⟩
                  refine Weak.fr [0, 1] [] hx (by simp only [fr_length]) (by decide) ?_ ?_
                  · simp only [LS, SimL, ne_eq, Nat.reduceLT, SimA, Sim, SimH, frz, hget, hhas, List.getElem?_cons_zero, List.getElem?_cons_succ, List.getElem?_nil, BEq.rfl, if_true, reduceCtorEq, Option.some.injEq, Nat.reduceEqDiff, if_false, w1]
                    exact fun _ _ => trivial
                  · simp only [LS, SimL, ne_eq, Nat.reduceLT, SimA, Sim, SimH, frz, hget, hhas, List.getElem?_cons_zero, List.getElem?_cons_succ, List.getElem?_nil, BEq.rfl, if_true, reduceCtorEq, Option.some.injEq, Nat.reduceEqDiff, if_false]
                    exact ⟨fun j hj => (rnd_at _ _ _ hj).symm, rfl, fun _ _ => trivial⟩
    · have hge : ¬ (i.1 : Int) < 24 := by simpa using hge
      have hi24 : i.1 = 24 := by omega
      refine RetS.mk hx [] [] (.ar 1 25 (ws (perm s))) [] 0 (by decide) ?_ ?_ ?_ ⟨rfl, rfl, rfl⟩
      · simp only [res, resP, LR, ↓step_conv, ex, Ro, RoD, OpD, epk, epochs, Mv.hx, idsOK, bs, wmask, LK.isW, LK.isA, LK.isP, step, num, X.ev, List.cons_append, List.nil_append, ne_eq, Nat.reduceLT, Int.reduceLE, Int.reduceLT, Int.cast_ofNat_Int, Nat.reducePow, Nat.reduceAnd, Nat.reduceOr, Nat.reduceShiftRight, BEq.rfl, Int.reduceToNat, vpick, vopt, optInt, isInt, vbuild, vbuildOK, vcaps, vcapsOK, elems, elemsOK, List.length_cons, List.length_nil, hget, hset, hdel, hhas, padd, V.ok, V.get, V.set, V.fget, V.fhas, V.fset, noR, Z.v, Z.sz, if_true, if_false, ite_true, ite_false, cond_true, cond_false, reduceCtorEq, forall_const, Nat.reduceAdd, Nat.reduceMul, Nat.reduceSub, Nat.reduceBEq, Nat.reduceEqDiff, dropTo, List.map_cons, List.map_nil, List.filter_cons, List.filter_nil]
      · simp only [res, resV, LR, ↓step_conv, ex, Ro, RoD, OpD, epk, epochs, Mv.hx, idsOK, bs, wmask, LK.isW, LK.isA, LK.isP, step, num, X.ev, List.cons_append, List.nil_append, ne_eq, Nat.reduceLT, Int.reduceLE, Int.reduceLT, Int.cast_ofNat_Int, Nat.reducePow, Nat.reduceAnd, Nat.reduceOr, Nat.reduceShiftRight, BEq.rfl, Int.reduceToNat, vpick, vopt, optInt, isInt, vbuild, vbuildOK, vcaps, vcapsOK, elems, elemsOK, List.length_cons, List.length_nil, hget, hset, hdel, hhas, padd, V.ok, V.get, V.set, V.fget, V.fhas, V.fset, noR, Z.v, Z.sz, if_true, if_false, ite_true, ite_false, cond_true, cond_false, reduceCtorEq, forall_const, Nat.reduceAdd, Nat.reduceMul, Nat.reduceSub, Nat.reduceBEq, Nat.reduceEqDiff, dropTo, List.map_cons, List.map_nil, List.filter_cons, List.filter_nil, LS, SimL, ne_eq, Nat.reduceLT, SimA, Sim, SimH, frz, hget, hhas, List.getElem?_cons_zero, List.getElem?_cons_succ, List.getElem?_nil, BEq.rfl, if_true, reduceCtorEq, Option.some.injEq, Nat.reduceEqDiff, if_false]
        intro j hj
        rw [hii, hi24, perm]
      · trivial
end Mv
