/- merkle: levels, the inner round. -/
import Derived.Test.YtncipgmjhaiagaaDoorDb
set_option linter.unusedSimpArgs false
set_option linter.unusedVariables false
namespace Mv
open Go
set_option maxRecDepth 20000
set_option maxHeartbeats 4000000
set_option linter.unusedSimpArgs false

/-- A level above: its items, all of it. -/
def upN (z : Dg) (l : List Dg) (q : Nat) : Dg := pair (l.getD (2 * q) z) (l.getD (2 * q + 1) z)
def up (z : Dg) (l : List Dg) : List Dg := (List.range ((l.length + 1) / 2)).map (upN z l)
theorem up_len (z : Dg) (l : List Dg) : (up z l).length = (l.length + 1) / 2 := by simp [up]
theorem up_at (z : Dg) (l : List Dg) (q : Nat) (d : Dg) (h : q < (l.length + 1) / 2) : (up z l).getD q d = upN z l q := by
  simp [up, List.getD, List.getElem?_map, List.getElem?_range h]

/-- The levels. -/
def lev (l : List Dg) : Nat → List Dg
  | 0 => l
  | h + 1 => up (nought h) (lev l h)

/-- A row of digests that is not written. -/
def row (l : List Dg) : V := .lst 32 l.length (dgs l)
/-- Level h, as the code has it. -/
def lvV (l : List Dg) (h : Nat) : V := if h = 0 then row l else if lev l h = [] then .nils else row (lev l h)

theorem lv_cases (l : List Dg) (h : Nat) : lvV l h = .lst 32 (lev l h).length (dgs (lev l h)) ∨ (lvV l h = .nils ∧ lev l h = []) := by
  unfold lvV
  by_cases h0 : h = 0
  · subst h0; exact .inl rfl
  · rw [if_neg h0]
    by_cases h1 : lev l h = []
    · exact .inr ⟨if_pos h1, h1⟩
    · rw [if_neg h1]; exact .inl rfl
theorem solid_lvV (l : List Dg) (h : Nat) : (lvV l h).solid = true := by
  rcases lv_cases l h with e | ⟨e, _⟩ <;> rw [e] <;> rfl
theorem size_lvV (l : List Dg) (h : Nat) : (lvV l h).size = 1 := by
  rcases lv_cases l h with e | ⟨e, _⟩ <;> rw [e] <;> rfl
theorem agg_lvV (l : List Dg) (h : Nat) : (lvV l h).isAgg = false := by
  rcases lv_cases l h with e | ⟨e, _⟩ <;> rw [e] <;> rfl

theorem Sim_lvV (H : Hp) (m z : List Nat) (l : List Dg) (h : Nat) : Sim H m z (lvV l h) (lvV l h) := by
  rcases lv_cases l h with e | ⟨e, _⟩ <;> rw [e]
  · simp only [Sim, true_and]
    exact fun j _ => (Sim_dg _ _ _ _ _).mpr rfl
  · simp only [Sim]

theorem SimV_self_lvV (H : Hp) (m z : List Nat) (l : List Dg) (h : Nat) : SimV H m z (lvV l h) (lvV l h) := by
  have h1 := Sim_lvV H m z l h
  rcases lv_cases l h with e | ⟨e, _⟩ <;> rw [e] at h1 ⊢ <;> exact h1
/-- Two ways that come to one state. -/
theorem join2 {M : Seat} {x : Ctx} {Q : List V → Hp → Nat → Prop} {k : List It} {P : Prop} (A' : List V) (H' : Hp) (N : Nat) (h : SemK M x Q k N A' H') (f : SemK M x Q k N A' H' → P) : P := f h

theorem lev_len (l : List Dg) : ∀ h, (lev l h).length ≤ l.length
  | 0 => Nat.le_refl _
  | h + 1 => by
    have := lev_len l h
    simp only [lev, up_len]
    omega
theorem getD_in {l : List Dg} {i : Nat} (h : i < l.length) (a b : Dg) : l.getD i a = l.getD i b := by simp [List.getD, h]
theorem getD_out {l : List Dg} {i : Nat} (h : l.length ≤ i) (a : Dg) : l.getD i a = a := by simp [List.getD, h]

theorem app_row {z : Dg} {L : List Dg} {q : Nat} {v : Dg} (hu : upN z L q = v) (i : Nat) (hi : i < q + 1) : (if i < q then dg (upN z L i) else if i - q = 0 then dg v else V.ar 1 32 (fun _ => V.int .u8 0)) = dg (upN z L i) := by
  by_cases h : i < q
  · rw [if_pos h]
  · have : i = q := by omega
    subst this
    rw [if_neg h, if_pos (by omega), hu]
theorem app_row0 {z : Dg} {L : List Dg} {v : Dg} (hu : upN z L 0 = v) (i : Nat) (hi : i < 1) : (if i = 0 then dg v else V.ar 1 32 (fun _ => V.int .u8 0)) = dg (upN z L i) := by
  have : i = 0 := by omega
  subst this
  rw [if_pos rfl, hu]

theorem shl_1 {d : Nat} (hd : d ≤ 16) : IntKind.i64.wrap (1 * 2 ^ min d IntKind.i64.bits) = ((2 ^ d : Nat) : Int) := by
  have e1 : min d IntKind.i64.bits = d := by simp only [IntKind.bits]; omega
  have h2 : 2 ^ d ≤ 2 ^ 16 := Nat.pow_le_pow_right (by omega) hd
  rw [e1, Int.one_mul]
  have e2 : (2 : Int) ^ d = ((2 ^ d : Nat) : Int) := by rw [Int.natCast_pow]; rfl
  rw [e2]
  generalize 2 ^ d = P at h2 ⊢
  rw [wrap_i64 (by omega)]

def segB : LC := (.seq (.regd [⟨0, 0, ⟨(some 61), .lo (.mv (.t 11)), none⟩⟩,
  ⟨1, 0, ⟨(some 62), .lo (.mv (.t 12)), none⟩⟩,
  ⟨2, 3, ⟨(some 63), .lo (.isl 32 (.t 61) (.t 62)), none⟩⟩,
  ⟨3, 7, ⟨(some 64), .lo (.load true 32 (.t 63)), none⟩⟩,
  ⟨4, 0, ⟨(some 65), .lo (.mv (.t 9)), none⟩⟩,
  ⟨5, 16, ⟨(some 66), .lo (.iarr 17 32 (.t 7) (.t 65)), none⟩⟩,
  ⟨6, 48, ⟨(some 67), .lo (.load true 32 (.t 66)), none⟩⟩,
  ⟨7, 127, ⟨(some 68), .lo (.eq false false (.ar 32 1 false .int) (.t 64) (.t 67)), none⟩⟩,
  ⟨8, 255, ⟨(some 69), .lo (.mv (.t 68)), none⟩⟩,
  ⟨9, 511, ⟨(some 70), .lo (.load true 32 (.t 13)), (some (69, true))⟩⟩,
  ⟨10, 511, ⟨(some 71), .lo (.mv (.t 9)), (some (69, true))⟩⟩,
  ⟨11, 1535, ⟨(some 72), .lo (.iarr 17 32 (.t 7) (.t 71)), (some (69, true))⟩⟩,
  ⟨12, 3583, ⟨(some 73), .lo (.load true 32 (.t 72)), (some (69, true))⟩⟩,
  ⟨13, 8191, ⟨(some 74), .lo (.eq false false (.ar 32 1 false .int) (.t 70) (.t 73)), (some (69, true))⟩⟩,
  ⟨14, 16383, ⟨(some 75), .lo (.pick (.t 69) (.t 74) (.c (.bool false))), none⟩⟩])
 (.cond (.t 75) (.reg [⟨(some 76), .lo (.mv (.t 10)), none⟩,
  ⟨(some 77), .lo (.mv (.t 9)), none⟩,
  ⟨(some 78), .lo (.ari .add (.t 77) (.c (.int .i64 1))), none⟩,
  ⟨(some 79), .lo (.iarr 17 32 (.t 7) (.t 78)), none⟩,
  ⟨(some 80), .lo (.load true 32 (.t 79)), none⟩,
  ⟨(some 81), .lo (.bsl 32 1 (.ar 32 (.int .u8)) [(.i 32 0, 32, (.t 80))]), none⟩,
  ⟨(some 82), .lo (.app 32 32 (.t 76) (.t 81)), none⟩,
  ⟨(some 10), .lo (.mv (.t 82)), none⟩]) (.regd [⟨1, 0, ⟨(some 84), .lo (.mv (.t 11)), none⟩⟩,
  ⟨2, 0, ⟨(some 85), .lo (.mv (.t 12)), none⟩⟩,
  ⟨3, 3, ⟨(some 86), .lo (.isl 32 (.t 84) (.t 85)), none⟩⟩,
  ⟨4, 7, ⟨(some 87), .lo (.load true 32 (.t 86)), none⟩⟩,
  ⟨5, 0, ⟨(some 88), .lo (.load true 32 (.t 13)), none⟩⟩,
  ⟨6, 31, ⟨(some 89), .call 207 [(.t 87), (.t 88)], none⟩⟩,
  ⟨0, 0, ⟨(some 83), .lo (.mv (.t 10)), none⟩⟩,
  ⟨7, 63, ⟨(some 90), .lo (.bsl 32 1 (.ar 32 (.int .u8)) [(.i 32 0, 32, (.t 89))]), none⟩⟩,
  ⟨8, 255, ⟨(some 91), .lo (.app 32 32 (.t 83) (.t 90)), none⟩⟩,
  ⟨9, 511, ⟨(some 10), .lo (.mv (.t 91)), none⟩⟩])))
def segR : LC := (.reg [⟨(some 46), .lo (.mv (.t 12)), none⟩,
  ⟨(some 47), .lo (.ari .add (.t 46) (.c (.int .i64 2))), none⟩,
  ⟨(some 12), .lo (.mv (.t 47)), none⟩])

theorem levB00 {M : Seat} {x : Ctx} {Q : List V → Hp → Nat → Prop} (ok : OkM M) (hx : x.k = 0) {d h : Nat} {l : List Dg} (hd : d ≤ 16) (hlt : (h : Int) < d) (hn : (lev l h).length ≤ 65536) (hlt2 : (0 : Int) < (lev l h).length)
    (e1 : (lev l h).getD 0 Dg.zero = nought h) {rest : List It} {J : List V → Hp → Nat → Prop}
    (hJ : ∀ A H N, Weak M x A H N (fr 99 [(5, .ptr 0 []), (6, .nili), (7, .ptr 1 []), (8, .sl 2 [] 0 (h + 1) 1), (9, .int .i64 h), (10, .sl 3 [] 0 1 32), (11, .lst 32 (lev l h).length (dgs (lev l h))), (12, .int .i64 2), (34, .int .i64 d), (35, .int .i64 h)])
      [(0, .ar 32 17 (fun _ => dg Dg.zero)), (1, .ar 32 17 (fun j => dg (nought j))), (2, .ar 1 (h + 1) (lvV l)), (3, .ar 32 1 (fun j => dg (upN (nought h) (lev l h) j)))] 4 → J A H N) :
    SemK M x Q (.code segB :: .blk 4 :: .code segR :: .inv J :: rest) 5 (fr 99 [(5, .ptr 0 []), (6, .nili), (7, .ptr 1 []), (8, .sl 2 [] 0 (h + 1) 1), (9, .int .i64 h), (10, .nils), (11, .lst 32 (lev l h).length (dgs (lev l h))), (12, .int .i64 0), (13, .ptr 4 []), (34, .int .i64 d), (35, .int .i64 h)])
      ((4, dg ((lev l h).getD 1 (nought h))) :: (0, .ar 32 17 (fun _ => dg Dg.zero)) :: (1, .ar 32 17 (fun j => dg (nought j))) :: (2, .ar 1 (h + 1) (lvV l)) :: []) := by
  have w1 : IntKind.i64.wrap ((0 : Int) + 1) = 1 := rfl
  have w2 : IntKind.i64.wrap ((0 : Int) + 2) = 2 := rfl
  have w3 : IntKind.i64.wrap ((h : Int) + 1) = ((h + 1 : Nat) : Int) := by rw [wrap_i64 (by omega)]; omega
  have hu : upN (nought h) (lev l h) 0 = pair ((lev l h).getD 0 Dg.zero) ((lev l h).getD 1 (nought h)) := by
    rw [getD_in (i := 0) (by omega) Dg.zero (nought h)]; rfl
  have d1 := decide_eq_true e1
  (refine ex_sound 14 _ _ _ _ ?_; simp (maxSteps := 2000000) only [segB, segR, d1, w1, w2, w3, LU, ↓step_conv, ex, Ro, RoD, OpD, epk, epochs, Mv.hx, idsOK, bs, wmask, LK.isW, LK.isA, LK.isP, step, num, X.ev, List.cons_append, List.nil_append, ne_eq, Nat.reduceLT, Int.reduceLE, Int.reduceLT, Int.cast_ofNat_Int, Nat.reducePow, Nat.reduceAnd, Nat.reduceOr, Nat.reduceShiftRight, BEq.rfl, Int.reduceToNat, vpick, vopt, optInt, isInt, vbuild, vbuildOK, vcaps, vcapsOK, elems, elemsOK, List.length_cons, List.length_nil, hget, hset, hdel, hhas, padd, V.ok, V.get, V.set, V.fget, V.fhas, V.fset, noR, Z.v, Z.sz, if_true, if_false, ite_true, ite_false, cond_true, cond_false, reduceCtorEq, forall_const, Nat.reduceAdd, Nat.reduceMul, Nat.reduceSub, Nat.reduceBEq, Nat.reduceEqDiff, dropTo, List.map_cons, List.map_nil, List.filter_cons, List.filter_nil])
  refine ⟨by omega, by omega, by omega, by omega, by omega, by omega, by omega, fun e2 => ?_, fun e2 => ?_⟩
  · have e2 := of_decide_eq_true e2
    refine ⟨⟨by omega, by omega⟩, by omega, by omega, hJ _ _ _ ?_⟩
    refine Weak.fr [0, 1, 2, 581] [] hx (by simp only [fr_length]) (by decide) ?_ ?_
    · simp only [LT, SimL, ne_eq, Nat.reduceLT, SimA, Sim, SimH, frz, hget, hhas, List.getElem?_cons_zero, List.getElem?_cons_succ, List.getElem?_nil, BEq.rfl, if_true, reduceCtorEq, Option.some.injEq, Nat.reduceEqDiff, if_false, List.contains_cons, List.contains_nil, V.ok, V.get, V.fget, V.fhas, Nat.reduceLeDiff, implies_true, Nat.reduceBEq, Int.cast_ofNat_Int]
    · simp only [LT, SimL, ne_eq, Nat.reduceLT, SimA, Sim, SimH, frz, hget, hhas, List.getElem?_cons_zero, List.getElem?_cons_succ, List.getElem?_nil, BEq.rfl, if_true, reduceCtorEq, Option.some.injEq, Nat.reduceEqDiff, if_false, List.contains_cons, List.contains_nil, V.ok, V.get, V.fget, V.fhas, Nat.reduceLeDiff, implies_true, Nat.reduceBEq, Int.cast_ofNat_Int]
      exact ⟨fun _ _ => Sim_lvV _ _ _ _ _, fun i hi => by rw [app_row0 (by rw [hu, e1, e2]; rfl) i hi]; exact (Sim_dg _ _ _ _ _).mpr rfl⟩
  · refine ⟨by omega, _, _, call_pure (runs_Pair ok _ _) ⟨(Sim_dg _ _ _ _ _).mpr rfl, (Sim_dg _ _ _ _ _).mpr rfl, trivial⟩ rfl ⟨rfl, rfl⟩, ?_⟩
    simp only [LU, ↓step_conv, ex, Ro, RoD, OpD, epk, epochs, Mv.hx, idsOK, bs, wmask, LK.isW, LK.isA, LK.isP, step, num, X.ev, List.cons_append, List.nil_append, ne_eq, Nat.reduceLT, Int.reduceLE, Int.reduceLT, Int.cast_ofNat_Int, Nat.reducePow, Nat.reduceAnd, Nat.reduceOr, Nat.reduceShiftRight, BEq.rfl, Int.reduceToNat, vpick, vopt, optInt, isInt, vbuild, vbuildOK, vcaps, vcapsOK, elems, elemsOK, List.length_cons, List.length_nil, hget, hset, hdel, hhas, padd, V.ok, V.get, V.set, V.fget, V.fhas, V.fset, noR, Z.v, Z.sz, if_true, if_false, ite_true, ite_false, cond_true, cond_false, reduceCtorEq, forall_const, Nat.reduceAdd, Nat.reduceMul, Nat.reduceSub, Nat.reduceBEq, Nat.reduceEqDiff, dropTo, List.map_cons, List.map_nil, List.filter_cons, List.filter_nil]
    refine ⟨by omega, .inr (by omega), hJ _ _ _ ?_⟩
    refine Weak.fr [0, 1, 2, 773] [] hx (by simp only [fr_length]) (by decide) ?_ ?_
    · simp only [LT, SimL, ne_eq, Nat.reduceLT, SimA, Sim, SimH, frz, hget, hhas, List.getElem?_cons_zero, List.getElem?_cons_succ, List.getElem?_nil, BEq.rfl, if_true, reduceCtorEq, Option.some.injEq, Nat.reduceEqDiff, if_false, List.contains_cons, List.contains_nil, V.ok, V.get, V.fget, V.fhas, Nat.reduceLeDiff, implies_true, Nat.reduceBEq, Int.cast_ofNat_Int]
    · simp only [LT, SimL, ne_eq, Nat.reduceLT, SimA, Sim, SimH, frz, hget, hhas, List.getElem?_cons_zero, List.getElem?_cons_succ, List.getElem?_nil, BEq.rfl, if_true, reduceCtorEq, Option.some.injEq, Nat.reduceEqDiff, if_false, List.contains_cons, List.contains_nil, V.ok, V.get, V.fget, V.fhas, Nat.reduceLeDiff, implies_true, Nat.reduceBEq, Int.cast_ofNat_Int]
      exact ⟨fun _ _ => Sim_lvV _ _ _ _ _, fun i hi => by rw [app_row0 hu i hi]; exact (Sim_dg _ _ _ _ _).mpr rfl⟩

theorem levB01 {M : Seat} {x : Ctx} {Q : List V → Hp → Nat → Prop} (ok : OkM M) (hx : x.k = 0) {d h : Nat} {l : List Dg} (hd : d ≤ 16) (hlt : (h : Int) < d) (hn : (lev l h).length ≤ 65536) (hlt2 : (0 : Int) < (lev l h).length)
    (e1 : ¬ (lev l h).getD 0 Dg.zero = nought h) {rest : List It} {J : List V → Hp → Nat → Prop}
    (hJ : ∀ A H N, Weak M x A H N (fr 99 [(5, .ptr 0 []), (6, .nili), (7, .ptr 1 []), (8, .sl 2 [] 0 (h + 1) 1), (9, .int .i64 h), (10, .sl 3 [] 0 1 32), (11, .lst 32 (lev l h).length (dgs (lev l h))), (12, .int .i64 2), (34, .int .i64 d), (35, .int .i64 h)])
      [(0, .ar 32 17 (fun _ => dg Dg.zero)), (1, .ar 32 17 (fun j => dg (nought j))), (2, .ar 1 (h + 1) (lvV l)), (3, .ar 32 1 (fun j => dg (upN (nought h) (lev l h) j)))] 4 → J A H N) :
    SemK M x Q (.code segB :: .blk 4 :: .code segR :: .inv J :: rest) 5 (fr 99 [(5, .ptr 0 []), (6, .nili), (7, .ptr 1 []), (8, .sl 2 [] 0 (h + 1) 1), (9, .int .i64 h), (10, .nils), (11, .lst 32 (lev l h).length (dgs (lev l h))), (12, .int .i64 0), (13, .ptr 4 []), (34, .int .i64 d), (35, .int .i64 h)])
      ((4, dg ((lev l h).getD 1 (nought h))) :: (0, .ar 32 17 (fun _ => dg Dg.zero)) :: (1, .ar 32 17 (fun j => dg (nought j))) :: (2, .ar 1 (h + 1) (lvV l)) :: []) := by
  have w1 : IntKind.i64.wrap ((0 : Int) + 1) = 1 := rfl
  have w2 : IntKind.i64.wrap ((0 : Int) + 2) = 2 := rfl
  have w3 : IntKind.i64.wrap ((h : Int) + 1) = ((h + 1 : Nat) : Int) := by rw [wrap_i64 (by omega)]; omega
  have hu : upN (nought h) (lev l h) 0 = pair ((lev l h).getD 0 Dg.zero) ((lev l h).getD 1 (nought h)) := by
    rw [getD_in (i := 0) (by omega) Dg.zero (nought h)]; rfl
  have d1 := decide_eq_false e1
  (refine ex_sound 14 _ _ _ _ ?_; simp (maxSteps := 2000000) only [segB, segR, d1, w1, w2, w3, LU, ↓step_conv, ex, Ro, RoD, OpD, epk, epochs, Mv.hx, idsOK, bs, wmask, LK.isW, LK.isA, LK.isP, step, num, X.ev, List.cons_append, List.nil_append, ne_eq, Nat.reduceLT, Int.reduceLE, Int.reduceLT, Int.cast_ofNat_Int, Nat.reducePow, Nat.reduceAnd, Nat.reduceOr, Nat.reduceShiftRight, BEq.rfl, Int.reduceToNat, vpick, vopt, optInt, isInt, vbuild, vbuildOK, vcaps, vcapsOK, elems, elemsOK, List.length_cons, List.length_nil, hget, hset, hdel, hhas, padd, V.ok, V.get, V.set, V.fget, V.fhas, V.fset, noR, Z.v, Z.sz, if_true, if_false, ite_true, ite_false, cond_true, cond_false, reduceCtorEq, forall_const, Nat.reduceAdd, Nat.reduceMul, Nat.reduceSub, Nat.reduceBEq, Nat.reduceEqDiff, dropTo, List.map_cons, List.map_nil, List.filter_cons, List.filter_nil])
  refine ⟨by omega, by omega, by omega, by omega, ?_⟩
  · refine ⟨by omega, _, _, call_pure (runs_Pair ok _ _) ⟨(Sim_dg _ _ _ _ _).mpr rfl, (Sim_dg _ _ _ _ _).mpr rfl, trivial⟩ rfl ⟨rfl, rfl⟩, ?_⟩
    simp only [LU, ↓step_conv, ex, Ro, RoD, OpD, epk, epochs, Mv.hx, idsOK, bs, wmask, LK.isW, LK.isA, LK.isP, step, num, X.ev, List.cons_append, List.nil_append, ne_eq, Nat.reduceLT, Int.reduceLE, Int.reduceLT, Int.cast_ofNat_Int, Nat.reducePow, Nat.reduceAnd, Nat.reduceOr, Nat.reduceShiftRight, BEq.rfl, Int.reduceToNat, vpick, vopt, optInt, isInt, vbuild, vbuildOK, vcaps, vcapsOK, elems, elemsOK, List.length_cons, List.length_nil, hget, hset, hdel, hhas, padd, V.ok, V.get, V.set, V.fget, V.fhas, V.fset, noR, Z.v, Z.sz, if_true, if_false, ite_true, ite_false, cond_true, cond_false, reduceCtorEq, forall_const, Nat.reduceAdd, Nat.reduceMul, Nat.reduceSub, Nat.reduceBEq, Nat.reduceEqDiff, dropTo, List.map_cons, List.map_nil, List.filter_cons, List.filter_nil]
    refine ⟨by omega, .inr (by omega), hJ _ _ _ ?_⟩
    refine Weak.fr [0, 1, 2, 773] [] hx (by simp only [fr_length]) (by decide) ?_ ?_
    · simp only [LT, SimL, ne_eq, Nat.reduceLT, SimA, Sim, SimH, frz, hget, hhas, List.getElem?_cons_zero, List.getElem?_cons_succ, List.getElem?_nil, BEq.rfl, if_true, reduceCtorEq, Option.some.injEq, Nat.reduceEqDiff, if_false, List.contains_cons, List.contains_nil, V.ok, V.get, V.fget, V.fhas, Nat.reduceLeDiff, implies_true, Nat.reduceBEq, Int.cast_ofNat_Int]
    · simp only [LT, SimL, ne_eq, Nat.reduceLT, SimA, Sim, SimH, frz, hget, hhas, List.getElem?_cons_zero, List.getElem?_cons_succ, List.getElem?_nil, BEq.rfl, if_true, reduceCtorEq, Option.some.injEq, Nat.reduceEqDiff, if_false, List.contains_cons, List.contains_nil, V.ok, V.get, V.fget, V.fhas, Nat.reduceLeDiff, implies_true, Nat.reduceBEq, Int.cast_ofNat_Int]
      exact ⟨fun _ _ => Sim_lvV _ _ _ _ _, fun i hi => by rw [app_row0 hu i hi]; exact (Sim_dg _ _ _ _ _).mpr rfl⟩

theorem levB10 {M : Seat} {x : Ctx} {Q : List V → Hp → Nat → Prop} (ok : OkM M) (hx : x.k = 0) {d h : Nat} {q : Nat} {l : List Dg} (hd : d ≤ 16) (hlt : (h : Int) < d) (hn : (lev l h).length ≤ 65536) (hlt2 : ((2 * q : Nat) : Int) < (lev l h).length)
    (e1 : (lev l h).getD (2 * q) Dg.zero = nought h) {rest : List It} {J : List V → Hp → Nat → Prop}
    (hJ : ∀ A H N, Weak M x A H N (fr 99 [(5, .ptr 0 []), (6, .nili), (7, .ptr 1 []), (8, .sl 2 [] 0 (h + 1) 1), (9, .int .i64 h), (10, .sl 3 [] 0 (q + 1) 32), (11, .lst 32 (lev l h).length (dgs (lev l h))), (12, .int .i64 (2 * (q + 1) : Nat)), (34, .int .i64 d), (35, .int .i64 h)])
      [(0, .ar 32 17 (fun _ => dg Dg.zero)), (1, .ar 32 17 (fun j => dg (nought j))), (2, .ar 1 (h + 1) (lvV l)), (3, .ar 32 (q + 1) (fun j => dg (upN (nought h) (lev l h) j)))] 4 → J A H N) :
    SemK M x Q (.code segB :: .blk 4 :: .code segR :: .inv J :: rest) 5 (fr 99 [(5, .ptr 0 []), (6, .nili), (7, .ptr 1 []), (8, .sl 2 [] 0 (h + 1) 1), (9, .int .i64 h), (10, .sl 3 [] 0 q 32), (11, .lst 32 (lev l h).length (dgs (lev l h))), (12, .int .i64 (2 * q : Nat)), (13, .ptr 4 []), (34, .int .i64 d), (35, .int .i64 h)])
      ((4, dg ((lev l h).getD (2 * q + 1) (nought h))) :: (0, .ar 32 17 (fun _ => dg Dg.zero)) :: (1, .ar 32 17 (fun j => dg (nought j))) :: (2, .ar 1 (h + 1) (lvV l)) :: [(3, .ar 32 q (fun j => dg (upN (nought h) (lev l h) j)))]) := by
  have w1 : IntKind.i64.wrap (((2 * q : Nat) : Int) + 1) = ((2 * q + 1 : Nat) : Int) := by rw [wrap_i64 (by omega)]; omega
  have w2 : IntKind.i64.wrap (((2 * q : Nat) : Int) + 2) = ((2 * (q + 1) : Nat) : Int) := by rw [wrap_i64 (by omega)]; omega
  have w3 : IntKind.i64.wrap ((h : Int) + 1) = ((h + 1 : Nat) : Int) := by rw [wrap_i64 (by omega)]; omega
  have hu : upN (nought h) (lev l h) q = pair ((lev l h).getD (2 * q) Dg.zero) ((lev l h).getD (2 * q + 1) (nought h)) := by
    rw [getD_in (i := 2 * q) (by omega) Dg.zero (nought h)]; rfl
  have d1 := decide_eq_true e1
  (refine ex_sound 14 _ _ _ _ ?_; simp (maxSteps := 2000000) only [segB, segR, d1, w1, w2, w3, LU, ↓step_conv, ex, Ro, RoD, OpD, epk, epochs, Mv.hx, idsOK, bs, wmask, LK.isW, LK.isA, LK.isP, step, num, X.ev, List.cons_append, List.nil_append, ne_eq, Nat.reduceLT, Int.reduceLE, Int.reduceLT, Int.cast_ofNat_Int, Nat.reducePow, Nat.reduceAnd, Nat.reduceOr, Nat.reduceShiftRight, BEq.rfl, Int.reduceToNat, vpick, vopt, optInt, isInt, vbuild, vbuildOK, vcaps, vcapsOK, elems, elemsOK, List.length_cons, List.length_nil, hget, hset, hdel, hhas, padd, V.ok, V.get, V.set, V.fget, V.fhas, V.fset, noR, Z.v, Z.sz, if_true, if_false, ite_true, ite_false, cond_true, cond_false, reduceCtorEq, forall_const, Nat.reduceAdd, Nat.reduceMul, Nat.reduceSub, Nat.reduceBEq, Nat.reduceEqDiff, dropTo, List.map_cons, List.map_nil, List.filter_cons, List.filter_nil])
  refine ⟨by omega, by omega, by omega, by omega, by omega, by omega, by omega, fun e2 => ?_, fun e2 => ?_⟩
  · have e2 := of_decide_eq_true e2
    refine ⟨⟨by omega, by omega⟩, by omega, by omega, hJ _ _ _ ?_⟩
    refine Weak.fr [0, 1, 2, 581] [] hx (by simp only [fr_length]) (by decide) ?_ ?_
    · simp only [LT, SimL, ne_eq, Nat.reduceLT, SimA, Sim, SimH, frz, hget, hhas, List.getElem?_cons_zero, List.getElem?_cons_succ, List.getElem?_nil, BEq.rfl, if_true, reduceCtorEq, Option.some.injEq, Nat.reduceEqDiff, if_false, List.contains_cons, List.contains_nil, V.ok, V.get, V.fget, V.fhas, Nat.reduceLeDiff, implies_true, Nat.reduceBEq, Int.cast_ofNat_Int]
    · simp only [LT, SimL, ne_eq, Nat.reduceLT, SimA, Sim, SimH, frz, hget, hhas, List.getElem?_cons_zero, List.getElem?_cons_succ, List.getElem?_nil, BEq.rfl, if_true, reduceCtorEq, Option.some.injEq, Nat.reduceEqDiff, if_false, List.contains_cons, List.contains_nil, V.ok, V.get, V.fget, V.fhas, Nat.reduceLeDiff, implies_true, Nat.reduceBEq, Int.cast_ofNat_Int]
      exact ⟨fun _ _ => Sim_lvV _ _ _ _ _, fun i hi => by rw [app_row (by rw [hu, e1, e2]; rfl) i hi]; exact (Sim_dg _ _ _ _ _).mpr rfl⟩
  · refine ⟨by omega, _, _, call_pure (runs_Pair ok _ _) ⟨(Sim_dg _ _ _ _ _).mpr rfl, (Sim_dg _ _ _ _ _).mpr rfl, trivial⟩ rfl ⟨rfl, rfl⟩, ?_⟩
    simp only [LU, ↓step_conv, ex, Ro, RoD, OpD, epk, epochs, Mv.hx, idsOK, bs, wmask, LK.isW, LK.isA, LK.isP, step, num, X.ev, List.cons_append, List.nil_append, ne_eq, Nat.reduceLT, Int.reduceLE, Int.reduceLT, Int.cast_ofNat_Int, Nat.reducePow, Nat.reduceAnd, Nat.reduceOr, Nat.reduceShiftRight, BEq.rfl, Int.reduceToNat, vpick, vopt, optInt, isInt, vbuild, vbuildOK, vcaps, vcapsOK, elems, elemsOK, List.length_cons, List.length_nil, hget, hset, hdel, hhas, padd, V.ok, V.get, V.set, V.fget, V.fhas, V.fset, noR, Z.v, Z.sz, if_true, if_false, ite_true, ite_false, cond_true, cond_false, reduceCtorEq, forall_const, Nat.reduceAdd, Nat.reduceMul, Nat.reduceSub, Nat.reduceBEq, Nat.reduceEqDiff, dropTo, List.map_cons, List.map_nil, List.filter_cons, List.filter_nil]
    refine ⟨by omega, .inr (by omega), hJ _ _ _ ?_⟩
    refine Weak.fr [0, 1, 2, 773] [] hx (by simp only [fr_length]) (by decide) ?_ ?_
    · simp only [LT, SimL, ne_eq, Nat.reduceLT, SimA, Sim, SimH, frz, hget, hhas, List.getElem?_cons_zero, List.getElem?_cons_succ, List.getElem?_nil, BEq.rfl, if_true, reduceCtorEq, Option.some.injEq, Nat.reduceEqDiff, if_false, List.contains_cons, List.contains_nil, V.ok, V.get, V.fget, V.fhas, Nat.reduceLeDiff, implies_true, Nat.reduceBEq, Int.cast_ofNat_Int]
    · simp only [LT, SimL, ne_eq, Nat.reduceLT, SimA, Sim, SimH, frz, hget, hhas, List.getElem?_cons_zero, List.getElem?_cons_succ, List.getElem?_nil, BEq.rfl, if_true, reduceCtorEq, Option.some.injEq, Nat.reduceEqDiff, if_false, List.contains_cons, List.contains_nil, V.ok, V.get, V.fget, V.fhas, Nat.reduceLeDiff, implies_true, Nat.reduceBEq, Int.cast_ofNat_Int]
      exact ⟨fun _ _ => Sim_lvV _ _ _ _ _, fun i hi => by rw [app_row hu i hi]; exact (Sim_dg _ _ _ _ _).mpr rfl⟩

theorem levB11 {M : Seat} {x : Ctx} {Q : List V → Hp → Nat → Prop} (ok : OkM M) (hx : x.k = 0) {d h : Nat} {q : Nat} {l : List Dg} (hd : d ≤ 16) (hlt : (h : Int) < d) (hn : (lev l h).length ≤ 65536) (hlt2 : ((2 * q : Nat) : Int) < (lev l h).length)
    (e1 : ¬ (lev l h).getD (2 * q) Dg.zero = nought h) {rest : List It} {J : List V → Hp → Nat → Prop}
    (hJ : ∀ A H N, Weak M x A H N (fr 99 [(5, .ptr 0 []), (6, .nili), (7, .ptr 1 []), (8, .sl 2 [] 0 (h + 1) 1), (9, .int .i64 h), (10, .sl 3 [] 0 (q + 1) 32), (11, .lst 32 (lev l h).length (dgs (lev l h))), (12, .int .i64 (2 * (q + 1) : Nat)), (34, .int .i64 d), (35, .int .i64 h)])
      [(0, .ar 32 17 (fun _ => dg Dg.zero)), (1, .ar 32 17 (fun j => dg (nought j))), (2, .ar 1 (h + 1) (lvV l)), (3, .ar 32 (q + 1) (fun j => dg (upN (nought h) (lev l h) j)))] 4 → J A H N) :
    SemK M x Q (.code segB :: .blk 4 :: .code segR :: .inv J :: rest) 5 (fr 99 [(5, .ptr 0 []), (6, .nili), (7, .ptr 1 []), (8, .sl 2 [] 0 (h + 1) 1), (9, .int .i64 h), (10, .sl 3 [] 0 q 32), (11, .lst 32 (lev l h).length (dgs (lev l h))), (12, .int .i64 (2 * q : Nat)), (13, .ptr 4 []), (34, .int .i64 d), (35, .int .i64 h)])
      ((4, dg ((lev l h).getD (2 * q + 1) (nought h))) :: (0, .ar 32 17 (fun _ => dg Dg.zero)) :: (1, .ar 32 17 (fun j => dg (nought j))) :: (2, .ar 1 (h + 1) (lvV l)) :: [(3, .ar 32 q (fun j => dg (upN (nought h) (lev l h) j)))]) := by
  have w1 : IntKind.i64.wrap (((2 * q : Nat) : Int) + 1) = ((2 * q + 1 : Nat) : Int) := by rw [wrap_i64 (by omega)]; omega
  have w2 : IntKind.i64.wrap (((2 * q : Nat) : Int) + 2) = ((2 * (q + 1) : Nat) : Int) := by rw [wrap_i64 (by omega)]; omega
  have w3 : IntKind.i64.wrap ((h : Int) + 1) = ((h + 1 : Nat) : Int) := by rw [wrap_i64 (by omega)]; omega
  have hu : upN (nought h) (lev l h) q = pair ((lev l h).getD (2 * q) Dg.zero) ((lev l h).getD (2 * q + 1) (nought h)) := by
    rw [getD_in (i := 2 * q) (by omega) Dg.zero (nought h)]; rfl
  have d1 := decide_eq_false e1
  (refine ex_sound 14 _ _ _ _ ?_; simp (maxSteps := 2000000) only [segB, segR, d1, w1, w2, w3, LU, ↓step_conv, ex, Ro, RoD, OpD, epk, epochs, Mv.hx, idsOK, bs, wmask, LK.isW, LK.isA, LK.isP, step, num, X.ev, List.cons_append, List.nil_append, ne_eq, Nat.reduceLT, Int.reduceLE, Int.reduceLT, Int.cast_ofNat_Int, Nat.reducePow, Nat.reduceAnd, Nat.reduceOr, Nat.reduceShiftRight, BEq.rfl, Int.reduceToNat, vpick, vopt, optInt, isInt, vbuild, vbuildOK, vcaps, vcapsOK, elems, elemsOK, List.length_cons, List.length_nil, hget, hset, hdel, hhas, padd, V.ok, V.get, V.set, V.fget, V.fhas, V.fset, noR, Z.v, Z.sz, if_true, if_false, ite_true, ite_false, cond_true, cond_false, reduceCtorEq, forall_const, Nat.reduceAdd, Nat.reduceMul, Nat.reduceSub, Nat.reduceBEq, Nat.reduceEqDiff, dropTo, List.map_cons, List.map_nil, List.filter_cons, List.filter_nil])
  refine ⟨by omega, by omega, by omega, by omega, ?_⟩
  · refine ⟨by omega, _, _, call_pure (runs_Pair ok _ _) ⟨(Sim_dg _ _ _ _ _).mpr rfl, (Sim_dg _ _ _ _ _).mpr rfl, trivial⟩ rfl ⟨rfl, rfl⟩, ?_⟩
    simp only [LU, ↓step_conv, ex, Ro, RoD, OpD, epk, epochs, Mv.hx, idsOK, bs, wmask, LK.isW, LK.isA, LK.isP, step, num, X.ev, List.cons_append, List.nil_append, ne_eq, Nat.reduceLT, Int.reduceLE, Int.reduceLT, Int.cast_ofNat_Int, Nat.reducePow, Nat.reduceAnd, Nat.reduceOr, Nat.reduceShiftRight, BEq.rfl, Int.reduceToNat, vpick, vopt, optInt, isInt, vbuild, vbuildOK, vcaps, vcapsOK, elems, elemsOK, List.length_cons, List.length_nil, hget, hset, hdel, hhas, padd, V.ok, V.get, V.set, V.fget, V.fhas, V.fset, noR, Z.v, Z.sz, if_true, if_false, ite_true, ite_false, cond_true, cond_false, reduceCtorEq, forall_const, Nat.reduceAdd, Nat.reduceMul, Nat.reduceSub, Nat.reduceBEq, Nat.reduceEqDiff, dropTo, List.map_cons, List.map_nil, List.filter_cons, List.filter_nil]
    refine ⟨by omega, .inr (by omega), hJ _ _ _ ?_⟩
    refine Weak.fr [0, 1, 2, 773] [] hx (by simp only [fr_length]) (by decide) ?_ ?_
    · simp only [LT, SimL, ne_eq, Nat.reduceLT, SimA, Sim, SimH, frz, hget, hhas, List.getElem?_cons_zero, List.getElem?_cons_succ, List.getElem?_nil, BEq.rfl, if_true, reduceCtorEq, Option.some.injEq, Nat.reduceEqDiff, if_false, List.contains_cons, List.contains_nil, V.ok, V.get, V.fget, V.fhas, Nat.reduceLeDiff, implies_true, Nat.reduceBEq, Int.cast_ofNat_Int]
    · simp only [LT, SimL, ne_eq, Nat.reduceLT, SimA, Sim, SimH, frz, hget, hhas, List.getElem?_cons_zero, List.getElem?_cons_succ, List.getElem?_nil, BEq.rfl, if_true, reduceCtorEq, Option.some.injEq, Nat.reduceEqDiff, if_false, List.contains_cons, List.contains_nil, V.ok, V.get, V.fget, V.fhas, Nat.reduceLeDiff, implies_true, Nat.reduceBEq, Int.cast_ofNat_Int]
      exact ⟨fun _ _ => Sim_lvV _ _ _ _ _, fun i hi => by rw [app_row hu i hi]; exact (Sim_dg _ _ _ _ _).mpr rfl⟩

theorem levB {M : Seat} {x : Ctx} {Q : List V → Hp → Nat → Prop} (ok : OkM M) (hx : x.k = 0) {d h q : Nat} {l : List Dg} (hd : d ≤ 16) (hlt : (h : Int) < d) (hn : (lev l h).length ≤ 65536) (hlt2 : ((2 * q : Nat) : Int) < (lev l h).length)
    {rest : List It} {J : List V → Hp → Nat → Prop}
    (hJ : ∀ A H N, Weak M x A H N (fr 99 [(5, .ptr 0 []), (6, .nili), (7, .ptr 1 []), (8, .sl 2 [] 0 (h + 1) 1), (9, .int .i64 h), (10, if q + 1 = 0 then .nils else .sl 3 [] 0 (q + 1) 32), (11, .lst 32 (lev l h).length (dgs (lev l h))), (12, .int .i64 (2 * (q + 1) : Nat)), (34, .int .i64 d), (35, .int .i64 h)])
      ((0, .ar 32 17 (fun _ => dg Dg.zero)) :: (1, .ar 32 17 (fun j => dg (nought j))) :: (2, .ar 1 (h + 1) (lvV l)) :: (if q + 1 = 0 then [] else [(3, .ar 32 (q + 1) (fun j => dg (upN (nought h) (lev l h) j)))])) 4 → J A H N) :
    SemK M x Q (.code segB :: .blk 4 :: .code segR :: .inv J :: rest) 5 (fr 99 [(5, .ptr 0 []), (6, .nili), (7, .ptr 1 []), (8, .sl 2 [] 0 (h + 1) 1), (9, .int .i64 h), (10, if q = 0 then .nils else .sl 3 [] 0 q 32), (11, .lst 32 (lev l h).length (dgs (lev l h))), (12, .int .i64 (2 * q : Nat)), (13, .ptr 4 []), (34, .int .i64 d), (35, .int .i64 h)])
      ((4, dg ((lev l h).getD (2 * q + 1) (nought h))) :: (0, .ar 32 17 (fun _ => dg Dg.zero)) :: (1, .ar 32 17 (fun j => dg (nought j))) :: (2, .ar 1 (h + 1) (lvV l)) :: (if q = 0 then [] else [(3, .ar 32 q (fun j => dg (upN (nought h) (lev l h) j)))])) := by
  by_cases hq0 : q = 0
  · subst hq0
    by_cases e1 : (lev l h).getD 0 Dg.zero = nought h
    · exact levB00 ok hx hd hlt hn hlt2 e1 hJ
    · exact levB01 ok hx hd hlt hn hlt2 e1 hJ
  · simp only [if_neg hq0]
    by_cases e1 : (lev l h).getD (2 * q) Dg.zero = nought h
    · exact levB10 ok hx hd hlt hn hlt2 e1 hJ
    · exact levB11 ok hx hd hlt hn hlt2 e1 hJ
end Mv
