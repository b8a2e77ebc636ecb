/- CommitSteps. -/
import Derived.Test.YtfoaeafobdamcaaDoorW1
import Derived.Test.YtfoaeafobdamcaaDoorY3
import Derived.Test.YtfoaeafobdamcaaDoorY5
import Derived.Test.YtfoaeafobdamcaaDoorMwC14
import Derived.Test.YtfoaeafobdamcaaDoorDl
set_option linter.unusedSimpArgs false
set_option linter.unusedVariables false
namespace Mv
open Go
set_option maxRecDepth 20000
set_option maxHeartbeats 4000000
set_option linter.unusedSimpArgs false

structure OkCS (M : Seat) : Prop where
  t : OkT M
  d : OkD M
  k14 : chkF M 14 f14 = true

/-- A list of instructions, as an argument. -/
def insA (l : List In) (v : V) : Prop := v = insL l ∨ (v = .nils ∧ l = [])
/-- The machine that its words make. -/
def ldM (l : List In) : Mc := ⟨memW (min l.length 8192) (fun j => wordOf (l.getD j default)), fun _ => 0#64, 0#64, false, 0#64⟩
def m30 (n : Int) : Nat := (BitVec.ofInt 64 n % 30#64).toNat
theorem m30_lt (n : Int) : m30 n < 30 := by rw [m30, BitVec.toNat_umod]; exact Nat.mod_lt _ (by decide)
theorem m30_int (n : Int) : (BitVec.ofInt 64 n % 30#64).toInt = (m30 n : Int) := by
  have := m30_lt n
  rw [BitVec.toInt_eq_toNat_cond, if_pos (by unfold m30 at this; omega)]; rfl
def st1 (l : List In) (rs : List (BitVec 64)) : SM := ⟨wNew 16, [], 0, fun _ => Dg.zero, { ldM l with g := regF rs (min 16 rs.length) }⟩

theorem memN_congr {f g : Nat → BitVec 64} (h : ∀ j, j < 8192 → f j = g j) : ∀ k q, memN f k q = memN g k q
  | 0, q => by
    rw [memN, memN]
    split
    · rename_i hq; rw [h q hq]
    · rfl
  | k + 1, q => by rw [memN, memN, memN_congr h k, memN_congr h k]

/-- The last place that was changed among the first, and how many there are. -/
def chg (f g : Nat → BitVec 64) : Nat → Nat × Nat
  | 0 => (0, 0)
  | i + 1 => if g i = f i then chg f g i else (i, (chg f g i).2 + 1)
theorem chg_lt (f g : Nat → BitVec 64) : ∀ i, ((chg f g i).1 < i ∨ (chg f g i).1 = 0) ∧ (chg f g i).2 ≤ i ∧ ((chg f g i).2 = 0 → ∀ j, j < i → g j = f j) ∧ ((chg f g i).2 = 1 → ∀ j, j < i → j ≠ (chg f g i).1 → g j = f j)
  | 0 => ⟨.inr rfl, by simp [chg], fun _ j hj => absurd hj (Nat.not_lt_zero _), fun _ j hj => absurd hj (Nat.not_lt_zero _)⟩
  | i + 1 => by
    obtain ⟨h1, h2, h3, h4⟩ := chg_lt f g i
    rw [chg]
    by_cases h : g i = f i
    · rw [if_pos h]
      refine ⟨by omega, by omega, fun h0 j hj => ?_, fun h0 j hj hne => ?_⟩
      · by_cases e : j = i
        · rw [e, h]
        · exact h3 h0 j (by omega)
      · by_cases e : j = i
        · rw [e, h]
        · exact h4 h0 j (by omega) hne
    · rw [if_neg h]
      refine ⟨.inl (Nat.lt_succ_self i), by show _ + 1 ≤ _; omega, fun h0 => absurd h0 (Nat.succ_ne_zero _), fun h0 j hj hne => ?_⟩
      have h0' : (chg f g i).2 = 0 := by have : (chg f g i).2 + 1 = 1 := h0; omega
      exact h3 h0' j (by have : j ≠ i := hne; omega)

theorem ofInt_sm' (q : Nat) (hq : q < 9000) : (BitVec.ofInt 64 (q : Int)).toNat = q := by
  rw [ofInt_nat' _ (by omega) (by omega)]; rfl
def csL2 : LC := (.seq (.reg [A1 121 (.ari .lss (.t 120) (.c (.int .i64 8192)))])
 ((.seq (.cond (.t 121) (.skip) (.exit 2))
 ((.seq (.block 3 ((.seq (.reg [A1 122 (.mv (.t 120)),
  A1 123 (.idx 8192 1 false (.t 119) (.t 120)),
  A1 20 (.mv (.t 122)),
  A1 21 (.mv (.t 123))])
 ((.seq (.reg [A1 124 (.mv (.t 21)),
  A1 125 (.mv (.t 12)),
  A1 126 (.mv (.t 20)),
  A1 127 (.nilc (.t 125)),
  A1 128 (.fadr 0 (.t 127)),
  A1 129 (.iarr 8192 1 (.t 128) (.t 126)),
  A1 130 (.load false 1 (.t 129)),
  A1 131 (.ari .neq (.t 124) (.t 130))])
 (.cond (.t 131) ((.seq (.reg [A1 132 (.mv (.t 20)),
  A1 133 (.conv .u64 (.t 132)),
  A1 18 (.mv (.t 133))])
 (.reg [A1 134 (.mv (.t 19)),
  A1 135 (.ari .add (.t 134) (.c (.int .i64 1))),
  A1 19 (.mv (.t 135))]))) (.skip)))))))
 (.reg [A1 136 (.ari .add (.t 120) (.c (.int .i64 1))),
  A1 120 (.mv (.t 136))]))))))
def csT2 : LC := (.seq ((.seq (.reg [A1 137 (.mv (.t 19)),
  A1 138 (.ari .gtr (.t 137) (.c (.int .i64 1)))])
 (.cond (.t 138) ((.seq (.reg [A1 6 (.mv (.c (.bool true)))])
 (.ret))) (.skip))))
 ((.seq (.reg [A1 140 (.mv (.t 12)),
  A1 141 (.mv (.t 18)),
  ⟨(some 142), .call 50 [(.t 140), (.t 141)], none⟩,
  A1 139 (.mv (.t 142)),
  A1 143 (.ext (.t 139) 0),
  A1 144 (.ext (.t 139) 1),
  A1 22 (.alloc (.st (.cons (.int .u64) (.cons .slice .nil)))),
  A0 (.store 2 (.t 22) (.t 143)),
  A1 8 (.mv (.t 144))])
 ((.seq (.regd [⟨0, 0, A1 146 (.load true 32 (.t 11))⟩,
  ⟨1, 0, A1 147 (.mv (.t 18))⟩,
  ⟨2, 0, A1 148 (.load true 2 (.t 22))⟩,
  ⟨3, 0, A1 149 (.mv (.t 7))⟩,
  ⟨4, 0, A1 150 (.mv (.t 18))⟩,
  ⟨5, 8, A1 151 (.nilc (.t 149))⟩,
  ⟨6, 40, A1 152 (.fadr 0 (.t 151))⟩,
  ⟨7, 120, A1 153 (.iarr 8192 1 (.t 152) (.t 150))⟩,
  ⟨8, 248, A1 154 (.load false 1 (.t 153))⟩,
  ⟨9, 511, ⟨(some 155), .call 52 [(.t 146), (.t 147), (.t 148), (.t 154)], none⟩⟩,
  ⟨10, 1023, A1 145 (.mv (.t 155))⟩,
  ⟨11, 2047, A1 156 (.ext (.t 145) 0)⟩,
  ⟨13, 0, A1 23 (.alloc (.ar 32 (.int .u8)))⟩,
  ⟨14, 8191, A0 (.store 32 (.t 23) (.t 156))⟩,
  ⟨12, 2047, A1 157 (.ext (.t 145) 1)⟩,
  ⟨15, 32767, A1 15 (.mv (.t 157))⟩])
 ((.seq (.reg [A1 158 (.mv (.t 8)),
  A1 159 (.eq false true (.iface [74]) (.t 158) (.c .nili)),
  A1 160 (.mv (.t 159)),
  A2 161 160 true (.mv (.t 15)),
  A2 162 160 true (.eq false true (.iface [74]) (.t 161) (.c .nili)),
  A1 163 (.pick (.t 160) (.t 162) (.c (.bool false))),
  A1 164 (.mv (.t 163)),
  A2 165 164 true (.load true 32 (.t 23)),
  A2 166 164 true (.load true 32 (.t 13)),
  A2 167 164 true (.eq false false (.ar 32 1 false .int) (.t 165) (.t 166)),
  A1 168 (.pick (.t 164) (.t 167) (.c (.bool false))),
  A1 169 (.mv (.t 168)),
  A2 170 169 true (.mv (.t 19)),
  A2 171 169 true (.ari .gtr (.t 170) (.c (.int .i64 0))),
  A2 172 169 true (.mv (.t 171)),
  A2 173 172 false (.load true 32 (.t 13)),
  A2 174 172 false (.load true 32 (.t 11)),
  A2 175 172 false (.eq false false (.ar 32 1 false .int) (.t 173) (.t 174)),
  A2 176 169 true (.pick (.t 172) (.c (.bool true)) (.t 175)),
  A1 177 (.pick (.t 169) (.t 176) (.c (.bool false))),
  A1 6 (.mv (.t 177))])
 (.ret))))))))
theorem cs_cmp {M : Seat} (ok : OkCS M) (s t : Mc) {x : Ctx} (hx : x.k = 0) {A : List V} {H : Hp} {N : Nat}
    (hw : Weak M x A H N (fr 178 [(7, .ptr 0 []), (11, .ptr 2 []), (12, .ptr 1 []), (13, .ptr 3 []), (18, .int .u64 (0 : Nat)), (19, .int .i64 (0 : Nat)), (119, .ar 1 8192 (fun j => W (t.f j))), (120, .int .i64 (0 : Nat))]) [(0, t.v), (1, s.v), (2, dg (memN s.f 13 0)), (3, dg (memN t.f 13 0))] 4) :
    LoopK M x (RetS M x [RVr.tmp 6] fun r H' k' => r = .bool true ∧ H' = [] ∧ k' = 0) csL2 [.blk 2, .code csT2] A H N := by
  have okA := ok.t.okA
  have hFv : ∀ m : Mc, m.v = mach m.f m.g m.pc m.hl m.xt := fun _ => rfl
  refine loop_rule (σ := Nat) (fun i => i ≤ 8192) (fun i => fr 178 [(7, .ptr 0 []), (11, .ptr 2 []), (12, .ptr 1 []), (13, .ptr 3 []), (18, .int .u64 (chg s.f t.f i).1), (19, .int .i64 (chg s.f t.f i).2), (119, .ar 1 8192 (fun j => W (t.f j))), (120, .int .i64 i)]) (fun _ => [(0, t.v), (1, s.v), (2, dg (memN s.f 13 0)), (3, dg (memN t.f 13 0))]) (fun _ => 4) (fun i => 8192 - i) 0 (by omega) hw ?_
  intro i hi
  refine ex_sound 2000 _ _ _ _ ?_
  unfold csL2
  obtain ⟨c1, c2, c3, c4⟩ := chg_lt s.f t.f i
  by_cases h8 : i = 8192
  · subst h8
    generalize chg s.f t.f 8192 = c at *
    have hlt : c.1 < 8192 := by omega
    by_cases hc : c.2 ≤ 1
    · have d1 : ((1 : Int) < (c.2 : Int)) = False := eq_false (by omega)
      have hp : (pth s.f c.1).length = 13 := by simp [pth]
      have hfu := fold_upd s.f c.1 hlt (t.f c.1)
      have hnx : memN (upd s.f c.1 (t.f c.1)) 13 0 = memN t.f 13 0 := memN_congr (fun j hj => by
        unfold upd
        by_cases e : j = c.1
        · rw [if_pos e, e]
        · rw [if_neg e]
          rcases Nat.lt_or_ge c.2 1 with h | h
          · exact (c3 (by omega) j hj).symm
          · exact (c4 (by omega) j hj e).symm) 13 0
      rw [hnx] at hfu
      have hW := runs_Write okA (memN s.f 13 0) c.1 hlt (s.f c.1) (pth s.f c.1) hp (fold_self s.f c.1 hlt) (t.f c.1)
      rw [hfu] at hW
      (simp (maxSteps := 4000000) only [csT2, d1, hFv, mach, LZ, seval, reduceCtorEq, forall_const])
      refine call_fA (runs_Prove okA s.f s.g s.pc s.hl s.xt c.1 hlt) (by decide) (by ((try simp only [mach, dg, LY, seval, reduceCtorEq, implies_true]); first | done | exact True.intro | rfl)) (by simp only [mach, dg, LX, implies_true]) (by simp only [mach, dg, LX, implies_true]) ?_
      (simp (maxSteps := 4000000) only [tup2, hFv, mach, LZ, seval, reduceCtorEq, forall_const])
      repeat (refine And.intro (by first | omega | exact True.intro | rfl) ?_)
      refine opd_pA (hW) (by ((try simp only [LT, LY, seval, reduceCtorEq, implies_true]); first | done | exact True.intro | rfl | ((intro j hj; exact (pth_at _ _ _ hj).symm)))) (by first | rfl | (simp only [LN, LP, V.ren, tup2, tup3])) (by simp only [LT, LX, implies_true]) ?_
      rcases Nat.lt_or_ge c.2 1 with h1 | h1
      · have d2 : ((0 : Int) < (c.2 : Int)) = False := eq_false (by omega)
        have hrt : memN t.f 13 0 = memN s.f 13 0 := memN_congr (fun j hj => c3 (by omega) j hj) 13 0
        (simp (maxSteps := 4000000) only [tup2, d2, hrt, LZ, seval, reduceCtorEq, forall_const])
        exact RetS.mkZ hx [] ⟨rfl, rfl, rfl⟩
      · have d2 : ((0 : Int) < (c.2 : Int)) = True := eq_true (by omega)
        (simp (maxSteps := 4000000) only [tup2, d2, LZ, seval, reduceCtorEq, forall_const])
        exact RetS.mkZ hx [] ⟨rfl, rfl, rfl⟩
    · have d1 : ((1 : Int) < (c.2 : Int)) = True := eq_true (by omega)
      (simp (maxSteps := 4000000) only [csT2, d1, hFv, mach, LZ, seval, reduceCtorEq, forall_const])
      exact RetS.mkZ hx [] ⟨rfl, rfl, rfl⟩
  · have d0 : ((i : Int) < 8192) = True := eq_true (by omega)
    have w0 : IntKind.i64.wrap ((i : Int) + 1) = ((i + 1 : Nat) : Int) := by rw [wrap_i64 (by omega)]; omega
    have w1 : IntKind.i64.wrap (((chg s.f t.f i).2 : Int) + 1) = (((chg s.f t.f i).2 + 1 : Nat) : Int) := by rw [wrap_i64 (by omega)]; omega
    have hWi : W (BitVec.ofInt 64 (i : Int)) = .int .u64 (i : Int) := by
      unfold W; rw [ofInt_sm' i (by omega)]
    by_cases he : t.f i = s.f i
    · have e1 : chg s.f t.f (i + 1) = chg s.f t.f i := by rw [chg, if_pos he]
      (simp (maxSteps := 4000000) only [d0, w0, hFv, mach, he, LZ, seval, reduceCtorEq, forall_const])
      repeat (refine And.intro (by first | omega | exact True.intro | rfl) ?_)
      refine ⟨i + 1, by omega, by omega, ?_⟩
      rw [e1]
      refine Weak.fr [0, 1, 2, 3] [] hx (by simp only [fr_length]) (by decide) ?_ ?_
      · simp only [LY, seval, reduceCtorEq, implies_true]
      · simp only [hFv, mach, dg, LY, seval, reduceCtorEq, implies_true]
    · have e1 : chg s.f t.f (i + 1) = (i, (chg s.f t.f i).2 + 1) := by rw [chg, if_neg he]
      (simp (maxSteps := 4000000) only [d0, w0, w1, hFv, mach, he, LZ, seval, reduceCtorEq, forall_const])
      repeat (refine And.intro (by first | omega | exact True.intro | rfl) ?_)
      refine ⟨i + 1, by omega, by omega, ?_⟩
      rw [e1]
      refine Weak.fr [0, 1, 2, 3] [] hx (by simp only [fr_length]) (by decide) ?_ ?_
      · simp only [hWi, LY, seval, reduceCtorEq, implies_true]
      · simp only [hFv, mach, dg, LY, seval, reduceCtorEq, implies_true]
def csL : LC := (.seq (.reg [A1 49 (.ari .lss (.t 48) (.t 47))])
 ((.seq (.cond (.t 49) (.skip) (.exit 0))
 ((.seq (.block 1 ((.seq (.reg [A1 50 (.mv (.t 48)),
  A1 10 (.mv (.t 50))])
 (.regd [⟨0, 0, A1 51 (.mv (.t 7))⟩,
  ⟨1, 0, A1 52 (.mv (.t 10))⟩,
  ⟨2, 0, A1 53 (.mv (.t 1))⟩,
  ⟨3, 0, A1 54 (.mv (.t 10))⟩,
  ⟨4, 12, A1 55 (.isl 1 (.t 53) (.t 54))⟩,
  ⟨5, 28, A1 56 (.load false 1 (.t 55))⟩,
  ⟨6, 1, A1 57 (.nilc (.t 51))⟩,
  ⟨7, 65, A1 58 (.fadr 8192 (.t 57))⟩,
  ⟨8, 255, A1 59 (.iarr 16 1 (.t 58) (.t 52))⟩,
  ⟨9, 511, A0 (.store 1 (.t 59) (.t 56))⟩]))))
 (.reg [A1 60 (.ari .add (.t 48) (.c (.int .i64 1))),
  A1 48 (.mv (.t 60))]))))))
def csT : LC := (.seq (.reg [A1 61 (.mv (.t 7)),
  A1 62 (.mv (.t 9)),
  A1 63 (.mv (.t 2)),
  A1 64 (.conv .u64 (.t 63)),
  A1 65 (.ari .rem (.t 64) (.c (.int .u64 30))),
  A1 66 (.conv .i64 (.t 65)),
  ⟨(some 67), .call 71 [(.t 61), (.t 62), (.t 66)], none⟩])
 ((.seq (.reg [A1 69 (.mv (.t 7)),
  ⟨(some 70), .call 51 [(.t 69)], none⟩,
  A1 68 (.mv (.t 70)),
  A1 71 (.ext (.t 68) 0),
  A1 72 (.ext (.t 68) 1),
  A1 11 (.alloc (.ar 32 (.int .u8))),
  A0 (.store 32 (.t 11) (.t 71)),
  A1 8 (.mv (.t 72))])
 ((.seq (.reg [A1 73 (.mv (.t 7)),
  ⟨(some 74), .call 49 [(.t 73)], none⟩,
  A1 12 (.mv (.t 74))])
 ((.seq ((.seq (.reg [A1 75 (.mv (.t 8)),
  A1 76 (.eq true true (.iface [74]) (.t 75) (.c .nili)),
  A1 77 (.mv (.t 76)),
  A2 78 77 false (.mv (.t 12)),
  A2 79 77 false (.eq false true .ptr (.t 78) (.c .nilp)),
  A1 80 (.pick (.t 77) (.c (.bool true)) (.t 79))])
 (.cond (.t 80) ((.seq (.reg [A1 6 (.mv (.c (.bool false)))])
 (.ret))) (.skip))))
 ((.seq (.reg [A1 81 (.mv (.t 7)),
  A1 82 (.mv (.t 9)),
  ⟨(some 83), .call 70 [(.t 81), (.t 82)], none⟩])
 ((.seq (.reg [A1 85 (.mv (.t 7)),
  ⟨(some 86), .call 51 [(.t 85)], none⟩,
  A1 84 (.mv (.t 86)),
  A1 87 (.ext (.t 84) 0),
  A1 88 (.ext (.t 84) 1),
  A1 13 (.alloc (.ar 32 (.int .u8))),
  A0 (.store 32 (.t 13) (.t 87)),
  A1 8 (.mv (.t 88))])
 ((.seq (.reg [A1 90 (.mv (.t 7)),
  ⟨(some 91), .call 55 [(.t 90)], none⟩,
  A1 89 (.mv (.t 91)),
  A1 92 (.ext (.t 89) 0),
  A1 93 (.ext (.t 89) 1),
  A1 14 (.alloc (.st (.cons (.ar 16 (.int .u64)) (.cons (.int .u64) (.cons .bool (.cons (.int .u64) .nil)))))),
  A0 (.store 19 (.t 14) (.t 92)),
  A1 15 (.mv (.t 93))])
 ((.seq (.reg [A1 95 (.mv (.t 7)),
  ⟨(some 96), .call 54 [(.t 95)], none⟩,
  A1 94 (.mv (.t 96)),
  A1 97 (.ext (.t 94) 0),
  A1 98 (.ext (.t 94) 1),
  A1 16 (.alloc (.ar 32 (.int .u8))),
  A0 (.store 32 (.t 16) (.t 97)),
  A1 17 (.mv (.t 98))])
 ((.seq ((.seq (.regd [⟨0, 0, A1 99 (.mv (.t 8))⟩,
  ⟨1, 1, A1 100 (.eq true true (.iface [74]) (.t 99) (.c .nili))⟩,
  ⟨2, 3, A1 101 (.mv (.t 100))⟩,
  ⟨3, 7, A2 102 101 false (.mv (.t 15))⟩,
  ⟨4, 15, A2 103 101 false (.eq true true (.iface [74]) (.t 102) (.c .nili))⟩,
  ⟨5, 31, A1 104 (.pick (.t 101) (.c (.bool true)) (.t 103))⟩,
  ⟨6, 63, A1 105 (.mv (.t 104))⟩,
  ⟨7, 127, A2 106 105 false (.mv (.t 17))⟩,
  ⟨8, 255, A2 107 105 false (.eq true true (.iface [74]) (.t 106) (.c .nili))⟩,
  ⟨9, 511, A1 108 (.pick (.t 105) (.c (.bool true)) (.t 107))⟩,
  ⟨10, 1023, A1 109 (.mv (.t 108))⟩,
  ⟨12, 2047, A2 111 109 false (.load true 32 (.t 13))⟩,
  ⟨13, 2047, A2 112 109 false (.load true 19 (.t 14))⟩,
  ⟨14, 8191, ⟨(some 113), .call 62 [(.t 111), (.t 112)], (some (109, false))⟩⟩,
  ⟨11, 2047, A2 110 109 false (.load true 32 (.t 16))⟩,
  ⟨15, 32767, A2 114 109 false (.eq true false (.ar 32 1 false .int) (.t 110) (.t 113))⟩,
  ⟨16, 65535, A1 115 (.pick (.t 109) (.c (.bool true)) (.t 114))⟩])
 (.cond (.t 115) ((.seq (.reg [A1 6 (.mv (.c (.bool false)))])
 (.ret))) (.skip))))
 ((.seq (.reg [A1 18 (.mv (.c (.int .u64 0))),
  A1 19 (.mv (.c (.int .i64 0)))])
 ((.seq ((.seq (.reg [A1 116 (.mv (.t 7)),
  A1 117 (.nilc (.t 116)),
  A1 118 (.fadr 0 (.t 117)),
  A1 119 (.load true 8192 (.t 118)),
  A1 120 (.mv (.c (.int .i64 0)))])
 (.block 2 (.loop ((.seq (.reg [A1 121 (.ari .lss (.t 120) (.c (.int .i64 8192)))])
 ((.seq (.cond (.t 121) (.skip) (.exit 2))
 ((.seq (.block 3 ((.seq (.reg [A1 122 (.mv (.t 120)),
  A1 123 (.idx 8192 1 false (.t 119) (.t 120)),
  A1 20 (.mv (.t 122)),
  A1 21 (.mv (.t 123))])
 ((.seq (.reg [A1 124 (.mv (.t 21)),
  A1 125 (.mv (.t 12)),
  A1 126 (.mv (.t 20)),
  A1 127 (.nilc (.t 125)),
  A1 128 (.fadr 0 (.t 127)),
  A1 129 (.iarr 8192 1 (.t 128) (.t 126)),
  A1 130 (.load false 1 (.t 129)),
  A1 131 (.ari .neq (.t 124) (.t 130))])
 (.cond (.t 131) ((.seq (.reg [A1 132 (.mv (.t 20)),
  A1 133 (.conv .u64 (.t 132)),
  A1 18 (.mv (.t 133))])
 (.reg [A1 134 (.mv (.t 19)),
  A1 135 (.ari .add (.t 134) (.c (.int .i64 1))),
  A1 19 (.mv (.t 135))]))) (.skip)))))))
 (.reg [A1 136 (.ari .add (.t 120) (.c (.int .i64 1))),
  A1 120 (.mv (.t 136))])))))))))))
 ((.seq ((.seq (.reg [A1 137 (.mv (.t 19)),
  A1 138 (.ari .gtr (.t 137) (.c (.int .i64 1)))])
 (.cond (.t 138) ((.seq (.reg [A1 6 (.mv (.c (.bool true)))])
 (.ret))) (.skip))))
 ((.seq (.reg [A1 140 (.mv (.t 12)),
  A1 141 (.mv (.t 18)),
  ⟨(some 142), .call 50 [(.t 140), (.t 141)], none⟩,
  A1 139 (.mv (.t 142)),
  A1 143 (.ext (.t 139) 0),
  A1 144 (.ext (.t 139) 1),
  A1 22 (.alloc (.st (.cons (.int .u64) (.cons .slice .nil)))),
  A0 (.store 2 (.t 22) (.t 143)),
  A1 8 (.mv (.t 144))])
 ((.seq (.regd [⟨0, 0, A1 146 (.load true 32 (.t 11))⟩,
  ⟨1, 0, A1 147 (.mv (.t 18))⟩,
  ⟨2, 0, A1 148 (.load true 2 (.t 22))⟩,
  ⟨3, 0, A1 149 (.mv (.t 7))⟩,
  ⟨4, 0, A1 150 (.mv (.t 18))⟩,
  ⟨5, 8, A1 151 (.nilc (.t 149))⟩,
  ⟨6, 40, A1 152 (.fadr 0 (.t 151))⟩,
  ⟨7, 120, A1 153 (.iarr 8192 1 (.t 152) (.t 150))⟩,
  ⟨8, 248, A1 154 (.load false 1 (.t 153))⟩,
  ⟨9, 511, ⟨(some 155), .call 52 [(.t 146), (.t 147), (.t 148), (.t 154)], none⟩⟩,
  ⟨10, 1023, A1 145 (.mv (.t 155))⟩,
  ⟨11, 2047, A1 156 (.ext (.t 145) 0)⟩,
  ⟨13, 0, A1 23 (.alloc (.ar 32 (.int .u8)))⟩,
  ⟨14, 8191, A0 (.store 32 (.t 23) (.t 156))⟩,
  ⟨12, 2047, A1 157 (.ext (.t 145) 1)⟩,
  ⟨15, 32767, A1 15 (.mv (.t 157))⟩])
 ((.seq (.reg [A1 158 (.mv (.t 8)),
  A1 159 (.eq false true (.iface [74]) (.t 158) (.c .nili)),
  A1 160 (.mv (.t 159)),
  A2 161 160 true (.mv (.t 15)),
  A2 162 160 true (.eq false true (.iface [74]) (.t 161) (.c .nili)),
  A1 163 (.pick (.t 160) (.t 162) (.c (.bool false))),
  A1 164 (.mv (.t 163)),
  A2 165 164 true (.load true 32 (.t 23)),
  A2 166 164 true (.load true 32 (.t 13)),
  A2 167 164 true (.eq false false (.ar 32 1 false .int) (.t 165) (.t 166)),
  A1 168 (.pick (.t 164) (.t 167) (.c (.bool false))),
  A1 169 (.mv (.t 168)),
  A2 170 169 true (.mv (.t 19)),
  A2 171 169 true (.ari .gtr (.t 170) (.c (.int .i64 0))),
  A2 172 169 true (.mv (.t 171)),
  A2 173 172 false (.load true 32 (.t 13)),
  A2 174 172 false (.load true 32 (.t 11)),
  A2 175 172 false (.eq false false (.ar 32 1 false .int) (.t 173) (.t 174)),
  A2 176 169 true (.pick (.t 172) (.c (.bool true)) (.t 175)),
  A1 177 (.pick (.t 169) (.t 176) (.c (.bool false))),
  A1 6 (.mv (.t 177))])
 (.ret))))))))))))))))))))))))))))))
theorem cs_loop {M : Seat} (ok : OkCS M) (l : List In) (rs : List (BitVec 64)) (rv : V) (hrv : rv = wordsV rs ∨ (rv = .nils ∧ rs = [])) (hrl : rs.length < 9223372036854775808) (n : Int) {x : Ctx} (hx : x.k = 0) {A : List V} {H : Hp} {N : Nat}
    (hw : Weak M x A H N (fr 178 [(1, rv), (2, .int .i64 n), (7, .ptr 5 []), (9, .ptr 0 []), (47, .int .i64 ((min 16 rs.length : Nat) : Int)), (48, .int .i64 (0 : Nat))]) (stoH' (wNew 16) .nils [] ++ [(5, ({ ldM l with g := regF rs 0 } : Mc).v)]) 6) :
    LoopK M x (RetS M x [RVr.tmp 6] fun r H' k' => r = .bool true ∧ H' = [] ∧ k' = 0) csL [.blk 0, .code csT] A H N := by
  have okA := ok.t.okA
  have hFv : ∀ m : Mc, m.v = mach m.f m.g m.pc m.hl m.xt := fun _ => rfl
  have w4 := m30_lt n
  have hT : ∀ i, (its ok.t (st1 l rs) i).n ≤ i ∨ 549755813888 ≤ i := fun i => by
    rcases Nat.lt_or_ge i 549755813888 with h | h
    · have := its_n ok.t (st1 l rs) (by show 0 < 549755813888; decide) i h
      exact .inl (by have e : (st1 l rs).n = 0 := rfl; omega)
    · exact .inr h
  have hs0 : (st1 l rs).n < 549755813888 := by show 0 < 549755813888; decide
  have hr0 := runs_RunF ok.t (st1 l rs) rfl (m30 n) (by omega)
  have hst := its_R ok.t (st1 l rs) hs0 (m30 n) (by omega)
  generalize its ok.t (st1 l rs) (m30 n + 1) = τ at *
  generalize its ok.t (st1 l rs) (m30 n) = σ at *
  have hmn : min (16 : Int) (rs.length : Int) = ((min 16 rs.length : Nat) : Int) := by omega
  refine loop_rule (σ := Nat) (fun i => i ≤ min 16 rs.length) (fun i => fr 178 [(1, rv), (2, .int .i64 n), (7, .ptr 5 []), (9, .ptr 0 []), (47, .int .i64 ((min 16 rs.length : Nat) : Int)), (48, .int .i64 i)]) (fun i => stoH' (wNew 16) .nils [] ++ [(5, ({ ldM l with g := regF rs i } : Mc).v)]) (fun _ => 6) (fun i => min 16 rs.length - i) 0 (by omega) hw ?_
  · intro i hi
    refine ex_sound 2000 _ _ _ _ ?_
    unfold csL
    by_cases hiK : i < min 16 rs.length
    · have d0 : ((i : Int) < ((min 16 rs.length : Nat) : Int)) = True := eq_true (by omega)
      have w0 : IntKind.i64.wrap ((i : Int) + 1) = ((i + 1 : Nat) : Int) := by rw [wrap_i64 (by omega)]; omega
      obtain rfl : rv = wordsV rs := by
        rcases hrv with h | ⟨-, h⟩
        · exact h
        · rw [h] at hiK; simp at hiK
      (simp (maxSteps := 4000000) only [csL, d0, w0, wordsV, stoH', stoV, kinV, hFv, ldM, mach, List.cons_append, List.nil_append, LZ, seval, reduceCtorEq, forall_const])
      repeat (refine And.intro (by first | omega | exact True.intro | rfl) ?_)
      refine ⟨i + 1, by omega, by omega, ?_⟩
      refine Weak.fr [0, 1, 2, 3, 4, 5] [] hx (by simp only [fr_length]) (by decide) ?_ ?_
      · simp only [wordsV, LY, seval, reduceCtorEq, implies_true]
      · simp only [stoH', stoV, kinV, hFv, ldM, mach, Sim_seen, List.cons_append, List.nil_append, LMS, LY, seval, reduceCtorEq, implies_true]
        intro j hj
        by_cases e : j = i
        · rw [if_pos e, regF, if_pos (by omega), e]; simp only [W, LY, seval, reduceCtorEq, implies_true]
        · rw [if_neg e]
          have : regF rs (i + 1) j = regF rs i j := by
            simp only [regF]
            by_cases h : j < i
            · rw [if_pos h, if_pos (by omega)]
            · rw [if_neg h, if_neg (by omega)]
          rw [this]; simp only [W, LY, seval, reduceCtorEq, implies_true]
    · obtain rfl : i = min 16 rs.length := by omega
      have d0 : (((min 16 rs.length : Nat) : Int) < ((min 16 rs.length : Nat) : Int)) = False := eq_false (by omega)
      (simp (maxSteps := 4000000) only [csT, d0, m30_int, LA6, hFv, ldM, LZ, seval, reduceCtorEq, forall_const])
      repeat (refine And.intro (by first | omega | exact True.intro | rfl) ?_)
      by_cases hz : σ.n = 0
      case' pos =>
        rw [show hdF σ = Nh σ from if_pos hz, show kdF σ = 6 from if_pos hz] at hr0
        have hm : Runs M 71 [.ptr 5 [], .ptr 0 [], .int .i64 (m30 n)] _ _ _ := hr0
      case' neg =>
        rw [show hdF σ = Sh 6 σ from if_neg hz, show kdF σ = 7 from if_neg hz] at hr0
        have hm : Runs M 71 [.ptr 5 [], .ptr 0 [], .int .i64 (m30 n)] _ _ _ := hr0
      all_goals
        simp only [LA6, hFv, st1, ldM] at hm
        refine call_mA [0, 1, 2, 3, 4, 5] (hm) (by decide) (by rfl) (by ((try simp only [LA6, hFv, Sim_seen, NoIm_seen, dg, LMS, LY, seval, reduceCtorEq, implies_true]); first | done | exact True.intro | rfl)) (by ((try simp only [LA6, hFv, Sim_seen, NoIm_seen, dg, LMS, LY, seval, reduceCtorEq, implies_true]); first | done | exact True.intro | rfl)) (by simp only [LA6, hFv, Sim_seen, NoIm_seen, dg, LMS, LX, implies_true]) (by simp only [LA6, hFv, Sim_seen, NoIm_seen, dg, LMS, LX, implies_true]) ?_
        (simp (maxSteps := 4000000) only [LA6, hFv, ren_seen, LM, tup2, LZ, seval, reduceCtorEq, forall_const])
        refine call_pA (runs_cRoot okA σ.m.f σ.m.g σ.m.pc σ.m.hl σ.m.xt) (by ((try simp only [mach, LY, seval, reduceCtorEq, implies_true]); first | done | exact True.intro | rfl)) (by first | rfl | (simp only [LN, LP, V.ren, tup2, tup3])) (by simp only [mach, LX, implies_true]) ?_
        (simp (maxSteps := 4000000) only [tup2, LA6, LZ, seval, reduceCtorEq, forall_const])
        refine call_fA (runs_Copy okA σ.m.f σ.m.g σ.m.pc σ.m.hl σ.m.xt) (by decide) (by ((try simp only [mach, LY, seval, reduceCtorEq, implies_true]); first | done | exact True.intro | rfl)) (by simp only [mach, LX, implies_true]) (by simp only [mach, LX, implies_true]) ?_
        (simp (maxSteps := 4000000) only [LA6, LZ, seval, reduceCtorEq, forall_const])
      case' pos =>
        have e3 : ¬ 0 < σ.n := by omega
        rcases hst.1 with ⟨h, hw⟩ | ⟨-, h1', h⟩ | ⟨-, h1', h⟩ | ⟨h0', -, -⟩ | ⟨h0', -, -⟩
      case' pos.SS => exact absurd h0' e3
      case' pos.SN => exact absurd h0' e3
      case' neg =>
        rcases hst.1 with ⟨h, hw⟩ | ⟨h0', -, -⟩ | ⟨h0', -, -⟩ | ⟨-, h1', h⟩ | ⟨-, h1', h⟩
      case' neg.NN => exact absurd h0' hz
      case' neg.NS => exact absurd h0' hz
      case' pos.mach =>
        have hm : Runs M 70 [.ptr 0 [], .ptr 1 []] [(0, σ.m.v)] 2 _ := h
        simp only [hFv] at hm
        refine call_mB [5, 0] [5] (hm) (by rfl) (by rfl) (by decide) (by rfl) (by rfl) (by ((try simp only [mach, LY, seval, reduceCtorEq, implies_true]); first | done | exact True.intro | rfl)) (by ((try simp only [mach, LY, seval, reduceCtorEq, implies_true]); first | done | exact True.intro | rfl)) (by simp only [mach, LX, implies_true]) (by simp only [mach, LX, implies_true]) ?_
      case' neg.mach =>
        have hm : Runs M 70 [.ptr 0 [], .ptr 1 []] [(0, σ.m.v)] 2 _ := h
        simp only [hFv] at hm
        refine call_mB [5, 0] [5] (hm) (by rfl) (by rfl) (by decide) (by rfl) (by rfl) (by ((try simp only [mach, LY, seval, reduceCtorEq, implies_true]); first | done | exact True.intro | rfl)) (by ((try simp only [mach, LY, seval, reduceCtorEq, implies_true]); first | done | exact True.intro | rfl)) (by simp only [mach, LX, implies_true]) (by simp only [mach, LX, implies_true]) ?_
      case' pos.NN =>
        have hm : Runs M 70 [.ptr 5 [], .ptr 0 []] _ _ _ := h
        simp only [LA6, hFv] at hm
        refine call_mA [0, 1, 2, 3, 4, 5] (hm) (by decide) (by rfl) (by ((try simp only [LA6, hFv, Sim_seen, NoIm_seen, dg, LMS, LY, seval, reduceCtorEq, implies_true]); first | done | exact True.intro | rfl)) (by ((try simp only [LA6, hFv, Sim_seen, NoIm_seen, dg, LMS, LY, seval, reduceCtorEq, implies_true]); first | done | exact True.intro | rfl)) (by simp only [LA6, hFv, Sim_seen, NoIm_seen, dg, LMS, LX, implies_true]) (by simp only [LA6, hFv, Sim_seen, NoIm_seen, dg, LMS, LX, implies_true]) ?_
      case' pos.NS =>
        have hm : Runs M 70 [.ptr 5 [], .ptr 0 []] _ _ _ := h
        simp only [LA6, hFv] at hm
        refine call_mA [0, 1, 2, 3, 4, 5] (hm) (by decide) (by rfl) (by ((try simp only [LA6, hFv, Sim_seen, NoIm_seen, dg, LMS, LY, seval, reduceCtorEq, implies_true]); first | done | exact True.intro | rfl)) (by ((try simp only [LA6, hFv, Sim_seen, NoIm_seen, dg, LMS, LY, seval, reduceCtorEq, implies_true]); first | done | exact True.intro | rfl)) (by simp only [LA6, hFv, Sim_seen, NoIm_seen, dg, LMS, LX, implies_true]) (by simp only [LA6, hFv, Sim_seen, NoIm_seen, dg, LMS, LX, implies_true]) ?_
      case' neg.SS =>
        have hm : Runs M 70 [.ptr 5 [], .ptr 0 []] _ _ _ := h
        simp only [LA6, hFv] at hm
        refine call_mA [0, 1, 2, 3, 4, 5, 118] (hm) (by decide) (by rfl) (by ((try simp only [LA6, hFv, Sim_seen, NoIm_seen, dg, LMS, LY, seval, reduceCtorEq, implies_true]); first | done | exact True.intro | rfl)) (by ((try simp only [LA6, hFv, Sim_seen, NoIm_seen, dg, LMS, LY, seval, reduceCtorEq, implies_true]); first | done | exact True.intro | rfl)) (by simp only [LA6, hFv, Sim_seen, NoIm_seen, dg, LMS, LX, implies_true]) (by simp only [LA6, hFv, Sim_seen, NoIm_seen, dg, LMS, LX, implies_true]) ?_
      case' neg.SN =>
        have hm : Runs M 70 [.ptr 5 [], .ptr 0 []] _ _ _ := h
        simp only [LA6, hFv] at hm
        refine call_mA [0, 1, 2, 3, 4, 5, 118] (hm) (by decide) (by rfl) (by ((try simp only [LA6, hFv, Sim_seen, NoIm_seen, dg, LMS, LY, seval, reduceCtorEq, implies_true]); first | done | exact True.intro | rfl)) (by ((try simp only [LA6, hFv, Sim_seen, NoIm_seen, dg, LMS, LY, seval, reduceCtorEq, implies_true]); first | done | exact True.intro | rfl)) (by simp only [LA6, hFv, Sim_seen, NoIm_seen, dg, LMS, LX, implies_true]) (by simp only [LA6, hFv, Sim_seen, NoIm_seen, dg, LMS, LX, implies_true]) ?_
      all_goals
        clear h hst
        (simp (maxSteps := 4000000) only [LA6, hFv, ren_seen, LM, LZ, seval, reduceCtorEq, forall_const])
        refine call_pA (runs_cRoot okA τ.m.f τ.m.g τ.m.pc τ.m.hl τ.m.xt) (by ((try simp only [mach, LY, seval, reduceCtorEq, implies_true]); first | done | exact True.intro | rfl)) (by first | rfl | (simp only [LN, LP, V.ren, tup2, tup3])) (by simp only [mach, LX, implies_true]) ?_
        (simp (maxSteps := 4000000) only [tup2, LA6, LZ, seval, reduceCtorEq, forall_const])
        refine call_pA (runs_Head ok.d τ.m.f τ.m.g τ.m.pc τ.m.hl τ.m.xt) (by ((try simp only [mach, hdV, LY, seval, reduceCtorEq, implies_true]); first | done | exact True.intro | rfl)) (by first | rfl | (simp only [LN, LP, V.ren, tup2, tup3])) (by simp only [mach, hdV, LX, implies_true]) ?_
        (simp (maxSteps := 4000000) only [tup2, LA6, hdV, LZ, seval, reduceCtorEq, forall_const])
        refine call_pA (runs_Of okA ok.d τ.m.f τ.m.g τ.m.pc τ.m.hl τ.m.xt) (by ((try simp only [mach, LY, seval, reduceCtorEq, implies_true]); first | done | exact True.intro | rfl)) (by first | rfl | (simp only [LN, LP, V.ren, tup2, tup3])) (by simp only [mach, LX, implies_true]) ?_
        (simp (maxSteps := 4000000) only [tup2, LA6, hdV, comD, LZ, seval, reduceCtorEq, forall_const])
        repeat (refine And.intro (by first | omega | exact True.intro | rfl) ?_)
        refine opd_pA (runs_Join okA ok.d (memN τ.m.f 13 0) τ.m.g τ.m.pc τ.m.hl τ.m.xt) (by ((try simp only [hdV, LY, seval, reduceCtorEq, implies_true]); first | done | exact True.intro | rfl)) (by first | rfl | (simp only [LN, LP, V.ren, tup2, tup3])) (by simp only [hdV, LX, implies_true]) ?_
        (simp (maxSteps := 4000000) only [LA6, LZ, seval, reduceCtorEq, forall_const])
        refine cs_cmp ok σ.m τ.m hx ?_
        refine Weak.fr [5, 278, 214, 534] [] hx (by simp only [fr_length]) (by decide) ?_ ?_
        · simp only [LY, seval, reduceCtorEq, implies_true]
          rfl
        · simp only [hFv, mach, dg, LY, seval, reduceCtorEq, implies_true]

theorem runs_CommitSteps {M : Seat} (ok : OkCS M) (l : List In) (v : V) (hne : foldN 5 (leafD 1) (pth (fun _ => 0) 5) 13 ≠ nought 13) (hv : insA l v) (hl : l.length < 9223372036854775808) (rs : List (BitVec 64)) (rv : V) (hrv : rv = wordsV rs ∨ (rv = .nils ∧ rs = [])) (hrl : rs.length < 9223372036854775808) (n : Int) :
    Runs M 14 [v, rv, .int .i64 n] [] 0 (fun r H' k' => r = .bool true ∧ H' = [] ∧ k' = 0) := by
  refine runs_fr ok.k14 rfl fun x hx => ?_
  have okA := ok.t.okA
  have okW := ok.t.ok.toOkW
  have okI := okW.toOkI
  have okS := okI.toOkV.toOkS
  have hLN : l = [] → Runs M 74 [.nils] [] 0 (fun r H' k' => r = tup2 (.ptr 0 []) .nili ∧ H' = [(0, (ldM l).v)] ∧ k' = 1) := fun h => by subst h; exact runs_Load okA
  have hWN : l = [] → Runs M 75 [insL l] [] 0 (fun r H' k' => r = .nils ∧ H' = [] ∧ k' = 0) := fun h => by subst h; exact runs_WordsNil okI _ (.inr rfl)
  have hv' : (v = .nils ∧ l = []) ∨ (v = insL l ∧ l = []) ∨ (v = insL l ∧ 0 < l.length) := by
    rcases hv with h | h
    · by_cases h0 : l = []
      · exact .inr (.inl ⟨h, h0⟩)
      · exact .inr (.inr ⟨h, List.length_pos_iff.2 h0⟩)
    · exact .inl h
  have hRv : ∀ (m : Mc) a, m.v.ren a = m.v := fun _ _ => rfl
  have hNv : ∀ m : Mc, NoIm m.v := fun m => by simp only [Mc.v, mach, NoIm, NoIm_W, implies_true, and_self]
  have hSv : ∀ (m : Mc) H a z, Sim H a z m.v m.v := fun m H a z => by simp only [Mc.v, mach, LY, seval, reduceCtorEq, implies_true]
  have hFv : ∀ m : Mc, m.v = mach m.f m.g m.pc m.hl m.xt := fun _ => rfl
  have hmn : min (16 : Int) (rs.length : Int) = ((min 16 rs.length : Nat) : Int) := by omega
  have hrl' : vlen 0 rv = fun H => ⟨True, .int .i64 rs.length, H⟩ := by
    funext H
    rcases hrv with rfl | ⟨rfl, rfl⟩
    · rfl
    · rfl
  rcases hv' with ⟨rfl, h0⟩ | ⟨rfl, h0⟩ | ⟨rfl, h0⟩
  case' inl =>
    refine ex_sound 2000 _ _ _ _ ?_; (simp (maxSteps := 4000000) only [f14, c14, LZ, seval, reduceCtorEq, forall_const])
    refine call_pZ (runs_WordsNil okI .nils (.inl rfl)) ?_
    (simp (maxSteps := 4000000) only [LZ, seval, reduceCtorEq, forall_const])
    refine call_fA (hLN h0) (by decide) (by ((try simp only [hNv, hSv, LY, seval, reduceCtorEq, implies_true]); first | done | exact True.intro | rfl)) (by simp only [hNv, hSv, LX, implies_true]) (by simp only [hNv, hSv, LX, implies_true]) ?_
    (simp (maxSteps := 4000000) only [tup2, hRv, LZ, seval, reduceCtorEq, forall_const])
    refine call_fA (runs_New okA okS) (by decide) (by ((try simp only [stoH', stoV, kinV, LMS, NoIm_seen, LY, seval, reduceCtorEq, implies_true]); first | done | exact True.intro | rfl)) (by simp only [stoH', stoV, kinV, LMS, NoIm_seen, LX, implies_true]) (by simp only [stoH', stoV, kinV, LMS, NoIm_seen, LX, implies_true]) ?_
    (simp (maxSteps := 4000000) only [stoH', stoV, kinV, ren_seen, LM, hRv, LZ, seval, reduceCtorEq, forall_const])
    refine call_pZ (runs_fixed okA hne) ?_
    (simp (maxSteps := 4000000) only [hrl', hmn, LZ, seval, reduceCtorEq, forall_const])
  case' inr.inl =>
    refine ex_sound 2000 _ _ _ _ ?_; (simp (maxSteps := 4000000) only [f14, c14, LZ, seval, reduceCtorEq, forall_const])
    refine call_pA (hWN h0) (by ((try simp only [insL, insV, LY, seval, reduceCtorEq, implies_true]); first | done | exact True.intro | rfl)) (by first | rfl | (simp only [LN, LP, V.ren, tup2, tup3])) (by simp only [insL, insV, LX, implies_true]) ?_
    (simp (maxSteps := 4000000) only [LZ, seval, reduceCtorEq, forall_const])
    refine call_fA (hLN h0) (by decide) (by ((try simp only [hNv, hSv, LY, seval, reduceCtorEq, implies_true]); first | done | exact True.intro | rfl)) (by simp only [hNv, hSv, LX, implies_true]) (by simp only [hNv, hSv, LX, implies_true]) ?_
    (simp (maxSteps := 4000000) only [tup2, hRv, LZ, seval, reduceCtorEq, forall_const])
    refine call_fA (runs_New okA okS) (by decide) (by ((try simp only [stoH', stoV, kinV, LMS, NoIm_seen, LY, seval, reduceCtorEq, implies_true]); first | done | exact True.intro | rfl)) (by simp only [stoH', stoV, kinV, LMS, NoIm_seen, LX, implies_true]) (by simp only [stoH', stoV, kinV, LMS, NoIm_seen, LX, implies_true]) ?_
    (simp (maxSteps := 4000000) only [stoH', stoV, kinV, ren_seen, LM, hRv, LZ, seval, reduceCtorEq, forall_const])
    refine call_pZ (runs_fixed okA hne) ?_
    (simp (maxSteps := 4000000) only [hrl', hmn, LZ, seval, reduceCtorEq, forall_const])
  case' inr.inr =>
    refine ex_sound 2000 _ _ _ _ ?_; (simp (maxSteps := 4000000) only [f14, c14, LZ, seval, reduceCtorEq, forall_const])
    have hW := runs_Words okI l h0 hl
    have hLL : Runs M 74 _ [] 0 (fun r H' k' => r = tup2 (.ptr 0 []) .nili ∧ H' = [(0, (ldM l).v)] ∧ k' = 1) := runs_LoadW okA (min l.length 8192) (Nat.min_le_right _ _) (fun j => wordOf (l.getD j default))
    refine call_fA (hW) (by decide) (by ((try simp only [insL, insV, LY, seval, reduceCtorEq, implies_true]); first | done | exact True.intro | rfl)) (by simp only [insL, insV, LX, implies_true]) (by simp only [insL, insV, LX, implies_true]) ?_
    (simp (maxSteps := 4000000) only [LZ, seval, reduceCtorEq, forall_const])
    refine call_fA (hLL) (by decide) (by ((try simp only [hNv, hSv, LY, seval, reduceCtorEq, implies_true]); first | done | exact True.intro | rfl)) (by simp only [hNv, hSv, LX, implies_true]) (by simp only [hNv, hSv, LX, implies_true]) ?_
    (simp (maxSteps := 4000000) only [tup2, hRv, LZ, seval, reduceCtorEq, forall_const])
    refine call_fA (runs_New okA okS) (by decide) (by ((try simp only [stoH', stoV, kinV, LMS, NoIm_seen, LY, seval, reduceCtorEq, implies_true]); first | done | exact True.intro | rfl)) (by simp only [stoH', stoV, kinV, LMS, NoIm_seen, LX, implies_true]) (by simp only [stoH', stoV, kinV, LMS, NoIm_seen, LX, implies_true]) ?_
    (simp (maxSteps := 4000000) only [stoH', stoV, kinV, ren_seen, LM, hRv, LZ, seval, reduceCtorEq, forall_const])
    refine call_pZ (runs_fixed okA hne) ?_
    (simp (maxSteps := 4000000) only [hrl', hmn, LZ, seval, reduceCtorEq, forall_const])
  all_goals
    refine cs_loop ok l rs rv hrv hrl n hx ?_
    refine Weak.fr [144, 145, 146, 147, 148, 48] [] hx (by simp only [fr_length]) (by decide) ?_ ?_
    · rcases hrv with rfl | ⟨rfl, rfl⟩
      · simp only [wordsV, LY, seval, reduceCtorEq, implies_true]
      · simp only [LY, seval, reduceCtorEq, implies_true]
    · simp only [stoH', stoV, kinV, hFv, ldM, mach, Sim_seen, List.cons_append, List.nil_append, LMS, LY, seval, reduceCtorEq, implies_true]
      exact fun j _ => by simp [regF]
end Mv
