/- Equality, as an operation. -/
import Derived.Test.YtncipgmjhaiagaaDoorK1
import Derived.WideKeyRuns
import Derived.Carry
import Derived.MapKept
import Derived.Laws.Externs
import Derived.KernelRfl
set_option linter.unusedSimpArgs false
set_option linter.unusedVariables false
namespace Mv
open Go
set_option maxHeartbeats 1000000

def plainV : Value → Bool
  | .int .. | .float .. | .complex .. | .string _ => false
  | _ => true

theorem binOp_eq {neg : Bool} {t : TypeId} {x y : Value} (h : plainV x = true) : binOp (if neg then .neq else .eql) t x y = (do pure (.bool (neg ^^ (← Op.equal t x y)))) := by
  cases neg <;> cases x <;> simp only [plainV, Bool.false_eq_true] at h <;> cases y <;> simp [binOp]

def isStrES : ES → Bool
  | .str => true
  | _ => false

def topES : ES → Bool
  | .int | .str | .nil | .cons .. => false
  | _ => true

theorem top_of {s : ES} (h : (topES s || isStrES s) = true) : topES s = true ∨ s = .str := by
  cases s <;> simp_all [topES, isStrES]

theorem plain_of {c : Bool} {e : Env} {s : ES} {a b : V} {x y : Value} (hs : topES s = true) (hp : veqP c s a b) (hx : RS e a x) (hy : RS e b y) :
    (plainV x = true ∧ (a.solid = true ∧ b.solid = true)) ∧ ((isAggES s = false ∧ (∀ cs, x ≠ .agg cs) ∧ (x = .nilIface → y = .nilIface → c = true)) ∨ (isAggES s = true ∧ ∃ xs ys, x = .agg xs ∧ y = .agg ys)) := by
  cases s <;> simp only [topES, Bool.false_eq_true] at hs
  case bool =>
    simp only [veqP] at hp
    split at hp
    · simp only [RS, V.isAgg, R, List.cons.injEq, and_true] at hx hy
      subst hx; subst hy
      exact ⟨⟨rfl, rfl, rfl⟩, .inl ⟨rfl, by simp, by simp⟩⟩
    · exact hp.elim
  case ptr =>
    have hxp : (∃ p, x = .pointer p) ∧ a.solid = true ∧ b.solid = true := by
      simp only [veqP] at hp
      split at hp <;> (try exact hp.elim) <;> simp only [RS, V.isAgg, R, List.cons.injEq, and_true] at hx
      · exact ⟨⟨_, hx⟩, rfl, rfl⟩
      · exact ⟨⟨_, hx⟩, rfl, rfl⟩
      · exact ⟨⟨_, hx.2⟩, rfl, rfl⟩
      · exact ⟨⟨_, hx⟩, rfl, rfl⟩
      · obtain ⟨_, _, _, _, _, h, _⟩ := hx; exact ⟨⟨_, h⟩, rfl, rfl⟩
    obtain ⟨⟨p, rfl⟩, h2⟩ := hxp
    exact ⟨⟨rfl, h2⟩, .inl ⟨rfl, by simp, by simp⟩⟩
  case iface ts =>
    simp only [veqP] at hp
    split at hp <;> (try exact hp.elim) <;> simp only [RS, V.isAgg, R, List.cons.injEq, and_true] at hx hy
    · subst hx; subst hy
      exact ⟨⟨rfl, rfl, rfl⟩, .inl ⟨rfl, by simp, fun _ _ => hp⟩⟩
    · subst hx
      obtain ⟨z, rfl, _⟩ := hy
      exact ⟨⟨rfl, rfl, rfl⟩, .inl ⟨rfl, by simp, by simp⟩⟩
    · obtain ⟨z, rfl, _⟩ := hx
      exact ⟨⟨rfl, rfl, rfl⟩, .inl ⟨rfl, by simp, by simp⟩⟩
    · obtain ⟨z, rfl, _⟩ := hx
      exact ⟨⟨rfl, rfl, rfl⟩, .inl ⟨rfl, by simp, by simp⟩⟩
  case nils k =>
    have hxp : (plainV x = true ∧ (∀ cs, x ≠ .agg cs) ∧ x ≠ .nilIface) ∧ a.solid = true ∧ b.solid = true := by
      simp only [veqP] at hp
      split at hp <;> (try exact hp.elim) <;> refine ⟨?_, rfl, rfl⟩ <;> simp only [RS, V.isAgg, R, List.cons.injEq, and_true] at hx
      · subst hx; exact ⟨rfl, by simp, by simp⟩
      · subst hx; exact ⟨rfl, by simp, by simp⟩
      · subst hx; exact ⟨rfl, by simp, by simp⟩
      · obtain ⟨_, rfl⟩ := hx; exact ⟨rfl, by simp, by simp⟩
      · subst hx; exact ⟨rfl, by simp, by simp⟩
      · subst hx; exact ⟨rfl, by simp, by simp⟩
      · obtain ⟨_, rfl, _⟩ := hx; unfold fnV; split <;> exact ⟨rfl, by simp, by simp⟩
      · subst hx; exact ⟨rfl, by simp, by simp⟩
      · obtain ⟨_, _, _, rfl, _⟩ := hx; exact ⟨rfl, by simp, by simp⟩
      · subst hx; exact ⟨rfl, by simp, by simp⟩
      · obtain ⟨_, _, rfl, _⟩ := hx; exact ⟨rfl, by simp, by simp⟩
    exact ⟨⟨hxp.1.1, hxp.2⟩, .inl ⟨rfl, hxp.1.2.1, fun h => absurd h hxp.1.2.2⟩⟩
  case st fs =>
    simp only [veqP] at hp
    split at hp
    · obtain ⟨xs, rfl, _⟩ := hx
      obtain ⟨ys, rfl, _⟩ := hy
      exact ⟨⟨rfl, rfl, rfl⟩, .inr ⟨rfl, _, _, rfl, rfl⟩⟩
    · exact hp.elim
  case ar n sz agg s =>
    simp only [veqP] at hp
    split at hp
    · obtain ⟨xs, rfl, _⟩ := hx
      obtain ⟨ys, rfl, _⟩ := hy
      exact ⟨⟨rfl, rfl, rfl⟩, .inr ⟨rfl, _, _, rfl, rfl⟩⟩
    · exact hp.elim

theorem solid_of {c : Bool} {s : ES} {a b : V} (hs : topES s = true ∨ s = .str) (hp : veqP c s a b) : a.solid = true ∧ b.solid = true := by
  cases s <;> simp only [topES, reduceCtorEq, or_false, Bool.false_eq_true, or_self] at hs <;> simp only [veqP] at hp <;> split at hp <;> first
    | exact hp.elim
    | exact ⟨rfl, rfl⟩

theorem good_eq {M : Seat} {c0 : Ctx} {e : Env} {H : Hp} {A : List V} {a : Act} (hI : Inv M c0 e H) (hA : FR e A a.tmps) {n : Nat} {t : TypeId} {neg c : Bool} {s : ES} {x1 x2 : Operand} {y1 y2 : X} (hc : chkEq M c s t x1 x2 = true) (htop : topES s = true ∨ s = .str)
    (h1 : chkX M x1 y1 = true) (g1 : GOK M e y1) (h2 : chkX M x2 y2 = true) (g2 : GOK M e y2) (hp : (step A H n (.eq neg c s y1 y2)).pre) :
    Good M c0 e n (step A H n (.eq neg c s y1 y2)) (Sem.run M.P (do pure (Next.value (← (do eqGuard (if neg then .neq else .eql) t x1 x2 (a.eval x1) (a.eval x2); binOp (if neg then .neq else .eql) t (a.eval x1) (a.eval x2))))) e.w) := by
  have v1 := chkX_R hI.φ hA h1 g1
  have v2 := chkX_R hI.φ hA h2 g2
  simp only [chkEq, Bool.and_eq_true, decide_eq_true_eq, Bool.or_eq_true, Bool.not_eq_true'] at hc
  obtain ⟨⟨⟨⟨hc1, hc2⟩, hc3⟩, hc4⟩, hc5⟩ := hc
  simp only [step] at hp ⊢
  have hsol := solid_of htop hp
  rw [RV_solid hsol.1] at v1
  rw [RV_solid hsol.2] at v2
  refine good_pure hI (x := .bool (neg ^^ veqV s (y1.ev A) (y2.ev A))) (run_v ?_) rfl (RV_mkbool _)
  rcases htop with htop | rfl
  · have hrun := (eq_run (hI.τ) c s t [] _ _ (Op.maxDepth - s.ht) hc1 hp).1 hc2 _ _ v1 v2
    have e1 : s.ht + (Op.maxDepth - s.ht) = Op.maxDepth := by simp only [Op.maxDepth]; omega
    rw [e1] at hrun
    obtain ⟨⟨p1, _⟩, p2⟩ := plain_of htop hp v1 v2
    have hguard : (eqGuard (if neg then .neq else .eql) t x1 x2 (a.eval x1) (a.eval x2)).run M.P e.w = .ok () e.w := by
      rcases p2 with ⟨_, q1, q2⟩ | ⟨q1, xs, ys, q2, q3⟩
      · refine run_eqGuard_nil _ _ _ _ q1 (fun k1 k2 => ?_)
        have := q2 k1 k2
        rcases hc4 with (h | h) | h
        · rw [this] at h; cases h
        · exact .inl h
        · exact .inr h
      · rw [q2, q3]
        refine run_eqGuard_agg e.w _ _ _ _ _ _ ?_
        rcases hc5 with h | h
        · rw [q1] at h; cases h
        · exact h
    rw [Sem.run_bind, hguard]
    simp only [Result.andThen_ok]
    rw [binOp_eq p1, Sem.run_bind]
    show ((Op.equalIn Op.maxDepth t (a.eval x1) (a.eval x2)).run M.P e.w).andThen _ = _
    rw [hrun]
    simp only [Result.andThen_ok, Sem.run_pure]
  · simp only [veqP] at hp
    split at hp
    · rename_i s1 s2 hs1 hs2
      rw [hs1] at v1
      rw [hs2] at v2
      simp only [RS, V.isAgg, R, List.cons.injEq, and_true] at v1 v2
      rw [v1, v2, hs1, hs2, Sem.run_bind, run_eqGuard_nil _ _ _ _ (by simp) (by simp)]
      cases neg <;> simp [binOp, Op.stringOp, veqV, beq_toListBytes]
    · exact hp.elim
end Mv
namespace Mv
open Go

def keyES : ES → Bool
  | .int => true
  | .ar _ 1 false .int => true
  | _ => false

theorem keyES_cases {s : ES} (h : keyES s = true) : s = .int ∨ ∃ n, s = .ar n 1 false .int := by
  unfold keyES at h
  split at h
  · exact .inl rfl
  · exact .inr ⟨_, rfl⟩
  · cases h

theorem int_of_veqP {a b : V} (h : veqP true .int a b) : ∃ k x y, a = .int k x ∧ b = .int k y := by
  cases a <;> cases b <;> simp only [veqP] at h
  subst h
  exact ⟨_, _, _, rfl, rfl⟩
/-- The same key, the same cells. -/
theorem key_same {e : Env} {s : ES} (hs : keyES s = true) {a b : V} {x y : Value} (hp : veqP true s a b) (hx : RS e a x) (hy : RS e b y) (hv : veqV s a b = true) : x = y := by
  rcases keyES_cases hs with rfl | ⟨n, rfl⟩
  · cases a <;> cases b <;> simp only [veqP] at hp
    simp only [veqV, decide_eq_true_eq] at hv
    subst hp; subst hv
    simp only [RS, V.isAgg, R, List.cons.injEq, and_true] at hx hy
    rw [hx, hy]
  · cases a <;> cases b <;> simp only [veqP] at hp
    rename_i sz1 n1 f sz2 n2 g
    obtain ⟨⟨h1, h2, h3, h4⟩, hp⟩ := hp
    subst h1; subst h2; subst h3
    simp only [veqV, List.all_eq_true, List.mem_range] at hv
    simp only [RS, V.isAgg, R] at hx hy
    obtain ⟨xs, rfl, hxl, hx⟩ := hx
    obtain ⟨ys, rfl, hyl, hy⟩ := hy
    congr 1
    have : xs = ys := by
      apply List.ext_getElem (by omega)
      intro j h1 h2
      have hj : j < n1 := by omega
      obtain ⟨_, _, hpj⟩ := hp j hj
      have hvj := hv j hj
      have hxj := (hx j hj).2
      have hyj := (hy j (by omega)).2
      obtain ⟨k1, z1, z2, e3, e4⟩ := int_of_veqP hpj
      rw [e3, e4] at hvj
      simp only [veqV, decide_eq_true_eq] at hvj
      subst hvj
      rw [e3] at hxj
      rw [e4] at hyj
      simp only [R, Nat.mul_one] at hxj hyj
      have e1 : xs[j]? = some (.int k1 z1) := by
        have := congrArg (fun l => l[0]?) hxj
        simpa [List.getElem?_take, List.getElem?_drop] using this
      have e2 : ys[j]? = some (.int k1 z1) := by
        have := congrArg (fun l => l[0]?) hyj
        simpa [List.getElem?_take, List.getElem?_drop] using this
      rw [List.getElem?_eq_getElem h1] at e1
      rw [List.getElem?_eq_getElem h2] at e2
      exact (Option.some.inj e1).trans (Option.some.inj e2).symm
    rw [this]

/-- A key of this kind keeps its bits. -/
theorem key_bits {e : Env} {s : ES} (hs : keyES s = true) {a : V} {x : Value} (hp : veqP true s a a) (hx : RS e a x) : Instr.sameBits 10000 x x = true := by
  rcases keyES_cases hs with rfl | ⟨n, rfl⟩
  · cases a <;> simp only [veqP] at hp
    simp only [RS, V.isAgg, R, List.cons.injEq, and_true] at hx
    rw [hx]; simp [Instr.sameBits]
  · cases a <;> simp only [veqP] at hp
    rename_i sz1 n1 f
    obtain ⟨⟨rfl, _, rfl, _⟩, hp⟩ := hp
    simp only [RS, V.isAgg, R] at hx
    obtain ⟨xs, rfl, hxl, hx⟩ := hx
    simp only [Instr.sameBits, beq_self_eq_true, Bool.true_and, List.all_eq_true]
    rintro ⟨p, q⟩ hpq
    obtain ⟨j, hj, hje⟩ := List.getElem_of_mem hpq
    simp only [List.length_zip] at hj
    have hj1 : j < xs.length := by simpa using hj
    rw [List.getElem_zip] at hje
    simp only [Prod.mk.injEq] at hje
    have hjn : j < n1 := by omega
    obtain ⟨_, _, hpj⟩ := hp j hjn
    have hxj := (hx j hjn).2
    obtain ⟨k1, z1, z2, e3, _⟩ := int_of_veqP hpj
    rw [e3] at hxj
    simp only [R, Nat.mul_one] at hxj
    have e1 : xs[j]? = some (.int k1 z1) := by
      have := congrArg (fun l => l[0]?) hxj
      simpa [List.getElem?_take, List.getElem?_drop] using this
    rw [List.getElem?_eq_getElem hj1] at e1
    have e2 := Option.some.inj e1
    have h1 : p = xs[j] := by rw [← hje.1]
    have h2 : q = xs[j] := by rw [← hje.2]
    rw [h1, h2, e2]; simp [Instr.sameBits]

theorem run_checkKey_key {M : Seat} {e : Env} {s : ES} (hs : keyES s = true) {t : TypeId} (hc : chkES M s t [] = true) {a : V} {x : Value} (hp : veqP true s a a) (hx : RS e a x) (em : Bool) : (Instr.checkKey em 10000 t x).run M.P e.w = .ok () e.w := by
  rcases keyES_cases hs with rfl | ⟨n, rfl⟩
  · cases a <;> simp only [veqP] at hp
    simp only [RS, V.isAgg, R, List.cons.injEq, and_true] at hx
    simp only [chkES] at hc
    split at hc
    · rename_i hu
      rw [hx, Instr.checkKey]; simp [run_underlying hu]
    · cases hc
  · cases a <;> simp only [veqP] at hp
    rename_i sz1 n1 f
    obtain ⟨⟨rfl, _, rfl, _⟩, hp⟩ := hp
    simp only [RS, V.isAgg, R] at hx
    obtain ⟨xs, rfl, hxl, hx⟩ := hx
    simp only [chkES] at hc
    split at hc
    case h_2 => cases hc
    rename_i m el hu
    simp only [Bool.and_eq_true, beq_iff_eq] at hc
    obtain ⟨⟨⟨⟨hfs, rfl⟩, hsz⟩, ha⟩, hcs⟩ := hc
    split at hcs
    case h_2 => cases hcs
    rename_i kk hue
    rw [Instr.checkKey]
    simp only [Sem.run_bind, run_underlying hu, Result.andThen_ok]
    simp only [Std.Legacy.Range.forIn_eq_forIn_range', Std.Legacy.Range.size, Nat.sub_zero, Nat.add_one_sub_one, Nat.div_one]
    have each : ∀ j ∈ List.range' 0 m, j < m := by intro j hj; simpa using hj
    generalize List.range' 0 m = is at each
    induction is with
    | nil => simp
    | cons j is ih =>
      have hj := each j (by simp)
      obtain ⟨_, _, hpj⟩ := hp j hj
      obtain ⟨⟨x1, x2⟩, x3⟩ := hx j hj
      have hag : (f j).isAgg = false := (hp j hj).1
      obtain ⟨y, r1, r2⟩ := run_part_R (e := e) hsz ha x1 x2 hag (by omega) x3
      have r3 : (Instr.checkKey em 9999 el y).run M.P e.w = .ok () e.w := by
        obtain ⟨k1, z1, z2, e3, _⟩ := int_of_veqP hpj
        rw [e3] at r2
        simp only [RS, V.isAgg, R, List.cons.injEq, and_true] at r2
        rw [r2, Instr.checkKey]; simp [run_underlying hue]
      simp only [List.forIn_cons, Sem.run_bind, run_tsz hsz, Result.andThen_ok, r1, r3, Sem.run_pure]
      exact ih (fun y hy => each y (by simp [hy]))

theorem ht_key {s : ES} (hs : keyES s = true) : s.ht ≤ 10 ∧ isFsES s = false := by
  rcases keyES_cases hs with rfl | ⟨n, rfl⟩
  · exact ⟨by decide, rfl⟩
  · refine ⟨?_, rfl⟩
    simp only [ES.ht]; omega

/-- What is found: the first of the keys. -/
def Found (s : ES) (k : V) (ks : Nat → V) (l : List MapEntry) (i : Nat) (r : Option (Nat × Value)) : Prop :=
  match mff s k ks i l.length with
  | some j => i ≤ j ∧ ∃ x, l[j - i]? = some x ∧ r = some (j, x.val) ∧ veqV s k (ks j) = true
  | none => r = none

theorem Found.cons_hit {s : ES} {k : V} {ks : Nat → V} {x : MapEntry} {l : List MapEntry} {i : Nat} (h : veqV s k (ks i) = true) : Found s k ks (x :: l) i (some (i, x.val)) := by
  simp only [Found, List.length_cons, mff, h, if_true]
  exact ⟨Nat.le_refl _, x, by simp, rfl, trivial⟩
theorem Found.cons_miss {s : ES} {k : V} {ks : Nat → V} {x : MapEntry} {l : List MapEntry} {i : Nat} {r : Option (Nat × Value)} (h : veqV s k (ks i) = false) (hr : Found s k ks l (i + 1) r) : Found s k ks (x :: l) i r := by
  have e : mff s k ks i (x :: l).length = mff s k ks (i + 1) l.length := by simp [mff, h]
  unfold Found at hr ⊢
  rw [e]
  split at hr
  · obtain ⟨h1, y, h2, h3, h4⟩ := hr
    rename_i j _
    refine ⟨by omega, y, ?_, h3, h4⟩
    rw [show j - i = (j - (i + 1)) + 1 by omega, List.getElem?_cons_succ]; exact h2
  · exact hr

theorem run_find {M : Seat} {e : Env} (hτ : e.τ = M.τ) {s : ES} (hs : keyES s = true) {t : TypeId} (hc : chkES M s t [] = true) {k : V} {x : Value} (hx : RS e k x) {ks : Nat → V} {es : Array MapEntry}
    (hk : ∀ i y, es[i]? = some y → RS e (ks i) y.key) (hp : ∀ i, i < es.size → veqP true s k (ks i)) :
    ∃ r, (Instr.findKey t x es.toList).run M.P e.w = .ok r e.w ∧ Found s k ks es.toList 0 r := by
  have key : ∀ (l : List MapEntry) (i : Nat), (∀ j y, l[j]? = some y → RS e (ks (i + j)) y.key ∧ veqP true s k (ks (i + j))) →
      ∃ r, (Instr.findAsking t x l i).run M.P e.w = .ok r e.w ∧ Found s k ks l i r := by
    intro l
    induction l with
    | nil => intro i _; exact ⟨none, by simp [Instr.findAsking], by simp [Found, mff]⟩
    | cons y l ih =>
      intro i hl
      obtain ⟨h1, h2⟩ := hl 0 y (by simp)
      simp only [Nat.add_zero] at h1 h2
      obtain ⟨hh, hf⟩ := ht_key hs
      have q := (eq_run hτ true s t [] k (ks i) (10000 - s.ht) hc h2).1 hf x y.key hx h1
      rw [show s.ht + (10000 - s.ht) = Op.maxDepth from by simp only [Op.maxDepth]; omega] at q
      have q' : (Op.equal t x y.key).run M.P e.w = .ok (veqV s k (ks i)) e.w := q
      obtain ⟨r, g1, g2⟩ := ih (i + 1) (fun j z hz => by
        have := hl (j + 1) z (by simpa using hz)
        rwa [show i + (j + 1) = i + 1 + j by omega] at this)
      cases hv : veqV s k (ks i) with
      | true => exact ⟨some (i, y.val), by simp [Instr.findAsking, q', hv], Found.cons_hit hv⟩
      | false => exact ⟨r, by simp [Instr.findAsking, q', hv, g1], Found.cons_miss hv g2⟩
  have hall : ∀ j y, es.toList[j]? = some y → RS e (ks (0 + j)) y.key ∧ veqP true s k (ks (0 + j)) := by
    intro j y hy
    have hy' : es[j]? = some y := by simpa using hy
    rw [Nat.zero_add]
    exact ⟨hk j y hy', hp j (Array.getElem?_eq_some_iff.1 hy').1⟩
  rcases keyES_cases hs with rfl | ⟨n, rfl⟩
  · simp only [chkES] at hc
    split at hc
    · rename_i kk hu
      have now : ∀ (l : List MapEntry) (i : Nat), (∀ j y, l[j]? = some y → RS e (ks (i + j)) y.key ∧ veqP true .int k (ks (i + j))) →
          ∃ r, Instr.findNow (.int kk) x l i = some r ∧ Found .int k ks l i r := by
        intro l
        induction l with
        | nil => intro i _; exact ⟨none, by simp [Instr.findNow], by simp [Found, mff]⟩
        | cons y l ih =>
          intro i hl
          obtain ⟨h1, h2⟩ := hl 0 y (by simp)
          simp only [Nat.add_zero] at h1 h2
          obtain ⟨k1, z1, z2, e3, e4⟩ := int_of_veqP h2
          obtain ⟨r, g1, g2⟩ := ih (i + 1) (fun j z hz => by
            have := hl (j + 1) z (by simpa using hz)
            rwa [show i + (j + 1) = i + 1 + j by omega] at this)
          have hx' := hx
          rw [e3] at hx'
          rw [e4] at h1
          simp only [RS, V.isAgg, R, List.cons.injEq, and_true] at hx' h1
          have hsn : Instr.sameNow (.int kk) x y.key = some (decide (z1 = z2)) := by rw [hx', h1]; simp [Instr.sameNow]; rfl
          have hvv : veqV .int k (ks i) = decide (z1 = z2) := by rw [e3, e4]; rfl
          by_cases hz : z1 = z2
          · exact ⟨some (i, y.val), by simp [Instr.findNow, hsn, hz], Found.cons_hit (by rw [hvv]; simp [hz])⟩
          · exact ⟨r, by simp [Instr.findNow, hsn, hz, g1], Found.cons_miss (by rw [hvv]; simp [hz]) g2⟩
      obtain ⟨r, g1, g2⟩ := now es.toList 0 hall
      exact ⟨r, by simp [Instr.findKey, run_underlying hu, g1], g2⟩
    · cases hc
  · obtain ⟨m, el, hu⟩ : ∃ m el, M.P.underlying t = some (.array m el) := by
      simp only [chkES] at hc
      split at hc
      · rename_i m el hu; exact ⟨m, el, hu⟩
      · cases hc
    obtain ⟨r, g1, g2⟩ := key es.toList 0 hall
    exact ⟨r, (run_findKey_eq (P := M.P) (w := e.w) (k := t) (by rw [hu]) x es.toList).trans g1, g2⟩

/-- A world with a map's block written. -/
def wmap (w : World) (g : Nat) (es : Array MapEntry) (clock : Nat) : World := { w with heap := w.heap.setIfInBounds g (.map es clock) }
theorem wmap_same {w : World} {g : Nat} {o : Obj} (hg : w.heap[g]? = some o) (es : Array MapEntry) (clock : Nat) : (wmap w g es clock).heap[g]? = some (.map es clock) := by
  have := (Array.getElem?_eq_some_iff.1 hg).1
  simp [wmap, this]
theorem wmap_other {w : World} {g b : Nat} (es : Array MapEntry) (clock : Nat) (h : b ≠ g) : (wmap w g es clock).heap[b]? = w.heap[b]? := by
  simp [wmap, Array.getElem?_setIfInBounds_ne (Ne.symm h)]
theorem bsize_wmap {w : World} {g : Nat} {es0 : Array MapEntry} {c0 : Nat} (hg : w.heap[g]? = some (.map es0 c0)) (es : Array MapEntry) (clock : Nat) (b : Nat) : bsize (wmap w g es clock) b = bsize w b := by
  unfold bsize
  by_cases h : b = g
  · subst h; rw [wmap_same hg, hg]
  · rw [wmap_other es clock h]

theorem Env.le_map {e : Env} {g : Nat} {es0 : Array MapEntry} {c0 : Nat} (hg : e.w.heap[g]? = some (.map es0 c0)) (him : ¬ e.im g) (es : Array MapEntry) (clock : Nat) :
    e.le { e with w := wmap e.w g es clock } where
  D _ hi := ⟨hi, rfl⟩
  im b hb := ⟨hb, fun c el fz hc => ⟨el, fz, by
    show (wmap e.w g es clock).heap[b]? = _
    rw [wmap_other _ _ (fun h' : b = g => him (h' ▸ hb))]; exact hc⟩⟩
  sz b := Nat.le_of_eq (bsize_wmap hg es clock b).symm
  φ := rfl
  τ := rfl

theorem Inv.rowMap {M : Seat} {c : Ctx} {e : Env} {H : Hp} (h : Inv M c e H) {id : Nat} (hid : hhas H id = true) {es0 : Array MapEntry} {c0 : Nat} (hg : e.w.heap[e.ρ id]? = some (.map es0 c0))
    {es : Array MapEntry} (clock : Nat) {n : Nat} {ks vs : Nat → V} (hn : es.size = n) (hes : ∀ i x, es[i]? = some x → ((ks i).solid = true ∧ RS e (ks i) x.key) ∧ (vs i).solid = true ∧ RS e (vs i) x.val) :
    e.le { e with w := wmap e.w (e.ρ id) es clock } ∧ Inv M c { e with w := wmap e.w (e.ρ id) es clock } (hset H id (.mp n ks vs)) := by
  obtain ⟨hD, _, him, hO⟩ := h.blk id hid
  have hle := Env.le_map hg him es clock
  refine ⟨hle, ?_, ?_, ?_, h.imo, ?_, ?_, h.keep, h.low, h.gs.mono hle, h.φ, h.τ⟩
  · refine h.ev.trans (O' := fun b => b = e.ρ id) ⟨rfl, rfl, rfl, by simp [wmap], fun b _ hb => wmap_other _ _ hb, fun b => Nat.le_of_eq (bsize_wmap hg es clock b).symm⟩ ?_
    rintro i rfl
    exact hO
  · intro j hj
    rw [hhas_hset] at hj
    obtain ⟨h1, h2, h3, h4⟩ := h.blk j hj
    refine ⟨h1, ?_, h3, h4⟩
    by_cases hji : j = id
    · subst hji
      rw [hget_hset_same _ _ _ hj]
      refine ⟨es, clock, wmap_same hg es clock, hn, fun i x hx => ?_⟩
      obtain ⟨⟨q1, q2⟩, q3, q4⟩ := hes i x hx
      exact ⟨⟨q1, RS_mono hle q2⟩, q3, RS_mono hle q4⟩
    · rw [hget_hset_other _ _ _ hji]
      refine BlkOK_mono hle h1 ?_ h2
      exact wmap_other _ _ (fun hne => hji (h.inj j id hj hid hne))
  · intro i j hi hj
    rw [hhas_hset] at hi hj
    exact h.inj i j hi hj
  · intro b hb
    obtain ⟨cells, el', fz, hc⟩ := h.imb b hb
    exact ⟨cells, el', fz, by show (wmap e.w (e.ρ id) es clock).heap[b]? = _; rw [wmap_other _ _ (fun h' : b = e.ρ id => him (h' ▸ hb))]; exact hc⟩
  · intro j hj
    show e.ρ j < (wmap e.w (e.ρ id) es clock).heap.size
    simp only [wmap, Array.size_setIfInBounds]; exact h.rb j hj

theorem run_getMap {P : Program} {w : World} {r : Nat} {es : Array MapEntry} {clock : Nat} (hb : w.heap[r]? = some (.map es clock)) : (getObj r).run P w = .ok (.map es clock) w := by simp [getObj, Sem.run, hb]
theorem run_setMap {P : Program} {w : World} {r : Nat} {es : Array MapEntry} {clock : Nat} (hb : w.heap[r]? = some (.map es clock)) (es' : Array MapEntry) (c' : Nat) : (setObj r (.map es' c')).run P w = .ok () (wmap w r es' c') := by simp [setObj, Sem.run, hb, wmap]

def aggX (x : Value) : Bool := match x with | .agg _ => true | _ => false
theorem zero_RS {e : Env} {z : Z} {x : Value} (hc : z.chk x = true) (ha : aggX x = (z.v 0).isAgg) : RS e (z.v 0) x ∧ (z.v 0).solid = true := by
  obtain ⟨_, h2, h3, _⟩ := Z.chk_R e hc
  refine ⟨?_, h3⟩
  unfold RS
  cases hg : (z.v 0).isAgg with
  | true =>
    rw [hg] at ha
    match x, ha, h2 with
    | .agg cs, _, h2 => exact ⟨cs.toList, by simp, by simpa [Value.cells] using h2⟩
  | false =>
    rw [hg] at ha
    have : x.cells = #[x] := by
      unfold Value.cells
      split
      · simp [aggX] at ha
      · rfl
    rw [this] at h2
    exact h2

theorem good_mkmap {M : Seat} {c : Ctx} {e : Env} {H : Hp} {A : List V} (hI : Inv M c e H) {n : Nat} (hn : ¬ e.D n) (hk : c.k ≤ n) (t : TypeId) (zk zv : Z) :
    Good M c e n (step A H n (.mkmap zk zv)) (Sem.run M.P (do pure (Next.value (← Instr.makeMap t none)) : Sem Next) e.w) := by
  have hle := Env.le_new (e := e) (n := n) (.map #[] 0) hn hI.imlt
  have hρ : (e.new n (.map #[] 0)).ρ n = e.w.heap.size := by simp [Env.new]
  refine ⟨.map (some e.w.heap.size), e.new n (.map #[] 0), .inl (run_v rfl), hle, ?_, ?_, fun id h => (new_D id h)⟩
  · refine hI.new hn hk ?_
    refine ⟨#[], 0, ?_, rfl, fun i x hx => by simp at hx⟩
    rw [hρ]; exact heap_alloc_new _ _
  · show RS _ (.map n) _
    simp only [RS, V.isAgg, R, hρ, and_true]
    exact .inl rfl

theorem RS_RV {e : Env} {v : V} {x : Value} (hs : v.solid = true) (h : RS e v x) : RV e v x := (RV_solid hs).2 h

theorem good_mlook {M : Seat} {c : Ctx} {e : Env} {H : Hp} {A : List V} {a : Act} (hI : Inv M c e H) (hA : FR e A a.tmps) {n : Nat} {t kt vt : TypeId} {x1 x2 : Operand} {y1 y2 : X} {s : ES} {z : Z} {ok : Bool} {zx : Value}
    (ht : M.P.underlying t = some (.map kt vt)) (hs : keyES s = true) (hc : chkES M s kt [] = true) (hz : (M.P.info? vt).bind (·.zero) = some zx) (hzc : z.chk zx = true) (hza : aggX zx = (z.v 0).isAgg)
    (h1 : chkX M x1 y1 = true) (g1 : GOK M e y1) (h2 : chkX M x2 y2 = true) (g2 : GOK M e y2) (hp : (step A H n (.mlook s z ok y1 y2)).pre) :
    Good M c e n (step A H n (.mlook s z ok y1 y2)) (Sem.run M.P (do pure (Next.value (← Instr.lookup t (a.eval x1) (a.eval x2) ok)) : Sem Next) e.w) := by
  have v1 := chkX_R hI.φ hA h1 g1
  have v2 := chkX_R hI.φ hA h2 g2
  simp only [step, vlook] at hp ⊢
  generalize a.eval x1 = m at *
  generalize a.eval x2 = k at *
  split at hp
  case h_2 => exact hp.elim
  rename_i id hy
  rw [hy] at v1
  split at hp
  case h_2 => exact hp.elim
  rename_i nn ks vs hb
  obtain ⟨p1, p2, p3, p4⟩ := hp
  obtain ⟨_, hblk, _, _⟩ := hI.blk id p1
  simp only [hb] at hblk ⊢
  obtain ⟨es, clock, hheap, hsz, hes⟩ := hblk
  obtain ⟨hD, rfl⟩ := RV_map v1
  rw [RV_solid p2] at v2
  obtain ⟨r, hr, hf⟩ := run_find hI.τ hs hc v2 (fun i y hy => ((hes i y hy).1).2) (fun i hi => p4 i (by omega))
  have hck := run_checkKey_key hs hc p3 v2 es.isEmpty
  have hlen : es.toList.length = nn := by simpa using hsz
  unfold Found at hf
  rw [hlen] at hf
  obtain ⟨zv1, zv2⟩ := zero_RS (e := e) hzc hza
  cases hm : mff s (y2.ev A) ks 0 nn with
  | none =>
    rw [hm] at hf
    simp only at hf
    subst hf
    have hrun : (Instr.lookup t (.map (some (e.ρ id))) k ok).run M.P e.w = .ok (if ok then .tuple #[zx, .bool false] else zx) e.w := by
      simp [Instr.lookup, run_underlying ht, run_getMap hheap, hck, hr, run_zero hz]
    refine good_pure hI (run_v hrun) rfl ?_
    cases ok
    · exact RS_RV zv2 zv1
    · refine ⟨_, rfl, ?_⟩
      simp only [RT]
      exact ⟨⟨zv2, zx, rfl, zv1⟩, ⟨rfl, .bool false, rfl, by simp [RS, V.isAgg, R]⟩, trivial⟩
  | some j =>
    rw [hm] at hf
    obtain ⟨_, y, hyj, rfl, _⟩ := hf
    rw [Nat.sub_zero] at hyj
    have hyj' : es[j]? = some y := by simpa using hyj
    obtain ⟨_, q3, q4⟩ := hes j y hyj'
    have hrun : (Instr.lookup t (.map (some (e.ρ id))) k ok).run M.P e.w = .ok (if ok then .tuple #[y.val, .bool true] else y.val) e.w := by
      simp [Instr.lookup, run_underlying ht, run_getMap hheap, hck, hr]
    refine good_pure hI (run_v hrun) rfl ?_
    cases ok
    · exact RS_RV q3 q4
    · refine ⟨_, rfl, ?_⟩
      simp only [RT]
      exact ⟨⟨q3, y.val, rfl, q4⟩, ⟨rfl, .bool true, rfl, by simp [RS, V.isAgg, R]⟩, trivial⟩

theorem good_mupd {M : Seat} {c : Ctx} {e : Env} {H : Hp} {A : List V} {a : Act} (hI : Inv M c e H) (hA : FR e A a.tmps) {n : Nat} {t kt vt : TypeId} {x1 x2 x3 : Operand} {y1 y2 y3 : X} {s : ES}
    (ht : M.P.underlying t = some (.map kt vt)) (hs : keyES s = true) (hc : chkES M s kt [] = true)
    (h1 : chkX M x1 y1 = true) (g1 : GOK M e y1) (h2 : chkX M x2 y2 = true) (g2 : GOK M e y2) (h3 : chkX M x3 y3 = true) (g3 : GOK M e y3) (hp : (step A H n (.mupd s y1 y2 y3)).pre) :
    Good M c e n (step A H n (.mupd s y1 y2 y3)) (Sem.run M.P (do Instr.mapUpdate t (a.eval x1) (a.eval x2) (a.eval x3); pure Next.skip) e.w) := by
  have v1 := chkX_R hI.φ hA h1 g1
  have v2 := chkX_R hI.φ hA h2 g2
  have v3 := chkX_R hI.φ hA h3 g3
  simp only [step, vupd] at hp ⊢
  generalize a.eval x1 = m at *
  generalize a.eval x2 = k at *
  generalize a.eval x3 = x at *
  split at hp
  case h_2 => exact hp.elim
  rename_i id hy
  rw [hy] at v1
  split at hp
  case h_2 => exact hp.elim
  rename_i nn ks vs hb
  obtain ⟨p1, p2, p5, p3, p4⟩ := hp
  obtain ⟨_, hblk, _, _⟩ := hI.blk id p1
  simp only [hb] at hblk ⊢
  obtain ⟨es, clock, hheap, hsz, hes⟩ := hblk
  obtain ⟨hD, rfl⟩ := RV_map v1
  rw [RV_solid p2] at v2
  rw [RV_solid p5] at v3
  obtain ⟨r, hr, hf⟩ := run_find hI.τ hs hc v2 (fun i y hy => ((hes i y hy).1).2) (fun i hi => p4 i (by omega))
  have hck := run_checkKey_key hs hc p3 v2 false
  have hlen : es.toList.length = nn := by simpa using hsz
  unfold Found at hf
  rw [hlen] at hf
  cases hm : mff s (y2.ev A) ks 0 nn with
  | none =>
    rw [hm] at hf
    simp only at hf
    subst hf
    have hrun : (Instr.mapUpdate t (.map (some (e.ρ id))) k x).run M.P e.w = .ok () (wmap e.w (e.ρ id) (es.push { key := k, val := x, born := clock }) (clock + 1)) := by
      simp [Instr.mapUpdate, run_underlying ht, run_getMap hheap, hck, hr, run_setMap hheap]
    obtain ⟨r1, r2⟩ := hI.rowMap p1 hheap (es := es.push { key := k, val := x, born := clock }) (clock + 1) (n := nn + 1) (ks := fun j => if j = nn then y2.ev A else ks j) (vs := fun j => if j = nn then y3.ev A else vs j) (by simp [hsz]) (by
      intro i y hy
      rw [Array.getElem?_push] at hy
      by_cases hi : i = nn
      · subst hi
        rw [if_pos hsz.symm] at hy
        cases hy
        simp only [if_true]
        exact ⟨⟨p2, v2⟩, p5, v3⟩
      · rw [if_neg (by omega)] at hy
        simp only [if_neg hi]
        exact hes i y hy)
    refine ⟨undef, _, .inr ⟨?_, rfl⟩, r1, r2, ?_, fun _ h => .inl h⟩
    · simp only [Sem.run_bind, hrun, Result.andThen_ok, Sem.run_pure]
    · exact ⟨#[], rfl, trivial⟩
  | some j =>
    rw [hm] at hf
    obtain ⟨_, y, hyj, rfl, hv⟩ := hf
    rw [Nat.sub_zero] at hyj
    have hyj' : es[j]? = some y := by simpa using hyj
    have hjlt := (Array.getElem?_eq_some_iff.1 hyj').1
    obtain ⟨⟨q1, q2⟩, q3, q4⟩ := hes j y hyj'
    have hsame : k = y.key := key_same hs (p4 j (by omega)) v2 q2 hv
    have hbits := key_bits hs p3 v2
    have hkt : (Instr.keyThatStays y.key k).run M.P e.w = .ok k e.w := by
      rw [← hsame]; simp [Instr.keyThatStays, hbits]
    have hrun : (Instr.mapUpdate t (.map (some (e.ρ id))) k x).run M.P e.w = .ok () (wmap e.w (e.ρ id) (es.modify j fun q => { q with key := k, val := x }) clock) := by
      simp [Instr.mapUpdate, run_underlying ht, run_getMap hheap, hck, hr, hyj', hkt, run_setMap hheap]
    obtain ⟨r1, r2⟩ := hI.rowMap p1 hheap (es := es.modify j fun q => { q with key := k, val := x }) clock (n := nn) (ks := fun i => if i = j then y2.ev A else ks i) (vs := fun i => if i = j then y3.ev A else vs i) (by simpa using hsz) (by
      intro i y' hy'
      rw [Array.getElem?_modify] at hy'
      by_cases hi : i = j
      · subst hi
        rw [if_pos rfl, hyj'] at hy'
        simp only [Option.map_some, Option.some.injEq] at hy'
        subst hy'
        simp only [if_true]
        exact ⟨⟨p2, v2⟩, p5, v3⟩
      · rw [if_neg (fun h => hi h.symm)] at hy'
        simp only [if_neg hi]
        exact hes i y' hy')
    refine ⟨undef, _, .inr ⟨?_, rfl⟩, r1, r2, ?_, fun _ h => .inl h⟩
    · simp only [Sem.run_bind, hrun, Result.andThen_ok, Sem.run_pure]
    · exact ⟨#[], rfl, trivial⟩

def chkStr (M : Seat) (t : TypeId) : Bool := match M.P.underlying t with | some .string => true | _ => false

theorem good_sidx {M : Seat} {c : Ctx} {e : Env} {H : Hp} {A : List V} {a : Act} (hI : Inv M c e H) (hA : FR e A a.tmps) {n : Nat} {t : TypeId} {x x2 : Operand} {y y2 : X}
    (ht : chkStr M t = true) (hx : chkX M x y = true) (hg : GOK M e y) (hx2 : chkX M x2 y2 = true) (hg2 : GOK M e y2) (hp : (step A H n (.sidx y y2)).pre) :
    Good M c e n (step A H n (.sidx y y2)) (Sem.run M.P (do pure (Next.value (← Instr.index t (a.eval x) (a.eval x2)))) e.w) := by
  have ht : M.P.underlying t = some .string := by
    unfold chkStr at ht
    split at ht
    · assumption
    · cases ht
  have hv := chkX_R hI.φ hA hx hg
  have hv2 := chkX_R hI.φ hA hx2 hg2
  simp only [step] at hp ⊢
  split at hp
  · rename_i s k i hy hy2
    rw [hy] at hv; rw [hy2] at hv2
    obtain ⟨h0, h1⟩ := hp
    have hlt : i.toNat < s.size := by omega
    have hs : s[i.toNat]? = some s[i.toNat] := by simp [hlt]
    refine good_pure hI (x := .int .u8 (s[i.toNat]).toNat) (run_v ?_) rfl ?_
    · rw [RV_str hv, RV_int hv2]
      simp only [Instr.index, asIntOf, Sem.run_bind, Sem.run_pure, run_underlying ht, Result.andThen_ok]
      simp only [h0, if_true, hs, Sem.run_pure]
    · simp only [hs, Option.getD_some, RV, RS, V.isAgg, R]
  · exact hp.elim

def chkAdd64 (M : Seat) : Callee → Bool
  | .value (.func f) => (match M.P.funcs[f]? with | some fn => fn.name == "math/bits.Add64" && fn.body.isNone && (Extern.findNext fn).isNone | none => false)
  | _ => false

def chkMclone (M : Seat) : Callee → Bool
  | .value (.func f) => (match M.P.funcs[f]? with | some fn => fn.name == "maps.clone" && fn.body.isNone && (Extern.findNext fn).isNone | none => false)
  | _ => false

theorem find_mclone (fn : Func) (h : fn.name = "maps.clone") : Extern.find fn = some Extern.MapsClone.clone := by
  unfold Extern.find
  rw [h]
  have h1 : List.lookup "maps.clone" Extern.allGenericRows = none := by kernel_rfl
  have h2 : List.lookup "maps.clone" Extern.allTypedRows = none := by kernel_rfl
  have h3 : List.lookup "maps.clone" Extern.allRows = some Extern.MapsClone.clone := by kernel_rfl
  simp only [h1, h2, h3]
  rfl

theorem run_mclone {P : Program} {w : World} {r : Nat} {es : Array MapEntry} {clock : Nat} (t : TypeId) (hb : w.heap[r]? = some (.map es clock)) :
    (Extern.MapsClone.clone #[.iface t (.map (some r))]).run P w = .ok (.iface t (.map (some w.heap.size))) (w.alloc (.map es clock)) := by
  have e : Extern.MapsClone.clone #[.iface t (.map (some r))] = (getObj r >>= fun o => match o with
      | .map entries clock => (newObj (.map entries clock) >>= fun n => pure (.iface t (.map (some n))))
      | _ => stuck "maps.clone: a map expected") := rfl
  rw [e]
  simp [MapKept.run_getObj_map hb, Result.andThen, go_sem]

theorem good_mclone {M : Seat} {c : Ctx} {e : Env} {H : Hp} {A : List V} {a : Act} (hI : Inv M c e H) (hA : FR e A a.tmps) {n : Nat} (hn : ¬ e.D n) (hk' : c.k ≤ n) {k : Call} {ty : TypeId} {x1 : Operand} {y1 : X}
    (h0 : chkMclone M k.callee = true) (hxs : k.args = #[x1]) (h1 : chkX M x1 y1 = true) (g1 : GOK M e y1) (hp : (step A H n (.mclone y1)).pre) :
    Good M c e n (step A H n (.mclone y1)) (Sem.run M.P (do let d ← resolve a.eval k ty; invoke d.target d.args) e.w) := by
  have v1 := chkX_R hI.φ hA h1 g1
  unfold chkMclone at h0
  split at h0
  case h_2 => cases h0
  rename_i f hcal
  split at h0
  case h_2 => cases h0
  rename_i fn hfn
  simp only [Bool.and_eq_true, beq_iff_eq, Option.isNone_iff_eq_none] at h0
  obtain ⟨⟨hname, hbody⟩, hnext⟩ := h0
  simp only [step] at hp ⊢
  split at hp
  case h_2 => exact hp.elim
  rename_i t id e1
  split at hp
  case h_2 => exact hp.elim
  rename_i m ks vs e2
  rw [e1] at v1
  obtain ⟨b1, b2, b3, b4⟩ := hI.blk id hp
  rw [e2] at b2
  obtain ⟨es, clock, q1, q2, q3⟩ := b2
  have v1 : R e (.ifc t (.map id)) [a.eval x1] := v1
  simp only [R, V.isAgg] at v1
  obtain ⟨x, hx, -, hx2⟩ := v1
  obtain ⟨-, hx2⟩ := hx2
  simp only [List.cons.injEq, and_true] at hx hx2
  have hle := Env.le_new (e := e) (n := n) (.map es clock) hn hI.imlt
  have hρ : (e.new n (.map es clock)).ρ n = e.w.heap.size := by simp [Env.new]
  refine ⟨.iface (e.τ t) (.map (some e.w.heap.size)), e.new n (.map es clock), .inl ?_, hle, ?_, ?_, fun id h => (new_D id h)⟩
  · unfold resolve
    have hev : a.eval (.func f) = .func (.func f) #[] #[] := rfl
    simp only [hcal, hev, Deferred.ofValue, Sem.run_bind, Sem.run_pure, Result.andThen_ok, invoke]
    rw [Go.run_callFunc_extern hfn (by rw [hname]; rfl) (by rw [hbody]; rfl) hnext (find_mclone fn hname)]
    have ea : (#[] ++ k.args.map a.eval ++ #[] : Array Value) = #[.iface (e.τ t) (.map (some (e.ρ id)))] := by rw [hxs]; simp [hx, hx2]
    rw [ea, run_mclone _ q1]
    rfl
  · refine hI.new hn hk' ?_
    refine ⟨es, clock, by rw [hρ]; exact heap_alloc_new _ _, q2, fun i x hx => ?_⟩
    obtain ⟨⟨r1, r2⟩, r3, r4⟩ := q3 i x hx
    exact ⟨⟨r1, RS_mono hle r2⟩, r3, RS_mono hle r4⟩
  · show RS _ (.ifc t (.map n)) _
    simp only [RS, V.isAgg, R]
    refine ⟨.map (some e.w.heap.size), rfl, rfl, ?_, ?_⟩
    · exact .inl rfl
    · rw [hρ]

theorem good_tas {M : Seat} {c : Ctx} {e : Env} {H : Hp} {A : List V} {a : Act} (hI : Inv M c e H) (hA : FR e A a.tmps) {n : Nat} {t : Nat} {xT as : TypeId} {d : TypeDesc} {x1 : Operand} {y1 : X}
    (ht : M.τ t = as) (hd : M.P.underlying as = some d) (hni : ∀ ms, d ≠ .interface ms) (h1 : chkX M x1 y1 = true) (g1 : GOK M e y1) (hp : (step A H n (.tas t y1)).pre) :
    Good M c e n (step A H n (.tas t y1)) (Sem.run M.P (do pure (Next.value (← Instr.typeAssert (a.eval x1) xT as false)) : Sem Next) e.w) := by
  have v1 := chkX_R hI.φ hA h1 g1
  simp only [step] at hp ⊢
  split at hp
  case h_2 => exact hp.elim
  rename_i t' v e1
  rw [e1] at v1
  obtain rfl := hp
  have v1 : R e (.ifc t' v) [a.eval x1] := v1
  simp only [R] at v1
  obtain ⟨x, hx, hs, hx2⟩ := v1
  simp only [List.cons.injEq, and_true] at hx
  refine good_pure hI (x := x) (run_v ?_) rfl ?_
  · rw [hx]
    have hτ : e.τ t' = as := by rw [hI.τ]; exact ht
    unfold Instr.typeAssert
    simp only [Sem.run_bind, run_underlying hd, Result.andThen_ok]
    cases d <;> first | exact absurd rfl (hni _) | simp [hτ]
  · refine RS_RV hs ?_
    unfold RS
    cases hag : v.isAgg with
    | true => rw [hag] at hx2; exact hx2
    | false => rw [hag] at hx2; exact hx2

theorem find_add64 (fn : Func) (h : fn.name = "math/bits.Add64") : Extern.find fn = some Go.add64Entry := by
  unfold Extern.find
  rw [h]
  have h1 : List.lookup "math/bits.Add64" Extern.allGenericRows = none := by kernel_rfl
  have h2 : List.lookup "math/bits.Add64" Extern.allTypedRows = none := by kernel_rfl
  have h3 : List.lookup "math/bits.Add64" Extern.allRows = some Go.add64Entry := by kernel_rfl
  simp only [h1, h2, h3]
  rfl

theorem good_add64 {M : Seat} {c : Ctx} {e : Env} {H : Hp} {A : List V} {a : Act} (hI : Inv M c e H) (hA : FR e A a.tmps) {n : Nat} {k : Call} {ty : TypeId} {x1 x2 x3 : Operand} {y1 y2 y3 : X}
    (h0 : chkAdd64 M k.callee = true) (hxs : k.args = #[x1, x2, x3]) (h1 : chkX M x1 y1 = true) (g1 : GOK M e y1) (h2 : chkX M x2 y2 = true) (g2 : GOK M e y2) (h3 : chkX M x3 y3 = true) (g3 : GOK M e y3) (hp : (step A H n (.add64 y1 y2 y3)).pre) :
    Good M c e n (step A H n (.add64 y1 y2 y3)) (Sem.run M.P (do let d ← resolve a.eval k ty; invoke d.target d.args) e.w) := by
  have v1 := chkX_R hI.φ hA h1 g1
  have v2 := chkX_R hI.φ hA h2 g2
  have v3 := chkX_R hI.φ hA h3 g3
  unfold chkAdd64 at h0
  split at h0
  case h_2 => cases h0
  rename_i f hcal
  split at h0
  case h_2 => cases h0
  rename_i fn hfn
  simp only [Bool.and_eq_true, beq_iff_eq, Option.isNone_iff_eq_none] at h0
  obtain ⟨⟨hname, hbody⟩, hnext⟩ := h0
  simp only [step] at hp ⊢
  split at hp
  case h_2 => exact hp.elim
  rename_i p q r e1 e2 e3
  rw [e1] at v1; rw [e2] at v2; rw [e3] at v3
  obtain ⟨p0, q0, r0, r1⟩ := hp
  refine good_pure hI (x := .tuple #[.int .u64 ((p + q + r) % 18446744073709551616), .int .u64 ((p + q + r) / 18446744073709551616)]) ?_ rfl ?_
  · unfold resolve
    have hev : a.eval (.func f) = .func (.func f) #[] #[] := rfl
    simp only [hcal, hev, Deferred.ofValue, Sem.run_bind, Sem.run_pure, Result.andThen_ok, invoke]
    rw [Go.run_callFunc_extern hfn (by rw [hname]; rfl) (by rw [hbody]; rfl) hnext (find_add64 fn hname)]
    have ea : (#[] ++ k.args.map a.eval ++ #[] : Array Value) = #[a.eval x1, a.eval x2, a.eval x3] := by rw [hxs]; simp
    rw [ea, RV_int v1, RV_int v2, RV_int v3, Go.run_add64 p q r p0 q0 r0 r1]
    rfl
  · simp only [RV]
    refine ⟨_, rfl, ⟨rfl, _, rfl, ?_⟩, ⟨rfl, _, rfl, ?_⟩, trivial⟩ <;> simp [RS, R, V.isAgg]
end Mv
namespace Mv
open Go

theorem good_mm {M : Seat} {c : Ctx} {e : Env} {H : Hp} {A : List V} {a : Act} (hI : Inv M c e H) (hA : FR e A a.tmps) {n : Nat} {max : Bool} {ts : Array TypeId} {ty : TypeId} {x1 x2 : Operand} {y1 y2 : X}
    (hx : chkX M x1 y1 = true) (hx2 : chkX M x2 y2 = true) (hp : (step A H n (.mm max y1 y2)).pre) :
    Good M c e n (step A H n (.mm max y1 y2)) (Sem.run M.P (do pure (Next.value (← (if max then Builtin.max_ ts ty #[a.eval x1, a.eval x2] else Builtin.min_ ts ty #[a.eval x1, a.eval x2])))) e.w) := by
  have v1 := chkX_R hI.φ hA hx (gok hI hx)
  have v2 := chkX_R hI.φ hA hx2 (gok hI hx2)
  simp only [step] at hp ⊢
  split at hp
  · rename_i k i k' j hy1 hy2
    rw [hy1] at v1
    rw [hy2] at v2
    have hp' : k = k' := hp
    subst hp'
    rw [RV_int v1, RV_int v2]
    refine good_pure hI (x := .int k (if max then (if i < j then j else i) else (if j < i then j else i))) (run_v ?_) rfl (RV_mkint _ _)
    cases max <;> simp [Builtin.min_, Builtin.max_, Builtin.min2, Builtin.max2]
  · exact hp.elim

theorem caps_R {M : Seat} {e : Env} {A : List V} {a : Act} (hφ : e.φ = M.φ) (hA : FR e A a.tmps) : ∀ (xs : List Operand) (ys : List X) (front : List Value), (xs.length = ys.length ∧ ∀ q ∈ xs.zip ys, chkX M q.1 q.2 = true ∧ GOK M e q.2) → vcapsOK A ys →
    R e (vcaps A ys front.length) (front ++ xs.map a.eval) ∧ (∀ x ∈ xs.map a.eval, x.oneCell' = true)
  | [], [], front, _, _ => ⟨trivial, by simp⟩
  | x :: xs, y :: ys, front, hc, hok => by
    simp only [vcapsOK] at hok
    obtain ⟨⟨h1, h2⟩, hok'⟩ := hok
    obtain ⟨hx, hg⟩ := hc.2 (x, y) (by simp)
    have hv := chkX_R hφ hA hx hg
    rw [RV_solid h1] at hv
    unfold RS at hv
    rw [h2] at hv
    simp only at hv
    have h1c := R_one h1 hv
    have hsz : (y.ev A).size = 1 := by
      have := R_len h1 hv
      simpa using this.symm
    obtain ⟨r1, r2⟩ := caps_R hφ hA xs ys (front ++ [a.eval x]) ⟨by simpa using hc.1, fun q hq => hc.2 q (by simp [hq])⟩ hok'
    simp only [List.length_append, List.length_cons, List.length_nil, Nat.zero_add, List.append_assoc, List.singleton_append] at r1
    refine ⟨?_, fun v hv' => ?_⟩
    · simp only [vcaps, R, List.map_cons]
      have hch : (vcaps A ys (front.length + 1)).chain = true := by cases ys <;> rfl
      refine ⟨hch, ?_, ?_, ?_, r1⟩
      · rw [hsz]
        cases ys with
        | nil => simp [vcaps, V.flo]
        | cons y' ys' => simp [vcaps, V.flo]
      · rw [hsz]; simp
      · rw [hsz]; simpa using hv
    · simp only [List.map_cons, List.mem_cons] at hv'
      rcases hv' with rfl | hv'
      · exact h1c _ (by simp)
      · exact r2 v hv'
  | [], _ :: _, _, hc, _ => by simp at hc
  | _ :: _, [], _, hc, _ => by simp at hc

theorem good_mkfn {M : Seat} {c : Ctx} {e : Env} {H : Hp} {A : List V} {a : Act} (hI : Inv M c e H) (hA : FR e A a.tmps) {n : Nat} {f : Nat} {xs : Array Operand} {ys : List X}
    (hlt : f < 1000000) (hc : xs.size = ys.length ∧ ∀ q ∈ xs.toList.zip ys, chkX M q.1 q.2 = true) (hp : (step A H n (.mkfn f ys)).pre) :
    Good M c e n (step A H n (.mkfn f ys)) (Sem.run M.P (do pure (Next.value (← Instr.makeFunc (.func (M.φ f)) ((#[] : Array Operand).map a.eval) (xs.map a.eval)))) e.w) := by
  simp only [step] at hp ⊢
  obtain ⟨r1, r2⟩ := caps_R hI.φ hA xs.toList ys [] ⟨by simpa using hc.1, fun q hq => ⟨hc.2 q hq, gok hI (hc.2 q hq)⟩⟩ hp
  refine good_pure hI (x := .func (.func (M.φ f)) #[] (xs.map a.eval)) (run_v (by simp [Instr.makeFunc])) rfl ?_
  simp only [RV, RS, V.isAgg, R]
  refine ⟨xs.toList.map a.eval, by rw [hI.φ, fnV, if_pos hlt]; congr 2; apply Array.ext'; simp, by simp [hc.1], ⟨by cases ys <;> rfl, r2⟩, by simpa using r1⟩

/-- A type has this method itself, and it takes a pointer. -/
def chkMth (M : Seat) (t k : Nat) : Bool :=
  match M.P.info? (M.τ t) with
  | some i => (match i.methods.find? (·.name == mname k) with
    | some m => m.path.isEmpty && (match m.func with | some (_, true) => true | _ => false)
    | none => false)
  | none => false

theorem run_nilAhead {P : Program} {t : TypeId} {nm : String} {i : TypeInfo} {m : Method} {f : FuncId} (hi : P.info? t = some i) (hm : i.methods.find? (·.name == nm) = some m) (hp : m.path = #[]) (hf : m.func = some (f, true)) (v : Value) (w : World) (d : Nat) :
    (nilAhead (d + 1) t v nm).run P w = .ok (some false) w := by
  simp only [nilAhead, typeInfo, Sem.run_bind, hi, hm, hp, hf, followBlind, Sem.run_pure, Result.andThen_ok]
  simp [hi, hm, hp, hf, followBlind]

theorem good_mkmth {M : Seat} {c : Ctx} {e : Env} {H : Hp} {A : List V} {a : Act} (hI : Inv M c e H) (hA : FR e A a.tmps) {n : Nat} {k : Nat} {nm : String} {first xs : Array Operand} {x : Operand} {y : X}
    (hk : mname k = nm) (hf : first = #[x]) (hxs : xs = #[]) (hx : chkX M x y = true) (hg : GOK M e y) (hp : (step A H n (.mkmth k y)).pre) :
    Good M c e n (step A H n (.mkmth k y)) (Sem.run M.P (do pure (Next.value (← Instr.makeFunc (.method nm) (first.map a.eval) (xs.map a.eval)))) e.w) := by
  subst hf hxs hk
  have hv := chkX_R hI.φ hA hx hg
  simp only [step] at hp ⊢
  split at hp
  case h_2 => exact hp.elim
  rename_i t v hy
  rw [hy] at hv
  refine good_pure hI (x := .func (.method (mname k)) #[a.eval x] #[]) (run_v (by simp [Instr.makeFunc])) rfl ?_
  simp only [RV, RS, V.isAgg] at hv ⊢
  have hl := R_len (v := .ifc t v) rfl hv
  have ho := R_one (v := .ifc t v) rfl hv
  refine R.eq_def .. ▸ ⟨[a.eval x], ?_, ?_⟩
  · rw [fnV, if_neg (by omega), show 1000000 + k - 1000000 = k by omega]
  · refine R.eq_def .. ▸ ⟨rfl, ⟨rfl, fun z hz => ho z hz⟩, ?_⟩
    refine R.eq_def .. ▸ ⟨rfl, by simp [V.size, V.flo], by simp [V.size], by simpa [V.size] using hv, trivial⟩

theorem good_nilm {M : Seat} {c : Ctx} {e : Env} {H : Hp} {A : List V} {a : Act} (hI : Inv M c e H) (hA : FR e A a.tmps) {n : Nat} {o : Oper} {k : Nat} {ts : List Nat} {x : Operand} {y : X} (ho : o.op = .nilCheck x)
    (hx : chkX M x y = true) (hg : GOK M e y) (hts : ts.all (fun t => chkMth M t k) = true) (hp : (step A H n (.nilm k ts y)).pre) :
    Good M c e n (step A H n (.nilm k ts y)) (Sem.run M.P (execOp a.eval o) e.w) := by
  have hv := chkX_R hI.φ hA hx hg
  simp only [execOp, ho]
  simp only [step] at hp ⊢
  split at hp
  case h_2 => exact hp.elim
  rename_i f m j t v r hy
  rw [hy] at hv
  obtain ⟨rfl, hmem, rfl, rfl⟩ := hp
  refine good_pure hI (x := a.eval x) ?_ rfl hv
  simp only [RV, RS, V.isAgg, R, List.cons.injEq, and_true] at hv
  obtain ⟨xs, hx', hlen, _, _, _, _, ⟨z, hz, _⟩, _⟩ := hv
  have hc := List.all_eq_true.1 hts t hmem
  unfold chkMth at hc
  split at hc
  case h_2 => cases hc
  rename_i i hi
  split at hc
  case h_2 => cases hc
  rename_i mr hmr
  simp only [Bool.and_eq_true, Array.isEmpty_iff] at hc
  obtain ⟨hpath, hc⟩ := hc
  split at hc
  case h_2 => cases hc
  rename_i g hfn
  have hxs : xs = [.iface (M.τ t) z] := by
    match xs, hlen with
    | [q], _ =>
      have : [q] = [Value.iface (e.τ t) z] := by simpa [V.size] using hz
      rw [this, hI.τ]
  rw [hx', fnV, if_neg (by omega), hxs, show 1000000 + k - 1000000 = k by omega]
  have hn := run_nilAhead hi hmr hpath hfn z e.w (M.P.types.size + Made.depth - 1)
  have hd : M.P.types.size + Made.depth - 1 + 1 = M.P.types.size + Made.depth := by
    have : 0 < Made.depth := by decide
    omega
  rw [hd] at hn
  simp [Sem.run_bind, hn]

def chkZ (M : Seat) (t : TypeId) (z : Z) : Bool := match (M.P.info? t).bind (·.zero) with | some x => z.chk x | none => false
def chkArr (M : Seat) (t : TypeId) (m sz : Nat) : Bool := match M.P.underlying t with | some (.array m' el) => m == m' && tsz M el == some sz | _ => false
def chkSl (M : Seat) (t : TypeId) (sz : Nat) : Bool := match M.P.underlying t with | some (.slice el) => tsz M el == some sz | _ => false
def chkConvT (M : Seat) (s d : TypeId) (k : IntKind) : Bool := match M.P.underlying d, M.P.underlying s with | some (.int k'), some _ => decide (k = k') | _, _ => false
def chkBuildT (M : Seat) (t : TypeId) (parts : Array (Nat × Operand)) (ps : List (Stp × Nat × X)) : Bool :=
  match M.P.underlying t with
  | some (.struct fs) => (match sfs M fs.toList with | some pl => chkParts M (fun i => pl[i]?) parts.toList ps | none => false)
  | some (.array _ el) => (match tsz M el with | some sz => chkParts M (fun i => some (i * sz, sz)) parts.toList ps | none => false)
  | _ => false
def chkBslT (M : Seat) (t : TypeId) (z : Z) (parts : Array (Nat × Operand)) (ps : List (Stp × Nat × X)) : Bool :=
  match M.P.underlying t with
  | some (.slice el) => chkZ M el z && tsz M el == some z.sz && chkParts M (fun i => some (i * z.sz, z.sz)) parts.toList ps
  | _ => false
def chkFadrT (M : Seat) (s : TypeId) (i off : Nat) : Bool :=
  match M.P.underlying s with
  | some (.struct fs) => (match fs[i]? with | some f => f.offset == off && (match tsz M f.type with | some sz => sz != 0 | none => false) | none => false)
  | _ => false
def chkFldT (M : Seat) (s : TypeId) (i off sz : Nat) (agg : Bool) : Bool :=
  match M.P.underlying s with
  | some (.struct fs) => (match fs[i]? with | some f => f.offset == off && tsz M f.type == some sz && tagg M f.type == some agg | none => false)
  | _ => false
def chkIdxT (M : Seat) (t : TypeId) (m sz : Nat) (agg : Bool) : Bool := match M.P.underlying t with | some (.array m' el) => m == m' && tsz M el == some sz && tagg M el == some agg | _ => false
def chkIfT (M : Seat) (t : TypeId) : Bool := match M.P.underlying t with | some (.interface _) | none => false | _ => true
def chkLenT (M : Seat) (ts : Array TypeId) (k : Nat) : Bool := match ts[0]? with | some t => (match M.P.underlying t with | some d => lenKind k d | none => false) | none => false
def chkAppT (M : Seat) (sT xT : TypeId) (sz bytes : Nat) : Bool :=
  match M.P.underlying sT, M.P.underlying xT with
  | some (.slice el), some (.slice _) => (match M.P.info? el with | some i => i.size == sz && i.bytes == bytes && decide (0 < bytes) && (match i.zero with | some z => z.cells.size == sz | none => false) | none => false)
  | _, _ => false
def chkCopyT (M : Seat) (ts : Array TypeId) (sz : Nat) : Bool := match ts[0]? with | some sT => chkSl M sT sz | none => false
def chkMkslT (M : Seat) (t : TypeId) (sz bytes : Nat) (z : Z) : Bool :=
  match M.P.underlying t with
  | some (.slice el) => (match M.P.info? el with | some i => i.size == z.sz && i.bytes == bytes && sz == z.sz && decide (0 < z.sz) && (match i.zero with | some x => z.chk x | none => false) | none => false)
  | _ => false

def isB (b : Builtin) : Callee → Bool
  | .builtin b' => decide (b = b')
  | _ => false

def chkX2 (M : Seat) (xs : Array Operand) (y1 y2 : X) : Bool :=
  match xs.toList with
  | [x1, x2] => chkX M x1 y1 && chkX M x2 y2
  | _ => false

def chkX3 (M : Seat) (xs : Array Operand) (y1 y2 y3 : X) : Bool :=
  match xs.toList with
  | [x1, x2, x3] => chkX M x1 y1 && chkX M x2 y2 && chkX M x3 y3
  | _ => false

/-- The check. -/
def chkMapK (M : Seat) (t : TypeId) (s : ES) : Bool := keyES s && (match M.P.underlying t with | some (.map kt _) => chkES M s kt [] | _ => false)
def chkMapT (M : Seat) (t : TypeId) (s : ES) (z : Z) : Bool := keyES s && (match M.P.underlying t with
  | some (.map kt vt) => chkES M s kt [] && (match (M.P.info? vt).bind (·.zero) with | some x => z.chk x && aggX x == (z.v 0).isAgg | none => false)
  | _ => false)
def chkOp (M : Seat) (op : Op) (lo : LO) : Bool :=
  match lo with
  | .mv y => (match op with | .move x => chkX M x y | .assign x => chkX M x y | _ => false)
  | .pick y1 y2 y3 => (match op with | .pick x1 x2 x3 => chkX M x1 y1 && chkX M x2 y2 && chkX M x3 y3 | _ => false)
  | .ari op' y1 y2 => (match op with | .binOp op _ x1 x2 _ => decide (op = op') && chkX M x1 y1 && chkX M x2 y2 | _ => false)
  | .eq neg c s y1 y2 => (match op with | .binOp op t x1 x2 _ => decide (op = if neg then .neq else .eql) && chkEq M c s t x1 x2 && (topES s || isStrES s) && chkX M x1 y1 && chkX M x2 y2 | _ => false)
  | .un op' y1 => (match op with | .unOp op _ x1 => decide (op = op') && chkX M x1 y1 | _ => false)
  | .conv k y1 => (match op with | .convert s d x1 => chkConvT M s d k && chkX M x1 y1 | _ => false)
  | .alloc z => (match op with | .alloc t => chkZ M t z | _ => false)
  | .box y1 => (match op with | .box _ x1 => chkX M x1 y1 | _ => false)
  | .build z ps => (match op with | .build t parts => chkZ M t z && (z.v 0).isAgg && ps.all (fun q => noR [q.1]) && chkBuildT M t parts ps | _ => false)
  | .bsl sz m' z ps => (match op with | .buildSlice t m parts => m == m' && ps.all (fun q => noR [q.1]) && sz == z.sz && decide (0 < z.sz) && decide (m * z.sz ≤ 2 ^ 24) && chkBslT M t z parts ps | _ => false)
  | .load agg sz y1 => (match op with | .load t x1 => tsz M t == some sz && tagg M t == some agg && chkX M x1 y1 | _ => false)
  | .store sz y1 y2 => (match op with | .store t x1 x2 => tsz M t == some sz && chkX M x1 y1 && chkX M x2 y2 | _ => false)
  | .nilc y1 => (match op with | .nilCheck x1 => chkX M x1 y1 | _ => false)
  | .fadr off y1 => (match op with | .fieldAddr s x1 i => chkFadrT M s i off && chkX M x1 y1 | _ => false)
  | .iarr m sz y1 y2 => (match op with | .indexAddr t x1 x2 => chkArr M t m sz && chkX M x1 y1 && chkX M x2 y2 | _ => false)
  | .isl sz y1 y2 => (match op with | .indexAddr t x1 x2 => chkSl M t sz && chkX M x1 y1 && chkX M x2 y2 | _ => false)
  | .idx m sz agg y1 y2 => (match op with | .index t x1 x2 => chkIdxT M t m sz agg && chkX M x1 y1 && chkX M x2 y2 | _ => false)
  | .fld off sz agg y1 => (match op with | .field t x1 i => chkFldT M t i off sz agg && chkX M x1 y1 | _ => false)
  | .slarr m sz y1 lo' hi' => (match op with | .slice t x1 lo hi mx => mx.isNone && chkArr M t m sz && chkX M x1 y1 && chkO M lo lo' && chkO M hi hi' | _ => false)
  | .slsl sz y1 lo' hi' => (match op with | .slice t x1 lo hi mx => mx.isNone && chkSl M t sz && chkX M x1 y1 && chkO M lo lo' && chkO M hi hi' | _ => false)
  | .s2a m sz y1 => (match op with | .sliceToArrayPointer t x1 => chkArr M t m sz && chkX M x1 y1 | _ => false)
  | .mkif t' y1 => (match op with | .makeInterface t x1 => M.τ t' == t && chkIfT M t && chkX M x1 y1 | _ => false)
  | .ext y1 i' => (match op with | .extract x1 i => i == i' && chkX M x1 y1 | _ => false)
  | .len k y1 => (match op with | .call c => isB .len c.callee && chkLenT M c.argTypes k && (match c.args.toList with | [x1] => chkX M x1 y1 | _ => false) | _ => false)
  | .app sz bytes y1 y2 => (match op with | .call c => isB .append c.callee && (match c.argTypes.toList with | [sT, xT] => chkAppT M sT xT sz bytes | _ => false) && chkX2 M c.args y1 y2 | _ => false)
  | .copy sz y1 y2 => (match op with | .call c => isB .copy c.callee && chkCopyT M c.argTypes sz && chkX2 M c.args y1 y2 | _ => false)
  | .mm max y1 y2 => (match op with | .call c => isB (if max then .max else .min) c.callee && chkX2 M c.args y1 y2 | _ => false)
  | .mksl sz bytes z y1 y2 => (match op with | .makeSlice t x1 x2 => chkMkslT M t sz bytes z && chkX M x1 y1 && chkX M x2 y2 | _ => false)
  | .mkfn f' ys => (match op with | .makeFunc (.func f) first xs => M.φ f' == f && decide (f' < 1000000) && first.isEmpty && xs.size == ys.length && (xs.toList.zip ys).all (fun q => chkX M q.1 q.2) | _ => false)
  | .mkmap _ _ => (match op with | .makeMap _ r => r.isNone | _ => false)
  | .mlook s z ok y1 y2 => (match op with | .lookup t x1 x2 ok' => ok' == ok && chkMapT M t s z && chkX M x1 y1 && chkX M x2 y2 | _ => false)
  | .mupd s y1 y2 y3 => (match op with | .mapUpdate t x1 x2 x3 => chkMapK M t s && chkX M x1 y1 && chkX M x2 y2 && chkX M x3 y3 | _ => false)
  | .sidx y1 y2 => (match op with | .index t x1 x2 => chkStr M t && chkX M x1 y1 && chkX M x2 y2 | _ => false)
  | .add64 y1 y2 y3 => (match op with | .call c => chkAdd64 M c.callee && chkX3 M c.args y1 y2 y3 | _ => false)
  | .mkmth k y => (match op with | .makeFunc (.method nm) first xs => mname k == nm && xs.isEmpty && (match first.toList with | [x] => chkX M x y | _ => false) | _ => false)
  | .nilm k ts y => (match op with | .nilCheck x => chkX M x y && ts.all (fun t => chkMth M t k) | _ => false)
  | .mclone y => (match op with | .call c => chkMclone M c.callee && (match c.args.toList with | [x] => chkX M x y | _ => false) | _ => false)
  | .tas t y => (match op with | .typeAssert x _ a ok => !ok && M.τ t == a && chkIfT M a && chkX M x y | _ => false)
  | .nope => true
end Mv
namespace Mv
open Go

theorem run_builtin {M : Seat} {ρ : Operand → Value} {b : Builtin} {k : Call} {ty : TypeId} {w : World} (hb : k.callee = .builtin b) :
    Sem.run M.P (do let d ← resolve ρ k ty; invoke d.target d.args) w = (builtin b k.argTypes ty (k.args.map fun | .const _ => true | _ => false) (k.args.map ρ)).run M.P w := by
  unfold resolve
  simp only [hb]
  rfl

theorem isB_eq {b : Builtin} {k : Callee} (h : isB b k = true) : k = .builtin b := by
  cases k <;> simp_all [isB]

theorem x2_eq {M : Seat} {xs : Array Operand} {y1 y2 : X} (h : chkX2 M xs y1 y2 = true) : ∃ x1 x2, xs = #[x1, x2] ∧ chkX M x1 y1 = true ∧ chkX M x2 y2 = true := by
  unfold chkX2 at h
  split at h
  · rename_i x1 x2 hx
    simp only [Bool.and_eq_true] at h
    exact ⟨x1, x2, by apply Array.ext'; simpa using hx, h.1, h.2⟩
  · cases h

theorem goko {M : Seat} {c : Ctx} {e : Env} {H : Hp} (hI : Inv M c e H) {x : Option Operand} {y : Option X} (h : chkO M x y = true) : GOKo M e y := by
  cases x <;> cases y <;> first | trivial | (cases h; done) | exact gok hI h

section
variable {M : Seat} {c : Ctx} {e : Env} {H : Hp} {A : List V} {a : Act} (hI : Inv M c e H) (hA : FR e A a.tmps) {n : Nat}
include hI hA

theorem snd_len {k : Call} {ty : TypeId} {kk : Nat} {y1 : X} (hb : isB .len k.callee = true) (h0 : chkLenT M k.argTypes kk = true) (h1 : (match k.args.toList with | [x1] => chkX M x1 y1 | _ => false) = true) (hp : (step A H n (.len kk y1)).pre) :
    Good M c e n (step A H n (.len kk y1)) (Sem.run M.P (do let d ← resolve a.eval k ty; invoke d.target d.args) e.w) := by
  unfold chkLenT at h0
  split at h0
  case h_2 => cases h0
  rename_i t hts
  split at h0
  case h_2 => cases h0
  rename_i d ht
  split at h1
  case h_2 => cases h1
  rename_i x1 hx
  have hx' : k.args = #[x1] := by apply Array.ext'; simpa using hx
  rw [run_builtin (isB_eq hb), hx', show (#[x1] : Array Operand).map a.eval = #[a.eval x1] from by simp]
  exact good_len hI hA ht hts h0 h1 (gok hI h1) hp

theorem snd_app (hn : ¬ e.D n) (hk : c.k ≤ n) {k : Call} {ty : TypeId} {sz bytes : Nat} {y1 y2 : X} (hb : isB .append k.callee = true) (h0 : (match k.argTypes.toList with | [sT, xT] => chkAppT M sT xT sz bytes | _ => false) = true) (h1 : chkX2 M k.args y1 y2 = true) (hp : (step A H n (.app sz bytes y1 y2)).pre) :
    Good M c e n (step A H n (.app sz bytes y1 y2)) (Sem.run M.P (do let d ← resolve a.eval k ty; invoke d.target d.args) e.w) := by
  obtain ⟨x1, x2, hx, h2, h3⟩ := x2_eq h1
  split at h0
  case h_2 => cases h0
  rename_i sT xT hts
  have hts' : k.argTypes = #[sT, xT] := by apply Array.ext'; simpa using hts
  unfold chkAppT at h0
  split at h0
  case h_2 => cases h0
  rename_i el e2 hs hxT
  split at h0
  case h_2 => cases h0
  rename_i i hi
  simp only [Bool.and_eq_true, beq_iff_eq, decide_eq_true_eq] at h0
  obtain ⟨⟨⟨hsz, hby⟩, hbp⟩, h0⟩ := h0
  split at h0
  case h_2 => cases h0
  rename_i z hz
  rw [run_builtin (isB_eq hb), hx, hts', show (#[x1, x2] : Array Operand).map a.eval = #[a.eval x1, a.eval x2] from by simp]
  exact good_app hI hA hn hk hs hxT hi hsz hby hz (by simpa using h0) hbp h2 (gok hI h2) h3 (gok hI h3) hp

theorem snd_copy {k : Call} {ty : TypeId} {sz : Nat} {y1 y2 : X} (hb : isB .copy k.callee = true) (h0 : chkCopyT M k.argTypes sz = true) (h1 : chkX2 M k.args y1 y2 = true) (hp : (step A H n (.copy sz y1 y2)).pre) :
    Good M c e n (step A H n (.copy sz y1 y2)) (Sem.run M.P (do let d ← resolve a.eval k ty; invoke d.target d.args) e.w) := by
  obtain ⟨x1, x2, hx, h2, h3⟩ := x2_eq h1
  unfold chkCopyT chkSl at h0
  split at h0
  case h_2 => cases h0
  rename_i sT hts
  split at h0
  case h_2 => cases h0
  rename_i el hs
  rw [run_builtin (isB_eq hb), hx, show (#[x1, x2] : Array Operand).map a.eval = #[a.eval x1, a.eval x2] from by simp]
  exact good_copy (ty := ty) hI hA hts hs (by simpa using h0) h2 (gok hI h2) h3 (gok hI h3) hp

theorem snd_mm {k : Call} {ty : TypeId} {max : Bool} {y1 y2 : X} (hb : isB (if max then .max else .min) k.callee = true) (h1 : chkX2 M k.args y1 y2 = true) (hp : (step A H n (.mm max y1 y2)).pre) :
    Good M c e n (step A H n (.mm max y1 y2)) (Sem.run M.P (do let d ← resolve a.eval k ty; invoke d.target d.args) e.w) := by
  obtain ⟨x1, x2, hx, h2, h3⟩ := x2_eq h1
  have := good_mm (max := max) (ts := k.argTypes) (ty := ty) hI hA h2 h3 hp
  rw [run_builtin (isB_eq hb), hx, show (#[x1, x2] : Array Operand).map a.eval = #[a.eval x1, a.eval x2] from by simp]
  cases max <;> exact this

theorem snd_mkfn {f : Nat} {first xs : Array Operand} {ys : List X} (hlt : f < 1000000) (h0 : first.isEmpty = true) (h1 : xs.size = ys.length) (h2 : ∀ q ∈ xs.toList.zip ys, chkX M q.1 q.2 = true) (hp : (step A H n (.mkfn f ys)).pre) :
    Good M c e n (step A H n (.mkfn f ys)) (Sem.run M.P (do pure (Next.value (← Instr.makeFunc (.func (M.φ f)) (first.map a.eval) (xs.map a.eval)))) e.w) := by
  have h0' : first = #[] := by simpa using h0
  subst h0'
  exact good_mkfn hI hA hlt ⟨h1, h2⟩ hp
end

theorem step_sound {M : Seat} {c : Ctx} {e : Env} {H : Hp} {A : List V} {a : Act} (hI : Inv M c e H) (hA : FR e A a.tmps) {n : Nat} (hn : ¬ e.D n) (hk : c.k ≤ n) {o : Oper} {lo : LO} (h : chkOp M o.op lo = true) (hp : (step A H n lo).pre) :
    Good M c e n (step A H n lo) (Sem.run M.P (execOp a.eval o) e.w) := by
  obtain ⟨dst, op, type, pos, after, guard⟩ := o
  simp only at h
  have hgk : ∀ (place : Nat → Option (Nat × Nat)) (l : List (Nat × Operand)) (ps : List (Stp × Nat × X)), chkParts M place l ps = true → GOKps M e ps := by
    intro place l
    induction l with
    | nil => intro ps hps; cases ps with
      | nil => trivial
      | cons q r => simp [chkParts] at hps
    | cons p l ih => intro ps hps; cases ps with
      | nil => trivial
      | cons q r =>
        obtain ⟨i, ox⟩ := p; obtain ⟨s, sz, xx⟩ := q
        simp only [chkParts, Bool.and_eq_true] at hps
        exact ⟨gok hI hps.1.2, ih r hps.2⟩
  have hzt : ∀ {t : TypeId} {z : Z}, chkZ M t z = true → ∃ x, (M.P.info? t).bind (·.zero) = some x ∧ z.chk x = true := by
    intro t z hz
    unfold chkZ at hz
    split at hz
    · rename_i x hx; exact ⟨x, hx, hz⟩
    · cases hz
  have hat : ∀ {t : TypeId} {m sz : Nat}, chkArr M t m sz = true → ∃ el, M.P.underlying t = some (.array m el) ∧ tsz M el = some sz := by
    intro t m sz hz
    unfold chkArr at hz
    split at hz
    · rename_i m' el hx; simp only [Bool.and_eq_true, beq_iff_eq] at hz; obtain ⟨rfl, hz⟩ := hz; exact ⟨el, hx, hz⟩
    · cases hz
  have hst : ∀ {t : TypeId} {sz : Nat}, chkSl M t sz = true → ∃ el, M.P.underlying t = some (.slice el) ∧ tsz M el = some sz := by
    intro t sz hz
    unfold chkSl at hz
    split at hz
    · rename_i el hx; exact ⟨el, hx, by simpa using hz⟩
    · cases hz
  by_cases hany : lo = .nope
  · subst hany; exact (show False from hp).elim
  cases lo <;> (try (exact absurd rfl hany)) <;> simp only [chkOp] at h <;> (try (cases h; done)) <;> split at h <;> (try (cases h; done)) <;> (try simp only [Bool.and_eq_true, beq_iff_eq, decide_eq_true_eq, List.all_eq_true, Option.isNone_iff_eq_none] at h)
  · exact good_mv hI hA h (gok hI h)
  · exact good_mv hI hA h (gok hI h)
  · obtain ⟨⟨h1, h2⟩, h3⟩ := h
    exact good_pick hI hA h1 (gok hI h1) h2 (gok hI h2) h3 (gok hI h3) hp
  · obtain ⟨⟨rfl, h1⟩, h2⟩ := h
    exact good_ari hI hA h1 (gok hI h1) h2 (gok hI h2) hp
  · obtain ⟨⟨⟨⟨rfl, h0⟩, ht⟩, h1⟩, h2⟩ := h
    exact good_eq hI hA h0 (top_of ht) h1 (gok hI h1) h2 (gok hI h2) hp
  · obtain ⟨rfl, h1⟩ := h
    exact good_un hI hA h1 (gok hI h1) hp
  · obtain ⟨h0, h1⟩ := h
    unfold chkConvT at h0
    split at h0
    · rename_i k' ds hd hs
      simp only [decide_eq_true_eq] at h0
      subst h0
      exact good_conv hI hA hd hs h1 (gok hI h1) hp
    · cases h0
  · obtain ⟨x, hz, hc⟩ := hzt h
    exact good_alloc hI hn hk hz hc
  · exact good_box hI hA hn hk h (gok hI h) hp
  · obtain ⟨⟨⟨h0, h1⟩, h2⟩, h3⟩ := h
    obtain ⟨x, hz, hc⟩ := hzt h0
    unfold chkBuildT at h3
    split at h3
    · rename_i fs ht
      split at h3
      · rename_i pl hpl
        exact good_build_st hI hA hz hc h1 ht hpl h3 (hgk _ _ _ h3) h2 hp
      · cases h3
    · rename_i m el ht
      split at h3
      · rename_i sz hsz
        exact good_build_ar hI hA hz hc h1 ht hsz h3 (hgk _ _ _ h3) h2 hp
      · cases h3
    · cases h3
  · obtain ⟨⟨⟨⟨⟨rfl, h2⟩, rfl⟩, h4⟩, h5⟩, h6⟩ := h
    unfold chkBslT at h6
    split at h6
    · rename_i el ht
      simp only [Bool.and_eq_true, beq_iff_eq] at h6
      obtain ⟨⟨h0, hsz⟩, h3⟩ := h6
      obtain ⟨x, hz, hc⟩ := hzt h0
      exact good_bsl hI hA hn hk hz hc h4 ht hsz h5 h3 (hgk _ _ _ h3) h2 hp
    · cases h6
  · obtain ⟨⟨h1, h2⟩, h3⟩ := h
    exact good_load hI hA n h1 h2 h3 (gok hI h3) hp
  · obtain ⟨⟨h1, h2⟩, h3⟩ := h
    exact good_store hI hA n h1 h2 (gok hI h2) h3 (gok hI h3) hp
  · exact good_nilc hI hA rfl h (gok hI h) hp
  · obtain ⟨h0, h1⟩ := h
    unfold chkFadrT at h0
    split at h0
    case h_2 => cases h0
    rename_i fs hs
    split at h0
    case h_2 => cases h0
    rename_i f hf
    simp only [Bool.and_eq_true, beq_iff_eq] at h0
    obtain ⟨rfl, h0⟩ := h0
    split at h0
    case h_2 => cases h0
    rename_i sz hz
    exact good_fadr hI hA hs hf hz (by simpa using h0) h1 (gok hI h1) hp
  · obtain ⟨⟨h0, h1⟩, h2⟩ := h
    obtain ⟨el, ht, hz⟩ := hat h0
    exact good_iarr hI hA ht hz h1 (gok hI h1) h2 (gok hI h2) hp
  · obtain ⟨⟨h0, h1⟩, h2⟩ := h
    obtain ⟨el, ht, hz⟩ := hst h0
    exact good_isl hI hA ht hz h1 (gok hI h1) h2 (gok hI h2) hp
  · obtain ⟨⟨h0, h1⟩, h2⟩ := h
    unfold chkIdxT at h0
    split at h0
    case h_2 => cases h0
    rename_i m' el ht
    simp only [Bool.and_eq_true, beq_iff_eq] at h0
    obtain ⟨⟨rfl, hz⟩, ha⟩ := h0
    exact good_idx hI hA ht hz ha h1 (gok hI h1) h2 (gok hI h2) hp
  · obtain ⟨h0, h1⟩ := h
    unfold chkFldT at h0
    split at h0
    case h_2 => cases h0
    rename_i fs ht
    split at h0
    case h_2 => cases h0
    rename_i f hf
    simp only [Bool.and_eq_true, beq_iff_eq] at h0
    obtain ⟨⟨rfl, hz⟩, ha⟩ := h0
    exact good_fld hI hA ht hf hz ha h1 (gok hI h1) hp
  · obtain ⟨⟨⟨⟨rfl, h0⟩, h1⟩, h2⟩, h3⟩ := h
    obtain ⟨el, ht, hz⟩ := hat h0
    exact good_slarr hI hA ht hz h1 (gok hI h1) h2 (goko hI h2) h3 (goko hI h3) hp
  · obtain ⟨⟨⟨⟨rfl, h0⟩, h1⟩, h2⟩, h3⟩ := h
    obtain ⟨el, ht, hz⟩ := hst h0
    exact good_slsl hI hA ht hz h1 (gok hI h1) h2 (goko hI h2) h3 (goko hI h3) hp
  · obtain ⟨h0, h1⟩ := h
    obtain ⟨el, ht, hz⟩ := hat h0
    exact good_s2a hI hA ht h1 (gok hI h1) hp
  · obtain ⟨⟨rfl, h0⟩, h1⟩ := h
    unfold chkIfT at h0
    split at h0
    · cases h0
    · cases h0
    · rename_i hd1 hd2
      cases hd : M.P.underlying (M.τ _) with
      | none => exact absurd hd hd2
      | some d => exact good_mkif hI hA hd (by cases d <;> first | rfl | exact absurd hd (hd1 _)) h1 (gok hI h1) hp
  · obtain ⟨rfl, h1⟩ := h
    exact good_ext hI hA h1 (gok hI h1) hp
  · exact snd_len hI hA h.1.1 h.1.2 h.2 hp
  · exact snd_app hI hA hn hk h.1.1 h.1.2 h.2 hp
  · exact snd_copy hI hA h.1.1 h.1.2 h.2 hp
  · exact snd_mm hI hA h.1 h.2 hp
  · obtain ⟨⟨h0, h1⟩, h2⟩ := h
    unfold chkMkslT at h0
    split at h0
    case h_2 => cases h0
    rename_i el ht
    split at h0
    case h_2 => cases h0
    rename_i i hi
    simp only [Bool.and_eq_true, beq_iff_eq, decide_eq_true_eq] at h0
    obtain ⟨⟨⟨⟨hsz, hby⟩, rfl⟩, hpos⟩, h0⟩ := h0
    split at h0
    case h_2 => cases h0
    rename_i x hz
    exact good_mksl hI hA hn hk hi hz h0 hpos ht hsz hby h1 (gok hI h1) h2 (gok hI h2) hp
  · obtain ⟨⟨⟨⟨rfl, hlt⟩, h0⟩, h1⟩, h2⟩ := h
    exact snd_mkfn hI hA hlt h0 h1 h2 hp
  · rename_i t r
    cases r <;> simp at h
    exact good_mkmap hI hn hk t _ _
  · obtain ⟨⟨⟨rfl, h0⟩, h1⟩, h2⟩ := h
    unfold chkMapT at h0
    simp only [Bool.and_eq_true] at h0
    obtain ⟨hs, h0⟩ := h0
    split at h0
    case h_2 => cases h0
    rename_i kt vt ht
    simp only [Bool.and_eq_true] at h0
    obtain ⟨hc, h0⟩ := h0
    split at h0
    case h_2 => cases h0
    rename_i x hz
    simp only [Bool.and_eq_true, beq_iff_eq] at h0
    exact good_mlook hI hA ht hs hc hz h0.1 h0.2 h1 (gok hI h1) h2 (gok hI h2) hp
  · obtain ⟨⟨⟨h0, h1⟩, h2⟩, h3⟩ := h
    unfold chkMapK at h0
    simp only [Bool.and_eq_true] at h0
    obtain ⟨hs, h0⟩ := h0
    split at h0
    case h_2 => cases h0
    rename_i kt vt ht
    exact good_mupd hI hA ht hs h0 h1 (gok hI h1) h2 (gok hI h2) h3 (gok hI h3) hp
  · obtain ⟨⟨h0, h1⟩, h2⟩ := h
    exact good_sidx hI hA h0 h1 (gok hI h1) h2 (gok hI h2) hp
  · obtain ⟨h0, h1⟩ := h
    unfold chkX3 at h1
    split at h1
    case h_2 => cases h1
    rename_i kc _ x1 x2 x3 hxs
    simp only [Bool.and_eq_true] at h1
    exact good_add64 hI hA h0 (by apply Array.ext'; simpa using hxs) h1.1.1 (gok hI h1.1.1) h1.1.2 (gok hI h1.1.2) h1.2 (gok hI h1.2) hp
  · obtain ⟨⟨h0, h1⟩, h2⟩ := h
    split at h2
    case h_2 => cases h2
    rename_i x hfs
    have hfs' := Array.ext' (ys := #[x]) hfs
    exact good_mkmth hI hA h0 hfs' (by simpa using h1) h2 (gok hI h2) hp
  · exact good_nilm hI hA rfl h.1 (gok hI h.1) (List.all_eq_true.2 h.2) hp
  · obtain ⟨h0, h1⟩ := h
    split at h1
    case h_2 => cases h1
    rename_i x hxs
    exact good_mclone hI hA hn hk h0 (by apply Array.ext'; simpa using hxs) h1 (gok hI h1) hp
  · obtain ⟨⟨⟨h0, h1⟩, h2⟩, h3⟩ := h
    unfold chkIfT at h2
    rename_i ok
    cases ok <;> simp at h0
    split at h2
    · cases h2
    · cases h2
    · rename_i hd1 hd2
      cases hd : M.P.underlying _ with
      | none => exact absurd hd hd2
      | some d => exact good_tas hI hA h1 hd (fun ms he => hd1 ms (he ▸ hd)) h3 (gok hI h3) hp
end Mv
