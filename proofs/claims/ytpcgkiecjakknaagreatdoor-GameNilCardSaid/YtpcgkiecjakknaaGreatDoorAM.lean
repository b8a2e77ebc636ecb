/- A part. -/
import Derived.Test.YtpcgkiecjakknaaGreatDoorAL
set_option linter.all false
namespace Mv
open Go

def Sub (H Hc : Hp) : Prop := ∀ id, hhas H id = true → hhas Hc id = true ∧ hget Hc id = hget H id

def hminus (Hc H : Hp) : Hp := Hc.filter (fun q => !hhas H q.1)

theorem hhas_app (j : Nat) : ∀ H K : Hp, hhas (H ++ K) j = (hhas H j || hhas K j)
  | [], _ => by simp [hhas]
  | (i, v) :: r, K => by simp [hhas, hhas_app j r K, Bool.or_assoc]

theorem hget_app_l {j : Nat} : ∀ {H K : Hp}, hhas H j = true → hget (H ++ K) j = hget H j
  | [], _, h => by simp [hhas] at h
  | (i, v) :: r, K, h => by
    simp only [List.cons_append, hget]
    split
    · rfl
    · rename_i hij
      simp only [hhas, Bool.or_eq_true, beq_iff_eq, hij, false_or] at h
      exact hget_app_l h

theorem hget_app_r {j : Nat} : ∀ {H K : Hp}, hhas H j = false → hget (H ++ K) j = hget K j
  | [], _, _ => rfl
  | (i, v) :: r, K, h => by
    simp only [hhas, Bool.or_eq_false_iff, beq_eq_false_iff_ne, ne_eq] at h
    simp only [List.cons_append, hget, if_neg h.1]
    exact hget_app_r h.2

theorem hhas_hminus (H : Hp) (j : Nat) : ∀ Hc : Hp, hhas (hminus Hc H) j = (hhas Hc j && !hhas H j)
  | [] => rfl
  | (i, v) :: r => by
    have ih := hhas_hminus H j r
    unfold hminus at ih ⊢
    rw [List.filter_cons]
    by_cases hij : i = j
    · subst hij
      cases h : hhas H i with
      | true => simp only [Bool.not_true, Bool.and_false, Bool.false_eq_true, if_false]; rw [ih, h]; simp
      | false => simp [hhas]
    · have hb : (i == j) = false := by simpa using hij
      split
      · simp only [hhas, hb, Bool.false_or]; exact ih
      · simp only [hhas, hb, Bool.false_or]; exact ih

theorem hget_hminus (H : Hp) (j : Nat) (hj : hhas H j = false) : ∀ Hc : Hp, hget (hminus Hc H) j = hget Hc j
  | [] => rfl
  | (i, v) :: r => by
    have ih := hget_hminus H j hj r
    unfold hminus at ih ⊢
    rw [List.filter_cons]
    by_cases hij : i = j
    · subst hij
      simp [hj, hget]
    · split
      · simp only [hget, if_neg hij]; exact ih
      · simp only [hget, if_neg hij]; exact ih

theorem Inv.sub {M : Seat} {c : Ctx} {e : Env} {H Hc : Hp} (h : Inv M c e Hc) (hs : Sub H Hc) : Inv M c e H := by
  refine ⟨h.ev, fun j hj => ?_, fun i j hi hj => h.inj i j (hs i hi).1 (hs j hj).1, h.imo, h.imb, h.rb, h.keep, h.low, h.gs, h.φ, h.τ⟩
  obtain ⟨h1, h2⟩ := hs j hj
  rw [← h2]
  exact h.blk j h1

theorem Inv.narrow {M : Seat} {c : Ctx} {e : Env} {H Hc : Hp} (h : Inv M c e Hc) (hs : Sub H Hc) : Inv M ⟨e, fun b => ∃ id, hhas H id = true ∧ e.ρ id = b, 0⟩ e H := by
  have h' := h.sub hs
  refine ⟨Ev.refl _ _, fun j hj => ?_, h'.inj, fun b hb => .inl hb, h'.imb, h'.rb, fun b hb => hb, fun id hid => absurd hid (Nat.not_lt_zero _), h'.gs, h'.φ, h'.τ⟩
  obtain ⟨h1, h2, h3, _⟩ := h'.blk j hj
  exact ⟨h1, h2, h3, .inl ⟨j, hj, rfl⟩⟩

theorem Inv.widen {M : Seat} {c : Ctx} {e e' : Env} {H H' Hc : Hp} (h : Inv M c e Hc) (hs : Sub H Hc) (hle : e.le e') (h' : Inv M ⟨e, fun b => ∃ id, hhas H id = true ∧ e.ρ id = b, 0⟩ e' H') :
    Inv M c e' (H' ++ hminus Hc H) ∧ ∀ id, hhas Hc id = true → hhas H id = false → hhas H' id = false := by
  have hO : ∀ b, (∃ id, hhas H id = true ∧ e.ρ id = b) → c.O b ∨ c.e0.w.heap.size ≤ b := by
    rintro b ⟨id, h1, rfl⟩
    exact (h.blk id (hs id h1).1).2.2.2
  have hnew : ∀ b, (∃ id, hhas H id = true ∧ e.ρ id = b) ∨ e.w.heap.size ≤ b → c.O b ∨ c.e0.w.heap.size ≤ b := by
    rintro b (hb | hb)
    · exact hO b hb
    · have := h.ev.size; exact .inr (by omega)
  have hsep : ∀ i j, hhas Hc i = true → hhas H i = false → hhas H' j = true → e.ρ i ≠ e'.ρ j := by
    intro i j hi hn hj he
    rcases (h'.blk j hj).2.2.2 with hh | hh
    · obtain ⟨i', h1, h2⟩ := hh
      have : i = i' := h.inj i i' hi (hs i' h1).1 (he.trans h2.symm)
      rw [this, h1] at hn
      cases hn
    · have hh : e.w.heap.size ≤ e'.ρ j := hh
      have := h.rb i (h.blk i hi).1
      omega
  have hold : ∀ id, hhas (hminus Hc H) id = true → hhas Hc id = true ∧ hhas H id = false ∧ hget (hminus Hc H) id = hget Hc id := by
    intro id hid
    rw [hhas_hminus] at hid
    simp only [Bool.and_eq_true, Bool.not_eq_true'] at hid
    exact ⟨hid.1, hid.2, hget_hminus _ _ hid.2 _⟩
  have hρ : ∀ i, e.D i → e'.ρ i = e.ρ i := fun i hi => (hle.D i hi).2
  have hsame : ∀ id, hhas Hc id = true → hhas H id = false → e'.w.heap[e.ρ id]? = e.w.heap[e.ρ id]? := fun id h1 h2 =>
    h'.ev.frame _ (h.rb id (h.blk id h1).1) (fun ⟨i', k1, k2⟩ => by
      have : i' = id := h.inj i' id (hs i' k1).1 h1 k2
      rw [this, h2] at k1; cases k1)
  refine ⟨⟨h.ev.trans h'.ev (fun b hb => hO b hb), ?_, ?_, ?_, h'.imb, h'.rb, fun b hb => h'.keep b (h.keep b hb), ?_, h'.gs, h'.φ, h'.τ⟩, ?_⟩
  · intro id hid
    cases hh : hhas H' id with
    | true =>
      obtain ⟨q1, q2, q3, q4⟩ := h'.blk id hh
      rw [hget_app_l hh]
      exact ⟨q1, q2, q3, hnew _ q4⟩
    | false =>
      rw [hhas_app, hh, Bool.false_or] at hid
      obtain ⟨k1, k2, k3⟩ := hold id hid
      obtain ⟨q1, q2, q3, q4⟩ := h.blk id k1
      rw [hget_app_r hh, k3, hρ id q1]
      refine ⟨(hle.D id q1).1, BlkOK_mono hle q1 (hsame id k1 k2) q2, fun him => ?_, q4⟩
      rcases h'.imo _ him with hm | ⟨i', h1, h2⟩ | hm
      · exact q3 hm
      · have : i' = id := h.inj i' id (hs i' h1).1 k1 h2
        rw [this, k2] at h1; cases h1
      · have hm : e.w.heap.size ≤ e.ρ id := hm
        have := h.rb id q1
        omega
  · intro i j hi hj hij
    have cl : ∀ i, hhas (H' ++ hminus Hc H) i = true → hhas H' i = true ∨ (hhas H' i = false ∧ hhas Hc i = true ∧ hhas H i = false) := fun i hi => by
      cases hh : hhas H' i with
      | true => exact .inl rfl
      | false =>
        rw [hhas_app, hh, Bool.false_or] at hi
        obtain ⟨k1, k2, _⟩ := hold i hi
        exact .inr ⟨rfl, k1, k2⟩
    rcases cl i hi with h1 | ⟨_, h1, h2⟩ <;> rcases cl j hj with h3 | ⟨_, h3, h4⟩
    · exact h'.inj i j h1 h3 hij
    · rw [hρ j (h.blk j h3).1] at hij
      exact absurd hij.symm (hsep j i h3 h4 h1)
    · rw [hρ i (h.blk i h1).1] at hij
      exact absurd hij (hsep i j h1 h2 h3)
    · rw [hρ i (h.blk i h1).1, hρ j (h.blk j h3).1] at hij
      exact h.inj i j h1 h3 hij
  · intro b hb
    rcases h'.imo b hb with hm | hm | hm
    · exact h.imo b hm
    · exact .inr (hnew b (.inl hm))
    · exact .inr (hnew b (.inr hm))
  · intro id hid
    obtain ⟨h1, h2⟩ := h.low id hid
    exact ⟨(hle.D id h1).1, (hρ id h1).trans h2⟩
  · intro id h1 h2
    cases hh : hhas H' id with
    | false => rfl
    | true => exact absurd (hρ id (h.blk id h1).1).symm (hsep id id h1 h2 hh)

theorem put_getD (a : Act) (d : Option Nat) (x : Value) (t : Nat) : (a.put d x).tmps.getD t undef = if d = some t ∧ t < a.tmps.size then x else a.tmps.getD t undef := by
  cases d with
  | none => simp [Act.put]
  | some i =>
    simp only [Act.put, Option.some.injEq]
    by_cases hit : i = t
    · subst hit
      by_cases hl : i < a.tmps.size
      · simp [hl]
      · simp [hl]
    · simp [Array.getElem?_setIfInBounds_ne hit, hit]

theorem putV_getD (A : List V) (d : Option Nat) (v : V) (t : Nat) : (put A d v).getD t .junk = if d = some t ∧ t < A.length then v else A.getD t .junk := by
  cases d with
  | none => simp [put]
  | some i =>
    simp only [put, Option.some.injEq]
    by_cases hit : i = t
    · subst hit
      by_cases hl : i < A.length
      · simp [List.getD, hl]
      · simp [List.getD, hl]
    · simp [List.getD, List.getElem?_set_ne hit, hit]

theorem clo_bit (L : List DOp) (j : Nat) : ∀ (es : List Edge) (b : Nat), (es.foldl (fun b e => if Region.binds .any e then b ||| (2 ^ posOf L e.on) ||| bfAt L (posOf L e.on) else b) b).testBit j = true →
    b.testBit j = true ∨ ∃ e ∈ es, Region.binds .any e = true ∧ (j = posOf L e.on ∨ (bfAt L (posOf L e.on)).testBit j = true)
  | [], b, h => .inl h
  | e :: es, b, h => by
    rw [List.foldl_cons] at h
    rcases clo_bit L j es _ h with h1 | ⟨e', h1, h2⟩
    · split at h1
      · rename_i hb
        rw [Nat.testBit_or, Nat.testBit_or, Bool.or_eq_true, Bool.or_eq_true] at h1
        rcases h1 with (h1 | h1) | h1
        · exact .inl h1
        · rw [Nat.testBit_two_pow] at h1
          exact .inr ⟨e, by simp, hb, .inl (by simpa using Eq.symm (by simpa using h1 : posOf L e.on = j))⟩
        · exact .inr ⟨e, by simp, hb, .inr h1⟩
      · exact .inl h1
    · exact .inr ⟨e', by simp [h1], h2⟩

/-- What the check says of one operation. -/
structure DFact (M : Seat) (ops : Array Oper) (L : List DOp) (p : Nat) (o : Oper) : Prop where
  op : ops[((L[p]?).map (·.ix)).getD 0]? = some o
  dst : o.dst = dAt L p
  k : chkK M o.op (kAt L p) = true
  g : chkG ops o.guard (opAt L p).g = true
  pos : posOf L (((L[p]?).map (·.ix)).getD 0) = p
  bf : ∀ j, (bfAt L p).testBit j = true → ∃ e ∈ o.after.toList, Region.binds .any e = true ∧ (j = posOf L e.on ∨ (bfAt L (posOf L e.on)).testBit j = true)
  lt : ∀ e ∈ o.after.toList, Region.binds .any e = true → posOf L e.on < p
  w : (kAt L p).isW = true → ∀ j, j < p → (bfAt L p).testBit j = true
  ts : ∀ t ∈ (opAt L p).ts, ∀ j, j < L.length → dAt L j = some t → (bfAt L p).testBit j = true ∨ (p < j ∧ (bfAt L j).testBit p = true) ∨ j = p

theorem testBit_pow_sub_one {p j : Nat} (h : j < p) : (2 ^ p - 1).testBit j = true := by
  rw [Nat.testBit_two_pow_sub_one]; simpa using h

theorem chkDp_fact {M : Seat} {ops : Array Oper} {L : List DOp} {p : Nat} (h : chkDp M ops L p = true) : ∃ o, DFact M ops L p o := by
  unfold chkDp at h
  split at h
  · cases h
  rename_i d hd
  split at h
  · cases h
  rename_i o ho
  simp only [Bool.and_eq_true, decide_eq_true_eq, beq_iff_eq, List.all_eq_true, Bool.or_eq_true, Bool.not_eq_true'] at h
  obtain ⟨⟨⟨⟨⟨⟨⟨h1, h2⟩, h3⟩, h4⟩, h5⟩, h6⟩, h7⟩, h8⟩ := h
  have e1 : opAt L p = d.o := by simp [opAt, hd]
  have e2 : bfAt L p = d.bf := by simp [bfAt, hd]
  have e3 : ((L[p]?).map (·.ix)).getD 0 = d.ix := by simp [hd]
  refine ⟨o, by rw [e3]; exact ho, by rw [dAt, e1]; exact h1, by rw [kAt, e1]; exact h2, by rw [e1]; exact h3, by rw [e3]; exact h4, fun j hj => ?_, fun e he hb => ?_, fun hw j hj => ?_, fun t ht j hj hdj => ?_⟩
  · rw [e2, h5] at hj
    rcases clo_bit L j _ _ hj with h | h
    · simp at h
    · exact h
  · rcases h6 e he with h | h
    · rw [hb] at h; cases h
    · exact h
  · rw [kAt, e1] at hw
    rcases h7 with h | h
    · rw [hw] at h; cases h
    · rw [e2, h]; exact testBit_pow_sub_one hj
  · rw [e1] at ht
    have hdj' : (L[j]?).bind (fun x => x.o.d) = some t := by
      have := hdj
      simp only [dAt, opAt] at this
      cases hL : L[j]? with
      | none => rw [hL] at this; simp at this
      | some q => rw [hL] at this; simpa using this
    rcases h8 t ht j (List.mem_range.2 hj) with ((h | h) | h) | h
    · rw [hdj'] at h; simp at h
    · rw [e2]; exact .inl h
    · exact .inr (.inl h)
    · exact .inr (.inr h)

structure DFacts (M : Seat) (ops : Array Oper) (L : List DOp) : Prop where
  mixed : M.P.follows .mixedOrders = true
  len : L.length = ops.size
  all : ∀ i, i < ops.size → posOf L i < L.length
  at' : ∀ p, p < L.length → ∃ o, DFact M ops L p o
  uni : ∀ p q t, p < L.length → q < L.length → dAt L p = some t → dAt L q = some t → p = q

theorem chkD_facts {M : Seat} {ops : Array Oper} {L : List DOp} (h : chkD M ops L = true) : DFacts M ops L := by
  unfold chkD at h
  simp only [Bool.and_eq_true, beq_iff_eq, List.all_eq_true, List.mem_range, decide_eq_true_eq, Bool.or_eq_true] at h
  obtain ⟨⟨⟨⟨h1, h2⟩, h3⟩, h4⟩, h5⟩ := h
  refine ⟨h1, h2, fun i hi => by rw [h2]; exact h3 i hi, fun p hp => chkDp_fact (h4 p hp), fun p q t hp hq hdp hdq => ?_⟩
  have e : ∀ j, dAt L j = some t → (L[j]?).bind (fun x => x.o.d) = some t := fun j hj => by
    simp only [dAt, opAt] at hj
    cases hL : L[j]? with
    | none => rw [hL] at hj; simp at hj
    | some q => rw [hL] at hj; simpa using hj
  rcases h5 p hp q hq with h | h
  · exact h
  · rw [e p hdp, e q hdq] at h
    simp at h

theorem posOf_ix {L : List DOp} {i : Nat} (h : posOf L i < L.length) : ((L[posOf L i]?).map (·.ix)).getD 0 = i := by
  unfold posOf at h ⊢
  have := List.findIdx_getElem (xs := L) (p := fun d => d.ix == i) (w := h)
  rw [List.getElem?_eq_getElem h]
  simpa using this

section
variable {M : Seat} {ops : Array Oper} {L : List DOp} {N wm : Nat} {F : Pl} {c : Ctx}

def ixAt (L : List DOp) (p : Nat) : Nat := ((L[p]?).map (·.ix)).getD 0

def lst (L : List DOp) (S : Array Bool) (p : Nat) : Prop := S.getD (ixAt L p) false = true

def bAt (L : List DOp) (N p : Nat) : Nat := bs N L.length p (kAt L p)

/-- All that was foreseen. -/
structure Plan (M : Seat) (ops : Array Oper) (L : List DOp) (N wm : Nat) (F : Pl) : Prop where
  D : DFacts M ops L
  all : ∀ p, p < L.length → PlanAt M L N wm F p
  ids0 : ∀ id, hhas (F.H 0) id = true → id < N

theorem bf_lt (hD : DFacts M ops L) : ∀ (n p : Nat), p ≤ n → p < L.length → ∀ j, (bfAt L p).testBit j = true → j < p := by
  intro n
  induction n with
  | zero =>
    intro p hp hl j hj
    obtain ⟨o, ho⟩ := hD.at' p hl
    obtain ⟨e, he, hb, h⟩ := ho.bf j hj
    have := ho.lt e he hb
    omega
  | succ n ih =>
    intro p hp hl j hj
    obtain ⟨o, ho⟩ := hD.at' p hl
    obtain ⟨e, he, hb, h⟩ := ho.bf j hj
    have h1 := ho.lt e he hb
    rcases h with rfl | h
    · exact h1
    · have := ih (posOf L e.on) (by omega) (by omega) j h
      omega

theorem plan_len (hP : Plan M ops L N wm F) : ∀ p, p ≤ L.length → (F.A p).length = (F.A 0).length
  | 0, _ => rfl
  | p + 1, h => by
    rw [(hP.all p (by omega)).next]
    have := plan_len hP p (by omega)
    cases hd : dAt L p with
    | none => simpa [put] using this
    | some i => simpa [put] using this

theorem plan_b (hP : Plan M ops L N wm F) {t : Nat} : ∀ p, p ≤ L.length → (∀ j, j < p → dAt L j ≠ some t) → (F.A p).getD t .junk = (F.A 0).getD t .junk
  | 0, _, _ => rfl
  | p + 1, h, hn => by
    rw [(hP.all p (by omega)).next, putV_getD, if_neg (fun hc => hn p (by omega) hc.1)]
    exact plan_b hP p (by omega) (fun j hj => hn j (by omega))

theorem plan_a (hP : Plan M ops L N wm F) {t j : Nat} (hj : dAt L j = some t) (ht : t < (F.A 0).length) : ∀ p, p ≤ L.length → j < p → (F.A p).getD t .junk = F.v j
  | 0, _, h => absurd h (Nat.not_lt_zero _)
  | p + 1, h, hjp => by
    rw [(hP.all p (by omega)).next, putV_getD]
    by_cases hjp' : j = p
    · subst hjp'
      rw [if_pos ⟨hj, by rw [plan_len hP j (by omega)]; exact ht⟩]
    · rw [if_neg (fun hc => hjp' (hP.D.uni j p t (by omega) (by omega) hj hc.1))]
      exact plan_a hP hj ht p (by omega) (by omega)

theorem idsOK_has {lo hi : Nat} : ∀ {H : Hp}, idsOK lo hi H → ∀ id, hhas H id = true → id < lo ∨ hi ≤ id
  | [], _, id, h => by simp [hhas] at h
  | (i, v) :: r, hk, id, h => by
    simp only [idsOK] at hk
    simp only [hhas, Bool.or_eq_true, beq_iff_eq] at h
    rcases h with rfl | h
    · exact hk.1
    · exact idsOK_has hk.2 id h

/-- What does not write: the blocks behind it. -/
theorem plan_H (hP : Plan M ops L N wm F) {p : Nat} (hp : p < L.length) (hw : (kAt L p).isW = false) :
    F.H (p + 1) = if (kAt L p).isA = true ∧ F.x p = true then (bAt L N p, hget (F.H (p + 1)) (bAt L N p)) :: F.H p else F.H p := by
  have h := hP.all p hp
  cases hx : F.x p with
  | false => simp [(h.skip hx).2]
  | true =>
    obtain ⟨ho, _⟩ := h.run hx
    unfold OpD at ho
    cases hk : kAt L p with
    | lo o =>
      rw [hk] at ho hw
      simp only at ho
      obtain ⟨hpre, _, hH⟩ := ho
      by_cases hA : LK.isA (.lo o) = true
      · obtain ⟨cc, hc⟩ := step_A (F.A p) (bs N L.length p (.lo o)) o hA ⟨_, hpre⟩
        rw [hc] at hH
        have hb : bAt L N p = bs N L.length p (.lo o) := by simp [bAt, hk]
        rw [if_pos ⟨hA, rfl⟩, hb, ← hH]
        simp [hget]
      · rw [if_neg (fun hc => hA hc.1), ← hH]
        exact (step_H _ _ _ _ hw (by simpa using hA))
    | call f xs => rw [hk] at hw; cases hw
    | dyn x xs => rw [hk] at hw; cases hw

theorem bAt_nw {p : Nat} (hw : (kAt L p).isW = false) : bAt L N p = N + 16 * p := by simp [bAt, bs, hw]
theorem bAt_w {p : Nat} (hw : (kAt L p).isW = true) : bAt L N p = N + 16 * (L.length + p) := by simp [bAt, bs, hw]
theorem isA_nw {k : LK} (h : k.isA = true) : k.isW = false := by
  cases k with
  | lo o => cases o <;> simp_all [LK.isA, LK.isW]
  | call => cases h
  | dyn => cases h

theorem plan_ids (hP : Plan M ops L N wm F) : ∀ p, p ≤ L.length → ∀ id, hhas (F.H p) id = true → id < N + 16 * p ∨ N + 16 * L.length ≤ id
  | 0, _, id, h => .inl (hP.ids0 id h)
  | p + 1, hp, id, h => by
    have hpp := hP.all p (by omega)
    by_cases hw : (kAt L p).isW = true
    · cases hx : F.x p with
      | false =>
        rw [(hpp.skip hx).2] at h
        rcases plan_ids hP p (by omega) id h with h | h
        · exact .inl (by omega)
        · exact .inr h
      | true =>
        obtain ⟨_, _, h3⟩ := hpp.run hx
        rw [hw] at h3
        rcases idsOK_has h3 id h with h | h
        · exact .inl (by omega)
        · exact .inr h
    · have hw : (kAt L p).isW = false := by simpa using hw
      rw [plan_H hP (by omega) hw] at h
      split at h
      · simp only [hhas, Bool.or_eq_true, beq_iff_eq] at h
        rcases h with h | h
        · rw [bAt_nw hw] at h; exact .inl (by omega)
        · rcases plan_ids hP p (by omega) id h with h | h
          · exact .inl (by omega)
          · exact .inr h
      · rcases plan_ids hP p (by omega) id h with h | h
        · exact .inl (by omega)
        · exact .inr h

theorem alOf_mem : ∀ {p : Nat} {q : Nat × Nat × V}, q ∈ alOf L N F p → ∃ j, j < p ∧ (kAt L j).isA = true ∧ F.x j = true ∧ q = (j, bAt L N j, hget (F.H (j + 1)) (bAt L N j))
  | 0, q, h => by simp [alOf] at h
  | p + 1, q, h => by
    simp only [alOf] at h
    cases hc : (kAt L p).isA && F.x p with
    | true =>
      rw [hc, cond_true, List.mem_cons] at h
      simp only [Bool.and_eq_true] at hc
      rcases h with rfl | h
      · exact ⟨p, by omega, hc.1, hc.2, rfl⟩
      · obtain ⟨j, h1, h2⟩ := alOf_mem h
        exact ⟨j, by omega, h2⟩
    | false =>
      rw [hc, cond_false] at h
      obtain ⟨j, h1, h2⟩ := alOf_mem h
      exact ⟨j, by omega, h2⟩

theorem bdOf_mono {q : Nat × Hp} : ∀ {p p' : Nat}, p ≤ p' → q ∈ bdOf L F p → q ∈ bdOf L F p'
  | p, 0, h, hq => by have : p = 0 := by omega
                      subst this; exact hq
  | p, p' + 1, h, hq => by
    by_cases he : p = p' + 1
    · subst he; exact hq
    · have := bdOf_mono (by omega : p ≤ p') hq
      simp only [bdOf]
      cases (kAt L p').isW <;> simp [this]

/-- The state in the midst. -/
structure DSt (M : Seat) (L : List DOp) (N : Nat) (F : Pl) (c : Ctx) (n : Nat) (S : Array Bool) (a : Act) (P : Nat) (e : Env) (Hc : Hp) : Prop where
  sz : S.size = n
  cl : ∀ p, p < L.length → lst L S p → ∀ j, (bfAt L p).testBit j = true → lst L S j
  pre : ∀ p, p < P → lst L S p
  now : ∀ p, P ≤ p → p < L.length → (kAt L p).isW = true → ¬ lst L S p
  Pm : P ≤ L.length
  bd : (P, F.H P) ∈ bdOf L F P
  inv : Inv M c e Hc
  sub : Sub (F.H P) Hc
  al : ∀ p, P ≤ p → p < L.length → lst L S p → (kAt L p).isA = true → F.x p = true → hhas Hc (bAt L N p) = true ∧ hget Hc (bAt L N p) = hget (F.H (p + 1)) (bAt L N p)
  len : a.tmps.size = (F.A 0).length
  va : ∀ p, p < L.length → lst L S p → ∀ t, dAt L p = some t → t < (F.A 0).length → RV e (F.v p) (a.tmps.getD t undef)
  vb : ∀ t, (∀ p, p < L.length → lst L S p → dAt L p ≠ some t) → RV e ((F.A 0).getD t .junk) (a.tmps.getD t undef)
  ids : ∀ id, e.D id → id < N ∨ ∃ p, p < L.length ∧ lst L S p ∧ bAt L N p ≤ id ∧ id < bAt L N p + 16
  defs : a.defers = []

theorem sub_to (hP : Plan M ops L N wm F) {n : Nat} {S : Array Bool} {a : Act} {P : Nat} {e : Env} {Hc : Hp} (h : DSt M L N F c n S a P e Hc) :
    ∀ q, P ≤ q → q ≤ L.length → (∀ j, P ≤ j → j < q → lst L S j) → Sub (F.H q) Hc := by
  intro q
  induction q with
  | zero => intro h1 _ _; have : P = 0 := by omega
            subst this; exact h.sub
  | succ q ih =>
    intro h1 h2 h3
    by_cases hPq : P = q + 1
    · subst hPq; exact h.sub
    · have hs := ih (by omega) (by omega) (fun j hj hjq => h3 j hj (by omega))
      have hl := h3 q (by omega) (by omega)
      have hw : (kAt L q).isW = false := by
        cases hw : (kAt L q).isW with
        | false => rfl
        | true => exact absurd hl (h.now q (by omega) (by omega) hw)
      rw [plan_H hP (by omega) hw]
      split
      · rename_i hx
        obtain ⟨k1, k2⟩ := h.al q (by omega) (by omega) hl hx.1 hx.2
        intro id hid
        simp only [hhas, hget] at hid ⊢
        by_cases he : bAt L N q = id
        · subst he; simp only [if_true]; exact ⟨k1, k2⟩
        · rw [if_neg he]
          simp only [Bool.or_eq_true, beq_iff_eq, he, false_or] at hid
          exact hs id hid
      · exact hs

theorem sub_list {E Hc : Hp} (h : Sub E Hc) : ∀ (l : Hp), (∀ q ∈ l, hhas Hc q.1 = true ∧ hget Hc q.1 = q.2) → Sub (l ++ E) Hc
  | [], _ => h
  | (i, v) :: l, hl => by
    have ih := sub_list h l (fun q hq => hl q (by simp [hq]))
    intro id hid
    simp only [List.cons_append, hhas, hget] at hid ⊢
    by_cases he : i = id
    · subst he; simp only [if_true]; exact hl (i, v) (by simp)
    · rw [if_neg he]
      simp only [Bool.or_eq_true, beq_iff_eq, he, false_or] at hid
      exact ih id hid

/-- The heap to look at, in any order. -/
theorem sub_hx {n : Nat} {S : Array Bool} {a : Act} {P : Nat} {e : Env} {Hc : Hp} (h : DSt M L N F c n S a P e Hc) {p : Nat} (hp : p < L.length) (hbf : ∀ j, (bfAt L p).testBit j = true → lst L S j) :
    Sub (hx (alOf L N F p) P (bfAt L p) (F.H P)) Hc := by
  refine sub_list h.sub _ (fun q hq => ?_)
  rw [List.mem_map] at hq
  obtain ⟨q', hq', rfl⟩ := hq
  rw [List.mem_filter] at hq'
  obtain ⟨h1, h2⟩ := hq'
  obtain ⟨j, k1, k2, k3, rfl⟩ := alOf_mem h1
  simp only [Bool.and_eq_true, decide_eq_true_eq] at h2
  exact h.al j h2.1 (by omega) (hbf j h2.2) k2 k3

theorem epochs_at {A : List V} {b : Nat} {o : LO} {v : V} {wm bf : Nat} {al : List (Nat × Nat × V)} {P : Nat} {E : Hp} : ∀ {bd : List (Nat × Hp)}, epochs A b o v wm bf al bd → (P, E) ∈ bd → (bf &&& wm) >>> P = 0 →
    (step A (hx al P bf E) b o).pre ∧ (step A (hx al P bf E) b o).v = v
  | [], _, h, _ => by simp at h
  | (P', E') :: r, h, hm, hz => by
    simp only [epochs] at h
    rcases List.mem_cons.1 hm with he | hm
    · cases he
      have : ((bf &&& wm) >>> P == 0) = true := by simp [hz]
      rw [this, cond_true] at h
      exact h.1
    · exact epochs_at h.2 hm hz
end
end Mv
