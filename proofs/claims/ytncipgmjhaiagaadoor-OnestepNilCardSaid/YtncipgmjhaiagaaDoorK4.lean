/- A part of the heap that is not looked into: a memory behind an interface. -/
import Derived.Test.YtncipgmjhaiagaaDoorW1
import Derived.Test.YtncipgmjhaiagaaDoorY1
set_option linter.unusedSimpArgs false
set_option linter.unusedVariables false
namespace Mv
open Go
set_option linter.unusedSimpArgs false

/-- The same blocks, in another order. -/
def HSame (H H' : Hp) : Prop := ∀ i, hhas H' i = hhas H i ∧ hget H' i = hget H i
theorem hget_none {i : Nat} : ∀ {H : Hp}, hhas H i = false → hget H i = .junk
  | [], _ => rfl
  | (j, v) :: r, h => by
    simp only [hhas, Bool.or_eq_false_iff, beq_eq_false_iff_ne, ne_eq] at h
    simp only [hget, if_neg h.1]
    exact hget_none h.2
theorem HSame.symm {H H' : Hp} (h : HSame H H') : HSame H' H := fun i => ⟨(h i).1.symm, (h i).2.symm⟩
theorem HSame.swap {A B : Hp} (h : ∀ i, hhas A i = true → hhas B i = false) : HSame (A ++ B) (B ++ A) := fun i => by
  rw [hhas_append, hhas_append, Bool.or_comm]
  refine ⟨rfl, ?_⟩
  cases ha : hhas A i with
  | true =>
    have hb := h i ha
    rw [hget_append_r hb, hget_append_l ha]
  | false =>
    rw [hget_append_r (H := A) ha]
    cases hb : hhas B i with
    | true => rw [hget_append_l hb]
    | false => rw [hget_append_r hb, hget_none ha, hget_none hb]
theorem Inv.same {M : Seat} {c : Ctx} {e : Env} {H H' : Hp} (hI : Inv M c e H) (h : HSame H H') : Inv M c e H' where
  ev := hI.ev
  blk id hid := by
    rw [(h id).1] at hid
    rw [(h id).2]; exact hI.blk id hid
  inj i j hi hj := hI.inj i j ((h i).1 ▸ hi) ((h j).1 ▸ hj)
  imo := hI.imo
  imb := hI.imb
  rb := hI.rb
  keep := hI.keep
  low := hI.low
  gs := hI.gs
  φ := hI.φ
  τ := hI.τ
theorem CallK.same {M : Seat} {f : Nat} {us : List V} {H H2 : Hp} {n : Nat} {K : V → Hp → Prop} (h : CallK M f us H n K) (hs : HSame H2 H) : CallK M f us H2 n K :=
  fun c e vs hI hD hk ha => h c e vs (hI.same hs) hD hk ha
theorem CallK.out {M : Seat} {f : Nat} {us : List V} {H : Hp} {n : Nat} {K K' : V → Hp → Prop} (h : CallK M f us H n K) (hK : ∀ v H1, K v H1 → ∃ H2, HSame H1 H2 ∧ K' v H2) : CallK M f us H n K' := by
  intro c e vs hI hD hk ha
  refine (h c e vs hI hD hk ha).mono ?_
  rintro en w' ⟨x, v, e', H', h1, h2, h3, h4, h5, h6, h7⟩
  obtain ⟨H2, k1, k2⟩ := hK v H' h7
  exact ⟨x, v, e', H2, h1, h2, h3, h4.same k1, h5, h6, k2⟩

/-- Blocks of the caller's own: from 17 on, and not those. -/
def ow (b n : Nat) (own : Hp) : Bool := own.all fun p => decide (17 ≤ p.1) && decide (p.1 ≠ b) && decide (p.1 < n)
def owk (n : Nat) (own : Hp) : Bool := own.all fun p => decide (17 ≤ p.1) && decide (p.1 < n)
def Own (b n : Nat) (own : Hp) : Prop := ∀ i, hhas own i = true → 17 ≤ i ∧ i ≠ b ∧ i < n
theorem ow_mem {b n : Nat} : ∀ {own : Hp}, ow b n own = true → Own b n own
  | [], _, _, h => by cases h
  | (j, v) :: r, ho, i, h => by
    simp only [ow, List.all_cons, Bool.and_eq_true, decide_eq_true_eq] at ho
    simp only [hhas, Bool.or_eq_true, beq_iff_eq] at h
    rcases h with rfl | h
    · exact ⟨ho.1.1.1, ho.1.1.2, ho.1.2⟩
    · exact ow_mem (own := r) ho.2 i h
theorem owk_mem {b n : Nat} (hb : b < 17) : ∀ {own : Hp}, owk n own = true → Own b n own
  | [], _, _, h => by cases h
  | (j, v) :: r, ho, i, h => by
    simp only [owk, List.all_cons, Bool.and_eq_true, decide_eq_true_eq] at ho
    simp only [hhas, Bool.or_eq_true, beq_iff_eq] at h
    rcases h with rfl | h
    · exact ⟨ho.1.1, by omega, ho.1.2⟩
    · exact owk_mem hb (own := r) ho.2 i h
theorem hdel_none {i : Nat} : ∀ {H : Hp}, hhas H i = false → hdel H i = H
  | [], _ => rfl
  | (j, v) :: r, h => by
    simp only [hhas, Bool.or_eq_false_iff, beq_eq_false_iff_ne, ne_eq] at h
    simp only [hdel, if_neg h.1]
    rw [hdel_none h.2]
theorem idsOK_of {lo hi : Nat} : ∀ {H : Hp}, (∀ i, hhas H i = true → i < lo ∨ hi ≤ i) → idsOK lo hi H
  | [], _ => trivial
  | (j, v) :: r, h => ⟨h j (by simp [hhas]), idsOK_of (H := r) fun i hi => h i (by simp [hhas, hi])⟩

/-- An error, or none. -/
def erO : Option Int → V
  | none => .nili
  | some a => .ifc 74 (.int .i64 a)

/-- What a memory's methods do. -/
structure Mm (σ : Type) where
  rd : σ → BitVec 64 → BitVec 64 × Option Int × σ
  wr : σ → BitVec 64 → BitVec 64 → Option Int × σ
  pi : σ → Dg → Pr × Option Int × σ

/-- Arguments, results that name no block but the first. -/
def FlatA (us us' : List V) : Prop := ∀ (H : Hp) (m z : List Nat), m[0]? = some 0 → SimA H m z us us'
def FlatV (v : V) : Prop := ∀ m : List Nat, v.ren m = v

/-- A memory behind an interface: what it is made of (its list, if it has one, in the block b), and what its methods do. -/
structure MemI (M : Seat) where
  σ : Type
  t : Nat
  ht : t = 422 ∨ t = 426
  k0 : Nat
  kk : Nat
  hk : 1 ≤ k0 ∧ k0 ≤ 16 ∧ k0 ≤ kk ∧ kk ≤ k0 + 1
  E : σ → Nat → Hp
  E0 : σ → Hp
  mm : Mm σ
  Z : σ → Prop      -- nothing is in its list yet
  len : σ → Nat      -- how much is in it
  lr : ∀ s a, len (mm.rd s a).2.2 ≤ len s + 1
  lw : ∀ s a v, len (mm.wr s a v).2 ≤ len s + 1
  lp : ∀ s h, len (mm.pi s h).2.2 ≤ len s
  lz : ∀ s, Z s → len s = 0
  hids : ∀ s b i, hhas (E s b) i = true → i < k0 ∨ i = b
  hids0 : ∀ s i, hhas (E0 s) i = true → i < k0
  sim0 : ∀ (s : σ) (H : Hp) (m z : List Nat), (∀ i, i < k0 → m[i]? = some i) → (∀ i, hhas (E0 s) i = true → hhas H i = true ∧ hget H i = hget (E0 s) i) → SimH H m z (E0 s)
  simE : ∀ (s : σ) (b b' : Nat) (H : Hp) (m z : List Nat), k0 ≤ b → (∀ i, i < k0 → m[i]? = some i) → m[b']? = some b → (∀ i, hhas (E s b) i = true → hhas H i = true ∧ hget H i = hget (E s b) i) → SimH H m z (E s b')
  c0 : ∀ {f : Nat} {us us' : List V} {v : V} {s s' : σ} (own : Hp) {n : Nat} {K : V → Hp → Prop}, Runs M f us (E0 s) k0 (fun r H' k' => r = v ∧ H' = E s' k0 ∧ k' = k0 + 1) → FlatA us us' → FlatV v → Own 0 n own → K v (own ++ E s' n) → CallK M f us' (own ++ E0 s) n K
  ck : ∀ {f : Nat} {us us' : List V} {v : V} {s s' : σ} {b : Nat} (own : Hp) {n : Nat} {K : V → Hp → Prop}, Runs M f us (E s k0) kk (fun r H' k' => r = v ∧ H' = E s' kk ∧ k' = kk + 1) → FlatA us us' → FlatV v → k0 ≤ b → Own b n own → K v (own ++ E s' n) → CallK M f us' (own ++ E s b) n K
  cu : ∀ {f : Nat} {us us' : List V} {v : V} {s s' : σ} {b : Nat} (own : Hp) {n : Nat} {K : V → Hp → Prop}, Runs M f us (E s k0) kk (fun r H' k' => r = v ∧ H' = E s' k0 ∧ k' = kk + 1) → FlatA us us' → FlatV v → k0 ≤ b → Own b n own → K v (own ++ E s' b) → CallK M f us' (own ++ E s b) n K
  fr : Nat
  fw : Nat
  fp : Nat
  mr : MethOK M t 0 fr
  mw : MethOK M t 1 fw
  mp : MethOK M t 2 fp
  rr0 : ∀ (s : σ) (a : BitVec 64), Z s → ¬ 8192#64 ≤ a → Runs M fr [.ptr 0 [], W a] (E0 s) k0 (fun r H' k' => r = tup2 (W (mm.rd s a).1) (erO (mm.rd s a).2.1) ∧ H' = E (mm.rd s a).2.2 k0 ∧ k' = k0 + 1)
  rr : ∀ (s : σ) (a : BitVec 64), len s ≤ 100 → ¬ 8192#64 ≤ a → Runs M fr [.ptr 0 [], W a] (E s k0) kk (fun r H' k' => r = tup2 (W (mm.rd s a).1) (erO (mm.rd s a).2.1) ∧ H' = E (mm.rd s a).2.2 kk ∧ k' = kk + 1)
  rw : ∀ (s : σ) (a v : BitVec 64), len s ≤ 100 → ¬ 8192#64 ≤ a → Runs M fw [.ptr 0 [], W a, W v] (E s k0) kk (fun r H' k' => r = erO (mm.wr s a v).1 ∧ H' = E (mm.wr s a v).2 kk ∧ k' = kk + 1)
  rp : ∀ (s : σ) (h : Dg), Runs M fp [.ptr 0 [], dg h] (E s k0) kk (fun r H' k' => r = tup2 (prV (mm.pi s h).1) (erO (mm.pi s h).2.1) ∧ H' = E (mm.pi s h).2.2 k0 ∧ k' = kk + 1)

theorem hdel_append (i : Nat) : ∀ (A B : Hp), hdel (A ++ B) i = hdel A i ++ hdel B i
  | [], _ => rfl
  | (j, v) :: r, B => by
    simp only [List.cons_append, hdel]
    split
    · exact hdel_append i r B
    · rw [hdel_append i r B]; rfl
theorem hrest_own {own E : Hp} : ∀ {m0 : List Nat}, (∀ i ∈ m0, hhas own i = false) → hrest (own ++ E) m0 = own ++ hrest E m0
  | [], _ => rfl
  | i :: r, h => by
    rw [hrest, hrest_own (m0 := r) (fun j hj => h j (by simp [hj])), hdel_append, hdel_none (h i (by simp)), hrest]
theorem inHp_own {own E : Hp} {i : Nat} : ∀ {m0 : List Nat}, (∀ p ∈ m0, hhas own p = false) → inHp m0 (own ++ E) i = inHp m0 E i
  | [], _ => rfl
  | p :: r, h => by
    have hp := h p (by simp)
    have ih := inHp_own (own := own) (E := E) (i := i) (m0 := r) (fun q hq => h q (by simp [hq]))
    unfold inHp at ih ⊢
    rw [List.any_cons, List.any_cons, ih, hhas_append, hp, Bool.false_or, hget_append_r hp]
theorem own_tail {own E : Hp} (hd : ∀ i, hhas E i = true → hhas own i = false) (i : Nat) (h : hhas E i = true) : hhas (own ++ E) i = true ∧ hget (own ++ E) i = hget E i := by
  have hn := hd i h
  rw [hhas_append, hn, hget_append_r hn, h]
  exact ⟨rfl, rfl⟩
/-- A call that is handed a part, by a contract, beside blocks of the caller's own. -/
theorem call_own {M : Seat} {f : Nat} {us us' : List V} {v : V} {own E E' H0 Hn : Hp} {n k kn : Nat} {K : V → Hp → Prop} (m m0 : List Nat) (hr : Runs M f us H0 k (fun r H' k' => r = v ∧ H' = Hn ∧ k' = kn))
    (h0 : ∀ id i, hhas H0 id = true → m[id]? = some i → i ∈ m0) (h0m : ∀ i ∈ m0, i ∈ m) (hm : m.Nodup) (hk : m.length = k ∧ kn ≤ k + 16) (hall0 : ∀ i ∈ m0, hhas E i = true ∧ hhas own i = false) (hall : ∀ i ∈ m, hhas E i = true ∨ inHp m0 E i = true) (hus : SimA (own ++ E) m [] us us') (hH : SimH (own ++ E) m [] H0)
    (hren : renH (nums m n kn) Hn = E') (hrst : hrest E m0 = []) (hv : FlatV v) (hd : ∀ i, hhas E' i = true → hhas own i = false) (hK : K v (own ++ E')) : CallK M f us' (own ++ E) n K := by
  have key : CallK M f us' (own ++ E) n (fun v' H' => v' = v ∧ H' = E' ++ own) := by
    refine call_runs3 hr False m m0 [] h0 h0m hm (by simp) hk.1 (fun i hi => by rw [hhas_append, (hall0 i hi).1, Bool.or_true]) (fun i hi => ?_) hus hH ?_
    · rcases hall i hi with h | h
      · left; rw [hhas_append, h, Bool.or_true]
      · exact .inr (.inr ((inHp_own (fun p hp => (hall0 p hp).2)).trans h))
    · rintro v' H' k' ⟨rfl, rfl, rfl⟩
      refine ⟨⟨hk.2, fun h => h.elim⟩, hv _, ?_⟩
      rw [hren, if_neg (fun h : False => h), List.append_nil, hrest_own (fun i hi => (hall0 i hi).2), hrst, List.append_nil]
  refine CallK.out key ?_
  rintro v' H' ⟨rfl, rfl⟩
  exact ⟨own ++ E', HSame.swap (fun i hi => hd i hi), hK⟩

theorem flat_er (e : Option Int) (m : List Nat) : (erO e).ren m = erO e := by cases e <;> rfl
theorem Sim_er (e : Option Int) (H : Hp) (m z : List Nat) : Sim H m z (erO e) (erO e) := by cases e <;> simp [erO, Sim]

namespace MemI
variable {M : Seat} (I : MemI M)
theorem noE {s : I.σ} {b i : Nat} (h : 17 ≤ i) (hb : i ≠ b) : hhas (I.E s b) i = false := by
  cases hh : hhas (I.E s b) i with
  | false => rfl
  | true => rcases I.hids s b i hh with h' | h'
            · have := I.hk; omega
            · exact absurd h' hb
theorem no0 {s : I.σ} {i : Nat} (h : 17 ≤ i) : hhas (I.E0 s) i = false := by
  cases hh : hhas (I.E0 s) i with
  | false => rfl
  | true => have := I.hids0 s i hh; have := I.hk; omega
/-- What is never in the part that is not looked into. -/
theorem hdelE (s : I.σ) (b i : Nat) (h : 17 ≤ i) (hb : ¬ i = b) : hdel (I.E s b) i = I.E s b := hdel_none (I.noE h hb)
theorem hdel0 (s : I.σ) (i : Nat) (h : 17 ≤ i) : hdel (I.E0 s) i = I.E0 s := hdel_none (I.no0 h)
theorem idsE (s : I.σ) (b lo hi : Nat) (h : 17 ≤ lo) (hb : b < lo ∨ hi ≤ b) : idsOK lo hi (I.E s b) = True := eq_true (idsOK_of fun i hi' => by
  rcases I.hids s b i hi' with h' | h'
  · have := I.hk; exact .inl (by omega)
  · subst h'; exact hb)
theorem nil_in (v : Prop) : (I.t ∈ [422, 426] ∧ v) = v := by
  rcases I.ht with h | h <;> rw [h] <;> simp
/-- The part, seen from a heap that ends in it. -/
theorem tail {s : I.σ} {b n : Nat} {own : Hp} (ho : Own b n own) (i : Nat) (h : hhas (I.E s b) i = true) : hhas (own ++ I.E s b) i = true ∧ hget (own ++ I.E s b) i = hget (I.E s b) i := by
  have hn : hhas own i = false := by
    cases hh : hhas own i with
    | false => rfl
    | true =>
      obtain ⟨h1, h2, _⟩ := ho i hh
      rw [I.noE h1 h2] at h; cases h
  rw [hhas_append, hn, hget_append_r hn, h]
  exact ⟨rfl, rfl⟩
theorem tail0 {s : I.σ} {b n : Nat} {own : Hp} (ho : Own b n own) (i : Nat) (h : hhas (I.E0 s) i = true) : hhas (own ++ I.E0 s) i = true ∧ hget (own ++ I.E0 s) i = hget (I.E0 s) i := by
  have hn : hhas own i = false := by
    cases hh : hhas own i with
    | false => rfl
    | true =>
      obtain ⟨h1, _⟩ := ho i hh
      rw [I.no0 h1] at h; cases h
  rw [hhas_append, hn, hget_append_r hn, h]
  exact ⟨rfl, rfl⟩
theorem flatR (s : I.σ) (a : BitVec 64) : FlatV (tup2 (W (I.mm.rd s a).1) (erO (I.mm.rd s a).2.1)) := fun m => by simp only [tup2, V.ren, W, flat_er]
theorem flatP (s : I.σ) (h : Dg) : FlatV (tup2 (prV (I.mm.pi s h).1) (erO (I.mm.pi s h).2.1)) := fun m => by simp only [tup2, V.ren, prV, B, flat_er]
theorem flat1 (a : BitVec 64) : FlatA [.ptr 0 [], W a] [.ptr 0 [], W a] := fun H m z h => by simp only [SimA, SimV, Sim, W, h, and_self]
theorem flat2 (a b : BitVec 64) : FlatA [.ptr 0 [], W a, W b] [.ptr 0 [], W a, W b] := fun H m z h => by simp only [SimA, SimV, Sim, W, h, and_self]
theorem flatD {d : Dg} {v : V} (hv : ∀ H m z, SimV H m z (dg d) v) : FlatA [.ptr 0 [], dg d] [.ptr 0 [], v] := fun H m z h => ⟨by simp only [SimV, Sim, h, and_self], hv H m z, trivial⟩
/-- Calls of the methods, in both kinds of regions. -/
theorem dynR0 {n : Nat} {K : V → Hp → Prop} (own : Hp) {s : I.σ} (hz : I.Z s) {a : BitVec 64} {u w : V} (h : ¬ 8192#64 ≤ a) (ho : owk n own = true) (hK : K (tup2 (W (I.mm.rd s a).1) (erO (I.mm.rd s a).2.1)) (own ++ I.E (I.mm.rd s a).2.2 n)) : DynK M (.fcons 0 u w) [.ifc I.t (.ptr 0 []), W a] (own ++ I.E0 s) n K :=
  ⟨rfl, I.fr, I.mr, I.c0 own (I.rr0 s a hz h) (flat1 a) (I.flatR s a) (owk_mem (by omega) ho) hK⟩
theorem dynR {n : Nat} {K : V → Hp → Prop} (own : Hp) {s : I.σ} {b : Nat} {a : BitVec 64} {u w : V} (hL : I.len s ≤ 100) (h : ¬ 8192#64 ≤ a) (hb : 17 ≤ b) (ho : ow b n own = true) (hK : K (tup2 (W (I.mm.rd s a).1) (erO (I.mm.rd s a).2.1)) (own ++ I.E (I.mm.rd s a).2.2 n)) : DynK M (.fcons 0 u w) [.ifc I.t (.ptr 0 []), W a] (own ++ I.E s b) n K :=
  ⟨rfl, I.fr, I.mr, I.ck own (I.rr s a hL h) (flat1 a) (I.flatR s a) (by have := I.hk; omega) (ow_mem ho) hK⟩
theorem dynRk {n : Nat} {K : V → Hp → Prop} (own : Hp) {s : I.σ} {a : BitVec 64} {u w : V} (hL : I.len s ≤ 100) (h : ¬ 8192#64 ≤ a) (ho : owk n own = true) (hK : K (tup2 (W (I.mm.rd s a).1) (erO (I.mm.rd s a).2.1)) (own ++ I.E (I.mm.rd s a).2.2 n)) : DynK M (.fcons 0 u w) [.ifc I.t (.ptr 0 []), W a] (own ++ I.E s I.k0) n K :=
  ⟨rfl, I.fr, I.mr, I.ck own (I.rr s a hL h) (flat1 a) (I.flatR s a) (Nat.le_refl _) (owk_mem (by have := I.hk; omega) ho) hK⟩
theorem dynW {n : Nat} {K : V → Hp → Prop} (own : Hp) {s : I.σ} {b : Nat} {a v : BitVec 64} {u w : V} (hL : I.len s ≤ 100) (h : ¬ 8192#64 ≤ a) (hb : 17 ≤ b) (ho : ow b n own = true) (hK : K (erO (I.mm.wr s a v).1) (own ++ I.E (I.mm.wr s a v).2 n)) : DynK M (.fcons 1 u w) [.ifc I.t (.ptr 0 []), W a, W v] (own ++ I.E s b) n K :=
  ⟨rfl, I.fw, I.mw, I.ck own (I.rw s a v hL h) (flat2 a v) (fun m => flat_er _ m) (by have := I.hk; omega) (ow_mem ho) hK⟩
theorem dynP {n : Nat} {K : V → Hp → Prop} (own : Hp) {s : I.σ} {b : Nat} {h : Dg} {u w v : V} (hv : ∀ H m z, SimV H m z (dg h) v) (hb : 17 ≤ b) (ho : ow b n own = true) (hK : K (tup2 (prV (I.mm.pi s h).1) (erO (I.mm.pi s h).2.1)) (own ++ I.E (I.mm.pi s h).2.2 b)) : DynK M (.fcons 2 u w) [.ifc I.t (.ptr 0 []), v] (own ++ I.E s b) n K :=
  ⟨rfl, I.fp, I.mp, I.cu own (I.rp s h) (flatD hv) (I.flatP s h) (by have := I.hk; omega) (ow_mem ho) hK⟩
theorem opyR {n : Nat} {C : V → Hp → Prop} (own : Hp) {s : I.σ} {b : Nat} {a : BitVec 64} {u w : V} (hL : I.len s ≤ 100) (h : ¬ 8192#64 ≤ a) (hb : 17 ≤ b) (ho : ow b n own = true) (hC : C (tup2 (W (I.mm.rd s a).1) (erO (I.mm.rd s a).2.1)) (own ++ I.E (I.mm.rd s a).2.2 n)) : OpDY M (.fcons 0 u w) [.ifc I.t (.ptr 0 []), W a] (own ++ I.E s b) n C :=
  ⟨_, _, I.dynR own hL h hb ho ⟨rfl, rfl⟩, hC⟩
theorem opyW {n : Nat} {C : V → Hp → Prop} (own : Hp) {s : I.σ} {b : Nat} {a v : BitVec 64} {u w : V} (hL : I.len s ≤ 100) (h : ¬ 8192#64 ≤ a) (hb : 17 ≤ b) (ho : ow b n own = true) (hC : C (erO (I.mm.wr s a v).1) (own ++ I.E (I.mm.wr s a v).2 n)) : OpDY M (.fcons 1 u w) [.ifc I.t (.ptr 0 []), W a, W v] (own ++ I.E s b) n C :=
  ⟨_, _, I.dynW own hL h hb ho ⟨rfl, rfl⟩, hC⟩
theorem opyP {n : Nat} {C : V → Hp → Prop} (own : Hp) {s : I.σ} {b : Nat} {h : Dg} {u w v : V} (hv : ∀ H m z, SimV H m z (dg h) v) (hb : 17 ≤ b) (ho : ow b n own = true) (hC : C (tup2 (prV (I.mm.pi s h).1) (erO (I.mm.pi s h).2.1)) (own ++ I.E (I.mm.pi s h).2.2 b)) : OpDY M (.fcons 2 u w) [.ifc I.t (.ptr 0 []), v] (own ++ I.E s b) n C :=
  ⟨_, _, I.dynP own hv hb ho ⟨rfl, rfl⟩, hC⟩
/-- The end of a function that was handed the part. -/
theorem rng {q b j : Nat} (h : j < q) : (List.range q ++ [b])[j]? = some j := by
  rw [List.getElem?_append_left (by simpa using h)]; simp [h]
theorem rngL {q b : Nat} : (List.range q ++ [b])[q]? = some b := by
  rw [List.getElem?_append_right (by simp)]; simp
theorem rng_ok {q b : Nat} (h : q ≤ b) : (decide (List.range q ++ [b]).Nodup && ([] : List Nat).all (fun i => !(List.range q ++ [b]).contains i) && decide ((List.range q ++ [b]).length ≤ q + 1) && decide (q ≤ q + 1) && (List.range q).all (fun j => (List.range q ++ [b])[j]? == some j)) = true := by
  simp only [Bool.and_eq_true, decide_eq_true_eq, List.all_nil, List.all_eq_true, beq_iff_eq]
  refine ⟨⟨⟨⟨?_, trivial⟩, by simp⟩, by omega⟩, fun j hj => rng (List.mem_range.1 hj)⟩
  rw [List.nodup_append]
  refine ⟨List.nodup_range, by simp, ?_⟩
  intro a ha c hc
  simp only [List.mem_range, List.mem_singleton] at ha hc
  omega
theorem ret {x : Ctx} {rs : List RVr} {Q : V → Hp → Nat → Prop} {A : List V} (own : Hp) {s : I.σ} {b N q : Nat} {v : V} (hq : I.k0 ≤ q ∧ q ≤ 17) (hx : x.k = q) (hb : 17 ≤ b) (ho : (own.all fun p => decide (17 ≤ p.1) && decide (p.1 ≠ b)) = true)
    (h4 : Q v (I.E s q) (q + 1)) (h1 : (res A (own ++ I.E s b) rs).1) (h2 : SimV (own ++ I.E s b) (List.range q ++ [b]) [] v (res A (own ++ I.E s b) rs).2) : RetS M x rs Q A (own ++ I.E s b) N := by
  refine RetS.mk hx (List.range q ++ [b]) [] v (I.E s q) (q + 1) (rng_ok (by omega)) h1 h2 (I.simE s b q _ _ _ (by omega) (fun i hi => rng (by omega)) rngL (I.tail (n := own.foldl (fun a p => max a (p.1 + 1)) 0) fun i hi => ?_)) h4
  have : ∀ (own : Hp) (a : Nat), (own.all fun p => decide (17 ≤ p.1) && decide (p.1 ≠ b)) = true → (hhas own i = true → 17 ≤ i ∧ i ≠ b ∧ i < own.foldl (fun a p => max a (p.1 + 1)) a) ∧ a ≤ own.foldl (fun a p => max a (p.1 + 1)) a := by
    intro own
    induction own with
    | nil => intro a _; exact ⟨(fun h => by cases h), Nat.le_refl _⟩
    | cons p r ih =>
      intro a ho
      simp only [List.all_cons, Bool.and_eq_true, decide_eq_true_eq] at ho
      obtain ⟨k1, k2⟩ := ih (max a (p.1 + 1)) ho.2
      simp only [List.foldl_cons]
      refine ⟨fun h => ?_, by omega⟩
      simp only [hhas, Bool.or_eq_true, beq_iff_eq] at h
      rcases h with h | h
      · subst h; exact ⟨ho.1.1, ho.1.2, by omega⟩
      · exact k1 h
  exact (this own 0 ho).1 hi
theorem ret0 {x : Ctx} {rs : List RVr} {Q : V → Hp → Nat → Prop} {A : List V} (own : Hp) {s : I.σ} {N : Nat} {v : V} (hx : x.k = I.k0) {n : Nat} (ho : owk n own = true)
    (h4 : Q v (I.E0 s) (I.k0 + 1)) (h1 : (res A (own ++ I.E0 s) rs).1) (h2 : SimV (own ++ I.E0 s) (List.range I.k0 ++ [n]) [] v (res A (own ++ I.E0 s) rs).2) (hn : 17 ≤ n) : RetS M x rs Q A (own ++ I.E0 s) N := by
  have := I.hk
  exact RetS.mk hx (List.range I.k0 ++ [n]) [] v (I.E0 s) (I.k0 + 1) (rng_ok (by omega)) h1 h2 (I.sim0 s _ _ _ (fun i hi => rng hi) (I.tail0 (owk_mem (b := 0) (by omega) ho))) h4
/-- The same, the part as it was handed in. -/
theorem retU {x : Ctx} {rs : List RVr} {Q : V → Hp → Nat → Prop} {A : List V} (own : Hp) {s : I.σ} {N n : Nat} {v : V} (hx : x.k = I.kk) (ho : owk n own = true)
    (h4 : Q v (I.E s I.k0) (I.kk + 1)) (h1 : (res A (own ++ I.E s I.k0) rs).1) (h2 : SimV (own ++ I.E s I.k0) (List.range (I.k0 + 1)) [] v (res A (own ++ I.E s I.k0) rs).2) : RetS M x rs Q A (own ++ I.E s I.k0) N := by
  have := I.hk
  refine RetS.mk hx (List.range (I.k0 + 1)) [] v (I.E s I.k0) (I.kk + 1) ?_ h1 h2 (I.simE s I.k0 I.k0 _ _ _ (Nat.le_refl _) (fun i hi => ?_) ?_ (I.tail (owk_mem (by omega) ho))) h4
  · simp only [Bool.and_eq_true, decide_eq_true_eq, List.all_nil, List.all_eq_true, beq_iff_eq]
    exact ⟨⟨⟨⟨List.nodup_range, trivial⟩, by simp; omega⟩, by omega⟩, fun j hj => by rw [List.getElem?_range (by have := List.mem_range.1 hj; omega)]⟩
  · rw [List.getElem?_range (by omega)]
  · rw [List.getElem?_range (by omega)]
/-- A step of a loop. -/
theorem sm (own : Hp) {s : I.σ} {b b' n : Nat} {m z : List Nat} (h1 : (List.range 17).all (fun j => m[j]? == some j) = true) (h2 : m[b']? = some b) (h3 : ow b n own = true) (hb : 17 ≤ b := by decide) : SimH (own ++ I.E s b) m z (I.E s b') :=
  I.simE s b b' _ m z (by have := I.hk; omega) (fun i hi => by have := List.all_eq_true.1 h1 i (List.mem_range.2 (by have := I.hk; omega)); simpa using this) h2 (I.tail (ow_mem h3))
end MemI
/-- A weaker state, as short lists, where no more than 17 blocks were handed in. -/
theorem Weak.frK {M : Seat} {c : Ctx} {A : List V} {H : Hp} {N n : Nat} (m : List Nat) (hck : c.k ≤ 17) {l : List (Nat × V)} {H' : Hp} {N' : Nat} (hlen : A.length = n)
    (hm : (decide m.Nodup && decide (m.length ≤ N') && decide (17 ≤ N') && (List.range 17).all (fun j => m[j]? == some j)) = true) (hA : SimL H m [] A l) (hH : SimH H m [] H') : Weak M c A H N (Mv.fr n l) H' N' := by
  simp only [Bool.and_eq_true, decide_eq_true_eq] at hm
  refine Weak.sim m [] hm.1.1.1 (by simp) hm.1.1.2 (by omega) (fun j hj => ?_) (SimA_of (by rw [fr_length, hlen]) (fun t => ?_)) hH
  · have := List.all_eq_true.1 hm.2 j (List.mem_range.2 (by omega)); simpa using this
  · by_cases ht : t < n
    · exact SimL_get hA t ht
    · have : (Mv.fr n l).getD t .junk = .junk := by rw [List.getD_eq_getElem?_getD, List.getElem?_eq_none (by rw [fr_length]; omega)]; rfl
      rw [this]; trivial
theorem SemK.up {M : Seat} {x : Ctx} {Q : List V → Hp → Nat → Prop} {k : List It} {N N' : Nat} {A : List V} {H : Hp} (hN : N ≤ N') (h : SemK M x Q k N' A H) : SemK M x Q k N A H := by
  rintro a w kr ⟨e, h1, h2, h3, h4, h5, h6⟩ hm
  exact h a w kr ⟨e, h1, h2, h3, fun id hid => h4 id (Nat.le_trans hN hid), Nat.le_trans h5 hN, h6⟩ hm
end Mv
