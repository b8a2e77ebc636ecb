/- A part. -/
import Derived.Test.YtpcgkiecjakknaaGreatDoorAT
set_option linter.all false
namespace Mv
open Go
theorem Inv.sim2 {M : Seat} {c c' : Ctx} {e : Env} {H : Hp} (hI : Inv M c e H) {m z : List Nat} (hm : m.Nodup) (hz : ∀ i ∈ z, i ∉ m) {H' : Hp} (hH : SimH H m z H')
    (hc : (c' = c ∧ ∀ j, j < c.k → m[j]? = some j) ∨ (c' = ⟨e.sim H m z, fun b => ∃ id, hhas H' id = true ∧ (e.sim H m z).ρ id = b, m.length⟩ ∧ ∀ i ∈ m, e.D i)) : Inv M c' (e.sim H m z) H' := by
  have hp := Pull.of hI m z
  have hblk : ∀ j, hhas H' j = true → (e.sim H m z).D j ∧ BlkOK (e.sim H m z) j (hget H' j) ∧ ¬ (e.sim H m z).im ((e.sim H m z).ρ j) ∧ (c.O ((e.sim H m z).ρ j) ∨ c.e0.w.heap.size ≤ (e.sim H m z).ρ j) := by
    intro j hj
    obtain ⟨i, h1, h2, h3⟩ := SimH_get hH j hj
    obtain ⟨k1, k2, k3, k4⟩ := hI.blk i h2
    have hρ : (e.sim H m z).ρ j = e.ρ i := by simp [Env.sim, h1]
    refine ⟨⟨i, h1, k1⟩, BlkOK_sim hp hρ h3 k2, ?_, ?_⟩
    · rw [hρ]
      rintro (h | ⟨i', hf, he⟩)
      · exact k3 h
      · obtain ⟨f1, f2, _⟩ := frz_of hf
        have := hI.inj i i' h2 f2 he
        subst this
        exact hz _ f1 (List.mem_of_getElem? h1)
    · rw [hρ]; exact k4
  have hinj : ∀ i j, hhas H' i = true → hhas H' j = true → (e.sim H m z).ρ i = (e.sim H m z).ρ j → i = j := by
    intro i j hi hj hij
    obtain ⟨i', h1, h2, _⟩ := SimH_get hH i hi
    obtain ⟨j', h3, h4, _⟩ := SimH_get hH j hj
    simp only [Env.sim, h1, h3] at hij
    have := hI.inj i' j' h2 h4 hij
    subst this
    exact getElem?_nodup hm h1 h3
  have himo : ∀ b, (e.sim H m z).im b → c.e0.im b ∨ c.O b ∨ c.e0.w.heap.size ≤ b := by
    rintro b (h | ⟨i, hf, rfl⟩)
    · exact hI.imo b h
    · exact .inr (hI.blk i (frz_of hf).2.1).2.2.2
  have himb : ∀ b, (e.sim H m z).im b → ∃ cells el fz, (e.sim H m z).w.heap[b]? = some (.cells cells el fz) := by
    rintro b (h | ⟨i, hf, rfl⟩)
    · exact hI.imb b h
    · obtain ⟨_, cells, el, h1, _⟩ := hp.fz i hf
      exact ⟨cells, el, _, h1⟩
  have hrb : ∀ id, (e.sim H m z).D id → (e.sim H m z).ρ id < (e.sim H m z).w.heap.size := by
    rintro id ⟨i, h1, h2⟩
    simp only [Env.sim, h1]
    exact hI.rb i h2
  have hgs : GS M (e.sim H m z) := ⟨fun g hg =>
    R_sim hp (show Sim H m z (.imm (GLv g)) (.imm (GLv g)) from GLv_sim H m z g) (hI.gs.1 g hg), fun p hp' => ⟨.inl (hI.gs.2 p hp').1, (hI.gs.2 p hp').2⟩⟩
  rcases hc with ⟨rfl, hlow⟩ | ⟨rfl, hall⟩
  · refine ⟨hI.ev, hblk, hinj, himo, himb, hrb, fun b hb => .inl (hI.keep b hb), fun id hid => ?_, hgs, hI.φ, hI.τ⟩
    obtain ⟨h1, h2⟩ := hI.low id hid
    exact ⟨⟨id, hlow id hid, h1⟩, by simp only [Env.sim, hlow id hid]; exact h2⟩
  · refine ⟨Ev.refl _ _, fun j hj => ⟨(hblk j hj).1, (hblk j hj).2.1, (hblk j hj).2.2.1, .inl ⟨j, hj, rfl⟩⟩, hinj, fun b hb => .inl hb, himb, hrb, fun b hb => hb, fun id hid => ⟨?_, rfl⟩, hgs, hI.φ, hI.τ⟩
    have hid' : id < m.length := hid
    exact ⟨m[id], List.getElem?_eq_getElem hid', hall _ (List.getElem_mem hid')⟩

/-- An argument that names a block. -/
def inArgs (us : List V) (i : Nat) : Bool := us.any fun v => match v with | .ptr j _ => j == i | .map j => j == i | .sl j _ _ _ _ => j == i | _ => false
theorem inArgs_D {e : Env} {us : List V} {vs : Array Value} (h : Args e us vs) {i : Nat} (hi : inArgs us i = true) : e.D i := by
  unfold inArgs at hi
  rw [List.any_eq_true] at hi
  obtain ⟨v, hv, hvi⟩ := hi
  obtain ⟨t, ht, rfl⟩ := List.getElem_of_mem hv
  have := h.2 t
  rw [show us.getD t .junk = us[t] by simp [List.getD, ht]] at this
  generalize us[t] = v at *
  cases v <;> simp only [Bool.false_eq_true, beq_iff_eq] at hvi
  all_goals (subst hvi; simp only [RV, RS, V.isAgg, R] at this; exact this.1)

/-- Does a value name this block? -/
def refsV (i : Nat) : V → Bool
  | .ptr j _ => j == i
  | .map j => j == i
  | .sl j _ _ _ _ => j == i
  | .ifc _ v => refsV i v
  | .st _ fs => refsV i fs
  | .fcons _ v r => refsV i r || refsV i v
  | _ => false
theorem refsV_D {e : Env} {i : Nat} : ∀ {v : V} {cs : List Value}, R e v cs → refsV i v = true → e.D i
  | .ptr j p, cs, h, hi => by simp only [refsV, beq_iff_eq] at hi; subst hi; simp only [R] at h; exact h.1
  | .map j, cs, h, hi => by simp only [refsV, beq_iff_eq] at hi; subst hi; simp only [R] at h; exact h.1
  | .sl j _ _ _ _, cs, h, hi => by simp only [refsV, beq_iff_eq] at hi; subst hi; simp only [R] at h; exact h.1
  | .ifc _ v, cs, h, hi => by
    simp only [R] at h
    obtain ⟨x, _, _, h⟩ := h
    split at h
    · obtain ⟨c, _, h⟩ := h; exact refsV_D h hi
    · exact refsV_D h hi
  | .st _ fs, cs, h, hi => by simp only [R] at h; exact refsV_D h.2.2 hi
  | .fcons _ v r, cs, h, hi => by
    simp only [R] at h
    simp only [refsV, Bool.or_eq_true] at hi
    exact hi.elim (refsV_D h.2.2.2.2) (refsV_D h.2.2.2.1)
  | .junk, _, _, hi | .int .., _, _, hi | .bool _, _, _, hi | .str _, _, _, hi | .nilp, _, _, hi | .imm _, _, _, hi | .nils, _, _, hi | .lst .., _, _, hi | .nilm, _, _, hi | .nilf, _, _, hi | .fn .., _, _, hi | .nili, _, _, hi | .ar .., _, _, hi | .fnil, _, _, hi | .tup _, _, _, hi | .mp .., _, _, hi => by simp [refsV] at hi
/-- Does one of these blocks of the heap name this block? -/
def inHp (l : List Nat) (H : Hp) (i : Nat) : Bool := l.any fun p => hhas H p && (hget H p).solid && refsV i (hget H p)
theorem inHp_D {M : Seat} {c : Ctx} {e : Env} {l : List Nat} {H : Hp} (hI : Inv M c e H) {i : Nat} (hi : inHp l H i = true) : e.D i := by
  unfold inHp at hi
  rw [List.any_eq_true] at hi
  obtain ⟨p, _, hp⟩ := hi
  simp only [Bool.and_eq_true] at hp
  obtain ⟨_, _, _, _, hR⟩ := hI.cells hp.1.1 hp.1.2
  exact refsV_D hR hp.2

/-- A call, by a contract. 'm': the caller's numbers of the blocks that the contract has; 'z': blocks that the callee may look at; they are never written again (L false), or the caller's again (L true). -/
theorem call_runs3 {M : Seat} {f : Nat} {us : List V} {H : Hp} {n : Nat} {K : V → Hp → Prop} {us0 : List V} {H0 : Hp} {k : Nat} {Q : V → Hp → Nat → Prop} (hr : Runs M f us0 H0 k Q) (L : Prop) [Decidable L] (m m0 z : List Nat) (h0 : ∀ id i, hhas H0 id = true → m[id]? = some i → i ∈ m0) (h0m : ∀ i ∈ m0, i ∈ m)
    (hm : m.Nodup) (hz : ∀ i ∈ z, i ∉ m) (hk : m.length = k) (hall0 : ∀ i ∈ m0, hhas H i = true) (hall : ∀ i ∈ m, hhas H i = true ∨ inArgs us i = true ∨ inHp m0 H i = true) (hus : SimA H m z us0 us) (hH : SimH H m z H0)
    (hK : ∀ v H' k', Q v H' k' → (k' ≤ k + 16 ∧ (L → NoIm v ∧ NoImH H')) ∧ K (v.ren (nums m n k')) (renH (nums m n k') H' ++ hrest H (if L then m0 else m0 ++ z))) : CallK M f us H n K := by
  intro c e vs hI hD hcn ⟨hvs, hargs⟩
  subst hk
  have hp := Pull.of hI m z
  have hmD : ∀ i ∈ m, e.D i := fun i hi => (hall i hi).elim (fun h => (hI.blk i h).1) (fun h => h.elim (inArgs_D ⟨hvs, hargs⟩) (inHp_D hI))
  have hI2 : Inv M ⟨e.sim H m z, fun b => ∃ id, hhas H0 id = true ∧ (e.sim H m z).ρ id = b, m.length⟩ (e.sim H m z) H0 := hI.sim2 hm hz hH (.inr ⟨rfl, hmD⟩)
  have hmn : ∀ i ∈ m, i < n := fun i hi => Nat.lt_of_not_le (fun h => hD i h (hmD i hi))
  refine (hr (e.sim H m z) vs hI2 ?_ ⟨hvs.trans (SimA_len hus).symm, fun t => RV_sim hp (SimA_get hus t) (hargs t)⟩).mono ?_
  · rintro id hid ⟨i, h1, _⟩
    have := (List.getElem?_eq_some_iff.1 h1).1
    omega
  rintro en w' ⟨x, v, e2, H', k', rfl, rfl, hI', hv, hD', hkk, hQ⟩
  obtain ⟨⟨hk16, hL⟩, hKK⟩ := hK v H' k' hQ
  -- the callee's env, the caller's
  have hO : ∀ b, (∃ id, hhas H0 id = true ∧ (e.sim H m z).ρ id = b) → ∃ i ∈ m0, e.ρ i = b := by
    rintro b ⟨id, h1, h2⟩
    obtain ⟨i, k1, k2, _⟩ := SimH_get hH id h1
    exact ⟨i, h0 id i h1 k1, by simpa [Env.sim, k1] using h2⟩
  have hsame : ∀ b, b < e.w.heap.size → (∀ i ∈ m0, e.ρ i ≠ b) → e2.w.heap[b]? = e.w.heap[b]? := fun b hb hn =>
    hI'.ev.frame b hb (fun ho => by obtain ⟨i, h1, h2⟩ := hO b ho; exact hn i h1 h2)
  have hsize : e.w.heap.size ≤ e2.w.heap.size := hI'.ev.size
  let e' : Env := { ρ := fun i => if n ≤ i then e2.ρ (m.length + (i - n)) else e.ρ i
                    D := fun i => e.D i ∨ (n ≤ i ∧ e2.D (m.length + (i - n)))
                    im := fun b => if L then e.im b else e2.im b
                    w := e2.w, φ := e2.φ, τ := e2.τ }
  have hφ : e2.φ = e.φ := hI'.φ.trans hI.φ.symm
  have hτ : e2.τ = e.τ := hI'.τ.trans hI.τ.symm
  have him2 : ∀ b, e.im b → e2.im b := fun b hb => hI'.keep b (.inl hb)
  have him' : ∀ b, e.im b → e'.im b := fun b hb => by
    show if L then _ else _
    split
    · exact hb
    · exact him2 b hb
  have him2' : ∀ b, e'.im b → e2.im b := fun b hb => by
    have hb : if L then e.im b else e2.im b := hb
    split at hb
    · exact him2 b hb
    · exact hb
  have hρold : ∀ i, e.D i → e'.ρ i = e.ρ i := fun i hi => by
    show (if n ≤ i then _ else _) = _
    rw [if_neg (fun h => hD i h hi)]
  have hle : e.le e' := by
    refine ⟨fun i hi => ⟨.inl hi, hρold i hi⟩, fun b hb => ⟨him' b hb, fun cc el fz hc => ⟨el, fz, ?_⟩⟩, hI'.ev.bs, hφ, hτ⟩
    show e2.w.heap[b]? = _
    rw [hsame b (hI.imlt b hb) (fun i hi he => (hI.blk i (hall0 i hi)).2.2.1 (he ▸ hb))]
    exact hc
  have hpush : Push L (nums m n k') e2 e' := by
    refine ⟨fun j hj => ?_, fun hnl b hb => ?_, rfl, rfl, rfl⟩
    · have hjk : j < k' := Nat.lt_of_not_le (fun h => hD' j h hj)
      have hg := nums_get (n := n) hkk j hjk
      by_cases hjm : j < m.length
      · rw [dif_pos hjm] at hg
        have hmj := hmD m[j] (List.getElem_mem hjm)
        refine ⟨m[j], hg, .inl hmj, ?_⟩
        rw [hρold _ hmj]
        have := (hI'.low j hjm).2
        rw [this]
        simp [Env.sim, List.getElem?_eq_getElem hjm]
      · rw [dif_neg hjm] at hg
        have e1 : m.length + (n + (j - m.length) - n) = j := by omega
        refine ⟨_, hg, .inr ⟨by omega, by rw [e1]; exact hj⟩, ?_⟩
        show (if _ then _ else _) = _
        rw [if_pos (by omega), e1]
    · show if L then _ else _
      rw [if_neg hnl]; exact hb
  have hnd : (nums m n k').Nodup := nums_nodup hm hmn
  have hnew : ∀ b, (∃ id, hhas H0 id = true ∧ (e.sim H m z).ρ id = b) ∨ (e.sim H m z).w.heap.size ≤ b → c.O b ∨ c.e0.w.heap.size ≤ b := by
    rintro b (h | h)
    · obtain ⟨i, h1, rfl⟩ := hO b h
      exact (hI.blk i (hall0 i h1)).2.2.2
    · have h : e.w.heap.size ≤ b := h
      have := hI.ev.size
      exact .inr (by omega)
  have hold : ∀ id, hhas (hrest H (if L then m0 else m0 ++ z)) id = true → hhas H id = true ∧ id ∉ m0 ∧ (¬ L → id ∉ z) ∧ hget (hrest H (if L then m0 else m0 ++ z)) id = hget H id := by
    intro id hid
    rw [hhas_hrest] at hid
    simp only [Bool.and_eq_true, Bool.not_eq_true', List.contains_eq_mem, decide_eq_false_iff_not] at hid
    refine ⟨hid.1, ?_, ?_, hget_hrest _ _ _ hid.2⟩
    · intro h'; apply hid.2; split
      · exact h'
      · exact List.mem_append_left _ h'
    · intro hnl h'; apply hid.2; rw [if_neg hnl]; exact List.mem_append_right _ h'
  have hrenb : ∀ id, hhas (renH (nums m n k') H') id = true → ∃ j, hhas H' j = true ∧ e'.D id ∧ e'.ρ id = e2.ρ j ∧ (nums m n k')[j]? = some id ∧ hget (renH (nums m n k') H') id = (hget H' j).ren (nums m n k') := by
    intro id hid
    obtain ⟨j, h1, h2, h3⟩ := renH_get hnd hid
    obtain ⟨i, k1, k2, k3⟩ := hpush.D j (hI'.blk j h2).1
    rw [h1] at k1
    simp only [Option.some.injEq] at k1
    subst k1
    exact ⟨j, h2, k2, k3, h1, h3⟩
  refine ⟨x, v.ren (nums m n k'), e', renH (nums m n k') H' ++ hrest H (if L then m0 else m0 ++ z), rfl, rfl, hle, ?_, RV_push hpush (fun hl => (hL hl).1) hv, ?_, hKK⟩
  · have hblk : ∀ id, hhas (renH (nums m n k') H' ++ hrest H (if L then m0 else m0 ++ z)) id = true → (hhas (renH (nums m n k') H') id = true ∧ hget (renH (nums m n k') H' ++ hrest H (if L then m0 else m0 ++ z)) id = hget (renH (nums m n k') H') id) ∨ (hhas (hrest H (if L then m0 else m0 ++ z)) id = true ∧ hget (renH (nums m n k') H' ++ hrest H (if L then m0 else m0 ++ z)) id = hget (hrest H (if L then m0 else m0 ++ z)) id) := by
      intro id hid
      rw [hhas_append] at hid
      cases hr' : hhas (renH (nums m n k') H') id with
      | true => exact .inl ⟨rfl, hget_append_l hr'⟩
      | false => rw [hr', Bool.false_or] at hid; exact .inr ⟨hid, hget_append_r hr'⟩
    have hsep : ∀ i j, hhas H i = true → i ∉ m0 → hhas H' j = true → e.ρ i ≠ e2.ρ j := by
      intro i j hi him hj he
      rcases (hI'.blk j hj).2.2.2 with h | h
      · obtain ⟨i', h1, h2⟩ := hO _ h
        exact him (by rw [hI.inj i i' hi (hall0 i' h1) (he.trans h2.symm)]; exact h1)
      · have h : e.w.heap.size ≤ e2.ρ j := h
        have := hI.rb i (hI.blk i hi).1
        omega
    refine ⟨?_, ?_, ?_, ?_, ?_, ?_, fun b hb => him' b (hI.keep b hb), ?_, hI.gs.mono hle, hI'.φ, hI'.τ⟩
    · exact hI.ev.trans hI'.ev (fun b hb => by
        obtain ⟨i, h1, rfl⟩ := hO b hb
        rcases (hI.blk i (hall0 i h1)).2.2.2 with h | h
        · exact .inl h
        · exact .inr h)
    · intro id hid
      rcases hblk id hid with ⟨h1, h2⟩ | ⟨h1, h2⟩
      · obtain ⟨j, k1, k2, k3, k4, k5⟩ := hrenb id h1
        obtain ⟨q1, q2, q3, q4⟩ := hI'.blk j k1
        rw [h2, k5, k3]
        exact ⟨k2, BlkOK_push hpush k3 (fun hl => (hL hl).2 j k1) q2, fun h => q3 (him2' _ h), hnew _ q4⟩
      · obtain ⟨k1, k2, k3, k4⟩ := hold id h1
        obtain ⟨q1, q2, q3, q4⟩ := hI.blk id k1
        have hne : ∀ i ∈ m0, e.ρ i ≠ e.ρ id := fun i hi he => k2 (by rw [← hI.inj i id (hall0 i hi) k1 he]; exact hi)
        rw [h2, k4, hρold id q1]
        refine ⟨.inl q1, BlkOK_mono hle q1 (hsame _ (hI.rb id q1) hne) q2, ?_, q4⟩
        intro h
        have h : if L then e.im (e.ρ id) else e2.im (e.ρ id) := h
        split at h
        · exact q3 h
        · rename_i hnl
          rcases hI'.imo _ h with h | h | h
          · rcases h with h | ⟨i, hf, he⟩
            · exact q3 h
            · obtain ⟨f1, f2, _⟩ := frz_of hf
              rw [hI.inj id i k1 f2 he] at k3
              exact k3 hnl f1
          · obtain ⟨i, h1, h2⟩ := hO _ h
            exact hne i h1 h2
          · have h : e.w.heap.size ≤ e.ρ id := h
            have := hI.rb id q1
            omega
    · intro i j hi hj hij
      rcases hblk i hi with ⟨h1, _⟩ | ⟨h1, _⟩ <;> rcases hblk j hj with ⟨h2, _⟩ | ⟨h2, _⟩
      · obtain ⟨a, a1, _, a3, a4, _⟩ := hrenb i h1
        obtain ⟨b, b1, _, b3, b4, _⟩ := hrenb j h2
        rw [a3, b3] at hij
        have := hI'.inj a b a1 b1 hij
        subst this
        rw [a4] at b4
        simpa using b4
      · obtain ⟨a, a1, _, a3, _⟩ := hrenb i h1
        obtain ⟨b1, b2, _⟩ := hold j h2
        rw [a3, hρold j (hI.blk j b1).1] at hij
        exact absurd hij.symm (hsep j a b1 b2 a1)
      · obtain ⟨a, a1, _, a3, _⟩ := hrenb j h2
        obtain ⟨b1, b2, _⟩ := hold i h1
        rw [a3, hρold i (hI.blk i b1).1] at hij
        exact absurd hij (hsep i a b1 b2 a1)
      · obtain ⟨b1, _⟩ := hold i h1
        obtain ⟨b2, _⟩ := hold j h2
        rw [hρold i (hI.blk i b1).1, hρold j (hI.blk j b2).1] at hij
        exact hI.inj i j b1 b2 hij
    · intro b hb
      have hb : if L then e.im b else e2.im b := hb
      split at hb
      · exact hI.imo b hb
      · rcases hI'.imo b hb with h | h | h
        · rcases h with h | ⟨i, hf, rfl⟩
          · exact hI.imo b h
          · exact .inr (hI.blk i (frz_of hf).2.1).2.2.2
        · exact .inr (hnew b (.inl h))
        · exact .inr (hnew b (.inr h))
    · intro b hb
      exact hI'.imb b (him2' b hb)
    · intro id hid
      rcases hid with hid | ⟨h1, h2⟩
      · rw [hρold id hid]
        have := hI.rb id hid
        show e.ρ id < e2.w.heap.size
        omega
      · show (if n ≤ id then _ else _) < _
        rw [if_pos h1]
        exact hI'.rb _ h2
    · intro id hid
      obtain ⟨h1, h2⟩ := hI.low id hid
      exact ⟨.inl h1, (hρold id h1).trans h2⟩
  · rintro id (h | ⟨h1, h2⟩)
    · exact .inl h
    · refine .inr ⟨h1, ?_⟩
      have := Nat.lt_of_not_le (fun h => hD' _ h h2)
      omega
theorem call_runs2 {M : Seat} {f : Nat} {us : List V} {H : Hp} {n : Nat} {K : V → Hp → Prop} {us0 : List V} {H0 : Hp} {k : Nat} {Q : V → Hp → Nat → Prop} (hr : Runs M f us0 H0 k Q) (L : Prop) [Decidable L] (m m0 z : List Nat) (h0 : ∀ id i, hhas H0 id = true → m[id]? = some i → i ∈ m0) (h0m : ∀ i ∈ m0, i ∈ m)
    (hm : m.Nodup) (hz : ∀ i ∈ z, i ∉ m) (hk : m.length = k) (hall0 : ∀ i ∈ m0, hhas H i = true) (hall : ∀ i ∈ m, hhas H i = true ∨ inArgs us i = true) (hus : SimA H m z us0 us) (hH : SimH H m z H0)
    (hK : ∀ v H' k', Q v H' k' → (k' ≤ k + 16 ∧ (L → NoIm v ∧ NoImH H')) ∧ K (v.ren (nums m n k')) (renH (nums m n k') H' ++ hrest H (if L then m0 else m0 ++ z))) : CallK M f us H n K :=
  call_runs3 hr L m m0 z h0 h0m hm hz hk hall0 (fun i hi => (hall i hi).imp_right .inl) hus hH hK

def ids : Hp → List Nat
  | [] => []
  | (i, _) :: r => i :: ids r
def idsx : Hp → List Nat → List Nat
  | [], _ => []
  | (i, _) :: r, m => if m.contains i then idsx r m else i :: idsx r m
theorem idsx_not (m : List Nat) : ∀ (H : Hp), ∀ i ∈ idsx H m, i ∉ m
  | [], _, h => by cases h
  | (j, _) :: r, i, h => by
    simp only [idsx] at h
    split at h
    · exact idsx_not m r i h
    · rename_i hj
      rcases List.mem_cons.1 h with rfl | h
      · intro hm; exact hj (by simpa [List.contains_iff_mem] using hm)
      · exact idsx_not m r i h
theorem ids_has (j : Nat) : ∀ H : Hp, (ids H).contains j = hhas H j
  | [] => rfl
  | (i, _) :: r => by
    simp only [ids, hhas, List.contains_cons, ids_has j r]
    rw [Bool.beq_comm]
/-- All blocks lent. -/
theorem frzA (H : Hp) (i : Nat) : frz H (ids H) i = (hhas H i && (hget H i).solid) := by
  simp only [frz, ids_has, Bool.and_self]
theorem idsx_has (m : List Nat) (j : Nat) : ∀ H : Hp, (idsx H m).contains j = (hhas H j && !m.contains j)
  | [] => by simp [idsx, hhas]
  | (i, _) :: r => by
    simp only [idsx]
    by_cases h : m.contains i = true
    · rw [if_pos h, idsx_has m j r]
      simp only [hhas]
      by_cases hij : i = j
      · subst hij; rw [h]; simp
      · have : (i == j) = false := by simpa using hij
        rw [this, Bool.false_or]
    · rw [if_neg h]
      simp only [List.contains_cons, idsx_has m j r, hhas]
      by_cases hij : i = j
      · subst hij
        rw [show m.contains i = false by simpa using h]; simp
      · have h1 : (i == j) = false := by simpa using hij
        have h2 : (j == i) = false := by simp; exact fun h => hij h.symm
        rw [h1, h2]; simp
theorem frzX (H : Hp) (m : List Nat) (i : Nat) : frz H (idsx H m) i = ((hhas H i && !m.contains i) && (hget H i).solid) := by
  simp only [frz, idsx_has]
  cases hhas H i <;> simp

def numsF : List Nat → Nat → Nat → List Nat
  | [], _, 0 => []
  | [], n, k + 1 => n :: numsF [] (n + 1) k
  | _ :: _, _, 0 => []
  | a :: m, n, k + 1 => a :: numsF m n k
theorem nums_nil : ∀ (k n : Nat), (List.range k).map (fun i => n + i) = numsF [] n k
  | 0, _ => rfl
  | k + 1, n => by
    rw [List.range_succ_eq_map, List.map_cons, List.map_map, numsF, ← nums_nil k (n + 1)]
    simp only [Nat.add_zero, List.cons.injEq, true_and]
    apply List.map_congr_left
    intro i _
    simp only [Function.comp]; omega
theorem nums_F : ∀ (m : List Nat) (n k : Nat), m.length ≤ k → nums m n k = numsF m n k
  | [], n, k, _ => by simp only [nums, List.length_nil, Nat.sub_zero, List.nil_append]; exact nums_nil k n
  | a :: m, n, 0, h => by simp at h
  | a :: m, n, k + 1, h => by
    rw [numsF, ← nums_F m n k (by simpa using h)]
    simp only [nums, List.length_cons, List.cons_append, Nat.add_sub_add_right]

def NoImL : Hp → Prop
  | [] => True
  | (_, v) :: r => NoIm v ∧ NoImL r
theorem NoImL.H : ∀ {H : Hp}, NoImL H → NoImH H
  | [], _, id, h => by simp [hhas] at h
  | (i, v) :: r, hn, id, h => by
    simp only [NoImL] at hn
    simp only [hget]
    split
    · exact hn.1
    · rename_i hi
      exact NoImL.H hn.2 id (by simpa [hhas, hi] using h)

theorem call_pA {M : Seat} {f : Nat} {us us0 : List V} {H : Hp} {n : Nat} {K : V → Hp → Prop} {v : V} (hr : Runs M f us0 [] 0 (fun r H' k' => r = v ∧ H' = [] ∧ k' = 0)) (hus : SimA H [] (ids H) us0 us) (hv : v.ren (nums [] n 0) = v) (hn : NoIm v) (hK : K v H) : CallK M f us H n K :=
  call_pureL (ids H) hr hus hv hn hK

/-- A call by a contract with an outcome; m: the blocks that are handed over. -/
theorem call_mA {M : Seat} {f : Nat} {us us0 : List V} {H H0 Hn : Hp} {n k kn : Nat} {K : V → Hp → Prop} {v : V} (m : List Nat) (hr : Runs M f us0 H0 k (fun r H' k' => r = v ∧ H' = Hn ∧ k' = kn))
    (hm : (decide m.Nodup && decide (m.length = k) && decide (k ≤ kn) && decide (kn ≤ k + 16)) = true) (hall : (m.all fun i => hhas H i) = true) (hus : SimA H m (idsx H m) us0 us) (hH : SimH H m (idsx H m) H0) (hv : NoIm v) (hn : NoImL Hn)
    (hK : K (v.ren (numsF m n kn)) (renH (numsF m n kn) Hn ++ hrest H m)) : CallK M f us H n K := by
  simp only [Bool.and_eq_true, decide_eq_true_eq] at hm
  obtain ⟨⟨⟨h1, h2⟩, h3⟩, h4⟩ := hm
  refine call_runs hr True m (idsx H m) h1 (idsx_not m H) h2 (by simpa using hall) hus hH ?_
  rintro v' H' k' ⟨rfl, rfl, rfl⟩
  refine ⟨⟨h4, fun _ => ⟨hv, hn.H⟩⟩, ?_⟩
  rw [nums_F m n k' (by omega), if_pos trivial]
  exact hK
theorem call_fA {M : Seat} {f : Nat} {us us0 : List V} {H Hn : Hp} {n kn : Nat} {K : V → Hp → Prop} {v : V} (hr : Runs M f us0 [] 0 (fun r H' k' => r = v ∧ H' = Hn ∧ k' = kn))
    (hk : decide (kn ≤ 16) = true) (hus : SimA H [] (ids H) us0 us) (hv : NoIm v) (hn : NoImL Hn)
    (hK : K (v.ren (numsF [] n kn)) (renH (numsF [] n kn) Hn ++ H)) : CallK M f us H n K := by
  refine call_runs hr True [] (ids H) List.nodup_nil (by simp) rfl (by simp) hus trivial ?_
  rintro v' H' k' ⟨rfl, rfl, rfl⟩
  refine ⟨⟨by have := of_decide_eq_true hk; omega, fun _ => ⟨hv, hn.H⟩⟩, ?_⟩
  rw [nums_F [] n k' (by simp), if_pos trivial]
  exact hK

/-- The same; m0: those of m that the contract has as blocks; the others are only known of. -/
theorem call_mB {M : Seat} {f : Nat} {us us0 : List V} {H H0 Hn : Hp} {n k kn : Nat} {K : V → Hp → Prop} {v : V} (m m0 : List Nat) (hr : Runs M f us0 H0 k (fun r H' k' => r = v ∧ H' = Hn ∧ k' = kn))
    (h0 : ((ids H0).all fun id => match m[id]? with | some i => m0.contains i | none => true) = true) (h0m : (m0.all fun i => m.contains i) = true)
    (hm : (decide m.Nodup && decide (m.length = k) && decide (k ≤ kn) && decide (kn ≤ k + 16)) = true) (hall : (m.all fun i => hhas H i || inArgs us i) = true) (hall0 : (m0.all fun i => hhas H i) = true) (hus : SimA H m (idsx H m) us0 us) (hH : SimH H m (idsx H m) H0) (hv : NoIm v) (hn : NoImL Hn)
    (hK : K (v.ren (numsF m n kn)) (renH (numsF m n kn) Hn ++ hrest H m0)) : CallK M f us H n K := by
  simp only [Bool.and_eq_true, decide_eq_true_eq] at hm
  obtain ⟨⟨⟨h1, h2⟩, h3⟩, h4⟩ := hm
  refine call_runs2 hr True m m0 (idsx H m) (fun id i hid hi => ?_) (fun i hi => ?_) h1 (idsx_not m H) h2 (by simpa using hall0) (by simpa using hall) hus hH ?_
  · rw [List.all_eq_true] at h0
    have hmem : id ∈ ids H0 := by
      have := ids_has id H0
      rw [hid] at this
      simpa [List.contains_iff_mem] using this
    have := h0 id hmem
    rw [hi] at this
    simpa using this
  · rw [List.all_eq_true] at h0m
    simpa using h0m i hi
  · rintro v' H' k' ⟨rfl, rfl, rfl⟩
    refine ⟨⟨h4, fun _ => ⟨hv, hn.H⟩⟩, ?_⟩
    rw [nums_F m n k' (by omega), if_pos trivial]
    exact hK

/-- The same, no block lent: what comes back may hold what is never written. -/
theorem call_mN {M : Seat} {f : Nat} {us us0 : List V} {H H0 Hn : Hp} {n k kn : Nat} {K : V → Hp → Prop} {v : V} (m m0 : List Nat) (hr : Runs M f us0 H0 k (fun r H' k' => r = v ∧ H' = Hn ∧ k' = kn))
    (h0 : ((ids H0).all fun id => match m[id]? with | some i => m0.contains i | none => true) = true) (h0m : (m0.all fun i => m.contains i) = true)
    (hm : (decide m.Nodup && decide (m.length = k) && decide (k ≤ kn) && decide (kn ≤ k + 16)) = true) (hall : (m.all fun i => hhas H i || (inHp m0 H i || inArgs us i)) = true) (hall0 : (m0.all fun i => hhas H i) = true) (hus : SimA H m [] us0 us) (hH : SimH H m [] H0)
    (hK : K (v.ren (numsF m n kn)) (renH (numsF m n kn) Hn ++ hrest H m0)) : CallK M f us H n K := by
  simp only [Bool.and_eq_true, decide_eq_true_eq] at hm
  obtain ⟨⟨⟨h1, h2⟩, h3⟩, h4⟩ := hm
  refine call_runs3 hr False m m0 [] (fun id i hid hi => ?_) (fun i hi => ?_) h1 (by simp) h2 (by simpa using hall0) (fun i hi => by
    have := List.all_eq_true.1 hall i hi
    simp only [Bool.or_eq_true] at this
    exact this.elim .inl (fun h => .inr h.symm)) hus hH ?_
  · rw [List.all_eq_true] at h0
    have hmem : id ∈ ids H0 := by
      have := ids_has id H0
      rw [hid] at this
      simpa [List.contains_iff_mem] using this
    have := h0 id hmem
    rw [hi] at this
    simpa using this
  · rw [List.all_eq_true] at h0m
    simpa using h0m i hi
  · rintro v' H' k' ⟨rfl, rfl, rfl⟩
    refine ⟨⟨h4, fun h => h.elim⟩, ?_⟩
    rw [nums_F m n k' (by omega), if_neg id, List.append_nil]
    exact hK

theorem opd_pA {M : Seat} {f : Nat} {us us0 : List V} {H : Hp} {n : Nat} {C : V → Hp → Prop} {v : V} (hr : Runs M f us0 [] 0 (fun r H' k' => r = v ∧ H' = [] ∧ k' = 0)) (hus : SimA H [] (ids H) us0 us) (hv : v.ren (nums [] n 0) = v) (hn : NoIm v) (hC : C v H) : OpDC M f us H n C :=
  ⟨v, H, call_pA hr hus hv hn ⟨rfl, rfl⟩, hC⟩
theorem opd_mN {M : Seat} {f : Nat} {us us0 : List V} {H H0 Hn : Hp} {n k kn : Nat} {C : V → Hp → Prop} {v : V} (m m0 : List Nat) (hr : Runs M f us0 H0 k (fun r H' k' => r = v ∧ H' = Hn ∧ k' = kn))
    (h0 : ((ids H0).all fun id => match m[id]? with | some i => m0.contains i | none => true) = true) (h0m : (m0.all fun i => m.contains i) = true)
    (hm : (decide m.Nodup && decide (m.length = k) && decide (k ≤ kn) && decide (kn ≤ k + 16)) = true) (hall : (m.all fun i => hhas H i || (inHp m0 H i || inArgs us i)) = true) (hall0 : (m0.all fun i => hhas H i) = true) (hus : SimA H m [] us0 us) (hH : SimH H m [] H0)
    (hC : C (v.ren (numsF m n kn)) (renH (numsF m n kn) Hn ++ hrest H m0)) : OpDC M f us H n C :=
  ⟨_, _, call_mN m m0 hr h0 h0m hm hall hall0 hus hH ⟨rfl, rfl⟩, hC⟩
/-- One result of several. -/
def tpc (v : V) (i : Nat) (r : V) : V := match v with | .junk => r | v => .fcons i v r
def tpp (v : V) : Prop := match v with | .junk => True | v => v.solid = true
theorem tupVc (A : List V) (H : Hp) (r : RVr) (rs : List RVr) (i : Nat) : tupV A H (r :: rs) i = tpc (resV A H r) i (tupV A H rs (i + 1)) := by
  simp only [tupV, tpc]; split <;> simp_all
theorem tupVn (A : List V) (H : Hp) (i : Nat) : tupV A H [] i = .fnil := rfl
theorem tupPc (A : List V) (H : Hp) (r : RVr) (rs : List RVr) : tupP A H (r :: rs) = (tpp (resV A H r) ∧ tupP A H rs) := by
  simp only [tupP, tpp]; split <;> simp_all
theorem tupPn (A : List V) (H : Hp) : tupP A H [] = True := rfl
theorem tpc_int (k : IntKind) (n : Int) (ix : Nat) (r : V) : tpc (.int k n) ix r = .fcons ix (.int k n) r := rfl
theorem tpp_int (k : IntKind) (n : Int) : tpp (.int k n) = True := by simp [tpp, V.solid]
theorem tpc_bool (b : Bool) (ix : Nat) (r : V) : tpc (.bool b) ix r = .fcons ix (.bool b) r := rfl
theorem tpp_bool (b : Bool) : tpp (.bool b) = True := by simp [tpp, V.solid]
theorem tpc_str (s : ByteArray) (ix : Nat) (r : V) : tpc (.str s) ix r = .fcons ix (.str s) r := rfl
theorem tpp_str (s : ByteArray) : tpp (.str s) = True := by simp [tpp, V.solid]
theorem tpc_nilp  (ix : Nat) (r : V) : tpc (.nilp) ix r = .fcons ix (.nilp) r := rfl
theorem tpp_nilp  : tpp (.nilp) = True := by simp [tpp, V.solid]
theorem tpc_ptr (i : Nat) (p : List Stp) (ix : Nat) (r : V) : tpc (.ptr i p) ix r = .fcons ix (.ptr i p) r := rfl
theorem tpp_ptr (i : Nat) (p : List Stp) : tpp (.ptr i p) = True := by simp [tpp, V.solid]
theorem tpc_nils  (ix : Nat) (r : V) : tpc (.nils) ix r = .fcons ix (.nils) r := rfl
theorem tpp_nils  : tpp (.nils) = True := by simp [tpp, V.solid]
theorem tpc_sl (i : Nat) (p : List Stp) (o n sz : Nat) (ix : Nat) (r : V) : tpc (.sl i p o n sz) ix r = .fcons ix (.sl i p o n sz) r := rfl
theorem tpp_sl (i : Nat) (p : List Stp) (o n sz : Nat) : tpp (.sl i p o n sz) = True := by simp [tpp, V.solid]
theorem tpc_lst (sz n : Nat) (f : Nat → V) (ix : Nat) (r : V) : tpc (.lst sz n f) ix r = .fcons ix (.lst sz n f) r := rfl
theorem tpp_lst (sz n : Nat) (f : Nat → V) : tpp (.lst sz n f) = True := by simp [tpp, V.solid]
theorem tpc_nili  (ix : Nat) (r : V) : tpc (.nili) ix r = .fcons ix (.nili) r := rfl
theorem tpp_nili  : tpp (.nili) = True := by simp [tpp, V.solid]
theorem tpc_ifc (t : Nat) (v : V) (ix : Nat) (r : V) : tpc (.ifc t v) ix r = .fcons ix (.ifc t v) r := rfl
theorem tpp_ifc (t : Nat) (v : V) : tpp (.ifc t v) = True := by simp [tpp, V.solid]
theorem tpc_st (n : Nat) (v : V) (ix : Nat) (r : V) : tpc (.st n v) ix r = .fcons ix (.st n v) r := rfl
theorem tpp_st (n : Nat) (v : V) : tpp (.st n v) = True := by simp [tpp, V.solid]
theorem tpc_ar (sz n : Nat) (f : Nat → V) (ix : Nat) (r : V) : tpc (.ar sz n f) ix r = .fcons ix (.ar sz n f) r := rfl
theorem tpp_ar (sz n : Nat) (f : Nat → V) : tpp (.ar sz n f) = True := by simp [tpp, V.solid]
theorem tpc_imm (v : V) (ix : Nat) (r : V) : tpc (.imm v) ix r = .fcons ix (.imm v) r := rfl
theorem tpp_imm (v : V) : tpp (.imm v) = True := by simp [tpp, V.solid]
theorem tpc_map (i : Nat) (ix : Nat) (r : V) : tpc (.map i) ix r = .fcons ix (.map i) r := rfl
theorem tpp_map (i : Nat) : tpp (.map i) = True := by simp [tpp, V.solid]
theorem tpc_nilm  (ix : Nat) (r : V) : tpc (.nilm) ix r = .fcons ix (.nilm) r := rfl
theorem tpp_nilm  : tpp (.nilm) = True := by simp [tpp, V.solid]
theorem tpc_fn (f : Nat) (c : V) (ix : Nat) (r : V) : tpc (.fn f c) ix r = .fcons ix (.fn f c) r := rfl
theorem tpp_fn (f : Nat) (c : V) : tpp (.fn f c) = True := by simp [tpp, V.solid]
theorem tpc_nilf  (ix : Nat) (r : V) : tpc (.nilf) ix r = .fcons ix (.nilf) r := rfl
theorem tpp_nilf  : tpp (.nilf) = True := by simp [tpp, V.solid]
theorem tpc_W (w : BitVec 64) (ix : Nat) (r : V) : tpc (W w) ix r = .fcons ix (W w) r := rfl
theorem tpp_W (w : BitVec 64) : tpp (W w) = True := by simp [tpp, V.solid, W]
theorem tpc_B (w : BitVec 8) (ix : Nat) (r : V) : tpc (B w) ix r = .fcons ix (B w) r := rfl
theorem tpp_B (w : BitVec 8) : tpp (B w) = True := by simp [tpp, V.solid, B]
theorem tpc_dg (d : Dg) (ix : Nat) (r : V) : tpc (dg d) ix r = .fcons ix (dg d) r := rfl
theorem tpp_dg (d : Dg) : tpp (dg d) = True := by simp [tpp, V.solid, dg]
def LTP := (And.intro (And.intro (And.intro (And.intro (And.intro @tupVc @tupVn) (And.intro @tupPc (And.intro @tupPn @tpc_int))) (And.intro (And.intro @tpp_int (And.intro @tpc_bool @tpp_bool)) (And.intro @tpc_str (And.intro @tpp_str @tpc_nilp)))) (And.intro (And.intro (And.intro @tpp_nilp @tpc_ptr) (And.intro @tpp_ptr (And.intro @tpc_nils @tpp_nils))) (And.intro (And.intro @tpc_sl (And.intro @tpp_sl @tpc_lst)) (And.intro @tpp_lst (And.intro @tpc_nili @tpp_nili))))) (And.intro (And.intro (And.intro (And.intro @tpc_ifc @tpp_ifc) (And.intro @tpc_st (And.intro @tpp_st @tpc_ar))) (And.intro (And.intro @tpp_ar (And.intro @tpc_imm @tpp_imm)) (And.intro @tpc_map (And.intro @tpp_map @tpc_nilm)))) (And.intro (And.intro (And.intro @tpp_nilm @tpc_fn) (And.intro @tpp_fn (And.intro @tpc_nilf @tpp_nilf))) (And.intro (And.intro @tpc_W (And.intro @tpp_W @tpc_B)) (And.intro @tpp_B (And.intro @tpc_dg @tpp_dg))))))
theorem NoIm_W (w : BitVec 64) : NoIm (W w) = True := rfl
theorem NoIm_B (w : BitVec 8) : NoIm (B w) = True := rfl
theorem NoIm_dg' (d : Dg) : NoIm (dg d) = True := eq_true (by simp only [NoIm, dg, B, implies_true])
end Mv
