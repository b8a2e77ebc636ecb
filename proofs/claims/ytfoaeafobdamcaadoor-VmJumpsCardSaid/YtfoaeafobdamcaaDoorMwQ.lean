/- A call by a contract: blocks that it knows of, but does not touch, stay. -/
import Derived.Test.YtfoaeafobdamcaaDoorQ
set_option linter.unusedSimpArgs false
set_option linter.unusedVariables false
namespace Mv
open Go
theorem Inv.sim2 {M : Seat} {c c' : Ctx} {e : Env} {H : Hp} (hI : Inv M c e H) {m z : List Nat} (hm : m.Nodup) (hz : ∀ i ∈ z, i ∉ m) {H' : Hp} (hH : SimH H m z H')
    (hc : (c' = c ∧ ∀ j, j < c.k → m[j]? = some j) ∨ (c' = ⟨e.sim H m z, fun b => ∃ id, hhas H' id = true ∧ (e.sim H m z).ρ id = b, m.length⟩ ∧ ∀ i ∈ m, e.D i)) : Inv M c' (e.sim H m z) H' := by
  have hp := Pull.of hI m z
  have hblk : ∀ j, hhas H' j = true → (e.sim H m z).D j ∧ BlkOK (e.sim H m z) j (hget H' j) ∧ ¬ (e.sim H m z).im ((e.sim H m z).ρ j) ∧ (c.O ((e.sim H m z).ρ j) ∨ c.e0.w.heap.size ≤ (e.sim H m z).ρ j) := by
    intro j hj
    obtain ⟨i, h1, h2, h3⟩ := SimH_get hH j hj
    obtain ⟨k1, k2, k3, k4⟩ := hI.blk i h2
    have hρ : (e.sim H m z).ρ j = e.ρ i := by simp [Env.sim, h1]
    refine ⟨⟨i, h1, k1⟩, BlkOK_sim hp hρ h3 k2, ?_, ?_⟩
    · rw [hρ]
      rintro (h | ⟨i', hf, he⟩)
      · exact k3 h
      · obtain ⟨f1, f2, _⟩ := frz_of hf
        have := hI.inj i i' h2 f2 he
        subst this
        exact hz _ f1 (List.mem_of_getElem? h1)
    · rw [hρ]; exact k4
  have hinj : ∀ i j, hhas H' i = true → hhas H' j = true → (e.sim H m z).ρ i = (e.sim H m z).ρ j → i = j := by
    intro i j hi hj hij
    obtain ⟨i', h1, h2, _⟩ := SimH_get hH i hi
    obtain ⟨j', h3, h4, _⟩ := SimH_get hH j hj
    simp only [Env.sim, h1, h3] at hij
    have := hI.inj i' j' h2 h4 hij
    subst this
    exact getElem?_nodup hm h1 h3
  have himo : ∀ b, (e.sim H m z).im b → c.e0.im b ∨ c.O b ∨ c.e0.w.heap.size ≤ b := by
    rintro b (h | ⟨i, hf, rfl⟩)
    · exact hI.imo b h
    · exact .inr (hI.blk i (frz_of hf).2.1).2.2.2
  have himb : ∀ b, (e.sim H m z).im b → ∃ cells el fz, (e.sim H m z).w.heap[b]? = some (.cells cells el fz) := by
    rintro b (h | ⟨i, hf, rfl⟩)
    · exact hI.imb b h
    · obtain ⟨_, cells, el, h1, _⟩ := hp.fz i hf
      exact ⟨cells, el, _, h1⟩
  have hrb : ∀ id, (e.sim H m z).D id → (e.sim H m z).ρ id < (e.sim H m z).w.heap.size := by
    rintro id ⟨i, h1, h2⟩
    simp only [Env.sim, h1]
    exact hI.rb i h2
  have hgs : ∀ g, g ∈ M.gl → R (e.sim H m z) (.imm (GLv g)) [.pointer (some ⟨M.γ g, 0, none⟩)] := fun g hg =>
    R_sim hp (show Sim H m z (.imm (GLv g)) (.imm (GLv g)) from GLv_sim H m z g) (hI.gs g hg)
  rcases hc with ⟨rfl, hlow⟩ | ⟨rfl, hall⟩
  · refine ⟨hI.ev, hblk, hinj, himo, himb, hrb, fun b hb => .inl (hI.keep b hb), fun id hid => ?_, hgs, hI.φ, hI.τ⟩
    obtain ⟨h1, h2⟩ := hI.low id hid
    exact ⟨⟨id, hlow id hid, h1⟩, by simp only [Env.sim, hlow id hid]; exact h2⟩
  · refine ⟨Ev.refl _ _, fun j hj => ⟨(hblk j hj).1, (hblk j hj).2.1, (hblk j hj).2.2.1, .inl ⟨j, hj, rfl⟩⟩, hinj, fun b hb => .inl hb, himb, hrb, fun b hb => hb, fun id hid => ⟨?_, rfl⟩, hgs, hI.φ, hI.τ⟩
    have hid' : id < m.length := hid
    exact ⟨m[id], List.getElem?_eq_getElem hid', hall _ (List.getElem_mem hid')⟩


/-- An argument that names a block. -/
def inArgs (us : List V) (i : Nat) : Bool := us.any fun v => match v with | .ptr j _ => j == i | .map j => j == i | .sl j _ _ _ _ => j == i | _ => false
theorem inArgs_D {e : Env} {us : List V} {vs : Array Value} (h : Args e us vs) {i : Nat} (hi : inArgs us i = true) : e.D i := by
  unfold inArgs at hi
  rw [List.any_eq_true] at hi
  obtain ⟨v, hv, hvi⟩ := hi
  obtain ⟨t, ht, rfl⟩ := List.getElem_of_mem hv
  have := h.2 t
  rw [show us.getD t .junk = us[t] by simp [List.getD, ht]] at this
  generalize us[t] = v at *
  cases v <;> simp only [Bool.false_eq_true, beq_iff_eq] at hvi
  all_goals (subst hvi; simp only [RV, RS, V.isAgg, R] at this; exact this.1)

/-- A call, by a contract. 'm': the caller's numbers of the blocks that the contract has; 'z': blocks that the callee may look at; they are never written again (L false), or the caller's again (L true). -/
theorem call_runs2 {M : Seat} {f : Nat} {us : List V} {H : Hp} {n : Nat} {K : V → Hp → Prop} {us0 : List V} {H0 : Hp} {k : Nat} {Q : V → Hp → Nat → Prop} (hr : Runs M f us0 H0 k Q) (L : Prop) [Decidable L] (m m0 z : List Nat) (h0 : ∀ id i, hhas H0 id = true → m[id]? = some i → i ∈ m0) (h0m : ∀ i ∈ m0, i ∈ m)
    (hm : m.Nodup) (hz : ∀ i ∈ z, i ∉ m) (hk : m.length = k) (hall0 : ∀ i ∈ m0, hhas H i = true) (hall : ∀ i ∈ m, hhas H i = true ∨ inArgs us i = true) (hus : SimA H m z us0 us) (hH : SimH H m z H0)
    (hK : ∀ v H' k', Q v H' k' → (k' ≤ k + 16 ∧ (L → NoIm v ∧ NoImH H')) ∧ K (v.ren (nums m n k')) (renH (nums m n k') H' ++ hrest H (if L then m0 else m0 ++ z))) : CallK M f us H n K := by
  intro c e vs hI hD hcn ⟨hvs, hargs⟩
  subst hk
  have hp := Pull.of hI m z
  have hmD : ∀ i ∈ m, e.D i := fun i hi => (hall i hi).elim (fun h => (hI.blk i h).1) (inArgs_D ⟨hvs, hargs⟩)
  have hI2 : Inv M ⟨e.sim H m z, fun b => ∃ id, hhas H0 id = true ∧ (e.sim H m z).ρ id = b, m.length⟩ (e.sim H m z) H0 := hI.sim2 hm hz hH (.inr ⟨rfl, hmD⟩)
  have hmn : ∀ i ∈ m, i < n := fun i hi => Nat.lt_of_not_le (fun h => hD i h (hmD i hi))
  refine (hr (e.sim H m z) vs hI2 ?_ ⟨hvs.trans (SimA_len hus).symm, fun t => RV_sim hp (SimA_get hus t) (hargs t)⟩).mono ?_
  · rintro id hid ⟨i, h1, _⟩
    have := (List.getElem?_eq_some_iff.1 h1).1
    omega
  rintro en w' ⟨x, v, e2, H', k', rfl, rfl, hI', hv, hD', hkk, hQ⟩
  obtain ⟨⟨hk16, hL⟩, hKK⟩ := hK v H' k' hQ
  -- the callee's env, the caller's
  have hO : ∀ b, (∃ id, hhas H0 id = true ∧ (e.sim H m z).ρ id = b) → ∃ i ∈ m0, e.ρ i = b := by
    rintro b ⟨id, h1, h2⟩
    obtain ⟨i, k1, k2, _⟩ := SimH_get hH id h1
    exact ⟨i, h0 id i h1 k1, by simpa [Env.sim, k1] using h2⟩
  have hsame : ∀ b, b < e.w.heap.size → (∀ i ∈ m0, e.ρ i ≠ b) → e2.w.heap[b]? = e.w.heap[b]? := fun b hb hn =>
    hI'.ev.frame b hb (fun ho => by obtain ⟨i, h1, h2⟩ := hO b ho; exact hn i h1 h2)
  have hsize : e.w.heap.size ≤ e2.w.heap.size := hI'.ev.size
  let e' : Env := { ρ := fun i => if n ≤ i then e2.ρ (m.length + (i - n)) else e.ρ i
                    D := fun i => e.D i ∨ (n ≤ i ∧ e2.D (m.length + (i - n)))
                    im := fun b => if L then e.im b else e2.im b
                    w := e2.w, φ := e2.φ, τ := e2.τ }
  have hφ : e2.φ = e.φ := hI'.φ.trans hI.φ.symm
  have hτ : e2.τ = e.τ := hI'.τ.trans hI.τ.symm
  have him2 : ∀ b, e.im b → e2.im b := fun b hb => hI'.keep b (.inl hb)
  have him' : ∀ b, e.im b → e'.im b := fun b hb => by
    show if L then _ else _
    split
    · exact hb
    · exact him2 b hb
  have him2' : ∀ b, e'.im b → e2.im b := fun b hb => by
    have hb : if L then e.im b else e2.im b := hb
    split at hb
    · exact him2 b hb
    · exact hb
  have hρold : ∀ i, e.D i → e'.ρ i = e.ρ i := fun i hi => by
    show (if n ≤ i then _ else _) = _
    rw [if_neg (fun h => hD i h hi)]
  have hle : e.le e' := by
    refine ⟨fun i hi => ⟨.inl hi, hρold i hi⟩, fun b hb => ⟨him' b hb, fun cc el fz hc => ⟨el, fz, ?_⟩⟩, hI'.ev.bs, hφ, hτ⟩
    show e2.w.heap[b]? = _
    rw [hsame b (hI.imlt b hb) (fun i hi he => (hI.blk i (hall0 i hi)).2.2.1 (he ▸ hb))]
    exact hc
  have hpush : Push L (nums m n k') e2 e' := by
    refine ⟨fun j hj => ?_, fun hnl b hb => ?_, rfl, rfl, rfl⟩
    · have hjk : j < k' := Nat.lt_of_not_le (fun h => hD' j h hj)
      have hg := nums_get (n := n) hkk j hjk
      by_cases hjm : j < m.length
      · rw [dif_pos hjm] at hg
        have hmj := hmD m[j] (List.getElem_mem hjm)
        refine ⟨m[j], hg, .inl hmj, ?_⟩
        rw [hρold _ hmj]
        have := (hI'.low j hjm).2
        rw [this]
        simp [Env.sim, List.getElem?_eq_getElem hjm]
      · rw [dif_neg hjm] at hg
        have e1 : m.length + (n + (j - m.length) - n) = j := by omega
        refine ⟨_, hg, .inr ⟨by omega, by rw [e1]; exact hj⟩, ?_⟩
        show (if _ then _ else _) = _
        rw [if_pos (by omega), e1]
    · show if L then _ else _
      rw [if_neg hnl]; exact hb
  have hnd : (nums m n k').Nodup := nums_nodup hm hmn
  have hnew : ∀ b, (∃ id, hhas H0 id = true ∧ (e.sim H m z).ρ id = b) ∨ (e.sim H m z).w.heap.size ≤ b → c.O b ∨ c.e0.w.heap.size ≤ b := by
    rintro b (h | h)
    · obtain ⟨i, h1, rfl⟩ := hO b h
      exact (hI.blk i (hall0 i h1)).2.2.2
    · have h : e.w.heap.size ≤ b := h
      have := hI.ev.size
      exact .inr (by omega)
  have hold : ∀ id, hhas (hrest H (if L then m0 else m0 ++ z)) id = true → hhas H id = true ∧ id ∉ m0 ∧ (¬ L → id ∉ z) ∧ hget (hrest H (if L then m0 else m0 ++ z)) id = hget H id := by
    intro id hid
    rw [hhas_hrest] at hid
    simp only [Bool.and_eq_true, Bool.not_eq_true', List.contains_eq_mem, decide_eq_false_iff_not] at hid
    refine ⟨hid.1, ?_, ?_, hget_hrest _ _ _ hid.2⟩
    · intro h'; apply hid.2; split
      · exact h'
      · exact List.mem_append_left _ h'
    · intro hnl h'; apply hid.2; rw [if_neg hnl]; exact List.mem_append_right _ h'
  have hrenb : ∀ id, hhas (renH (nums m n k') H') id = true → ∃ j, hhas H' j = true ∧ e'.D id ∧ e'.ρ id = e2.ρ j ∧ (nums m n k')[j]? = some id ∧ hget (renH (nums m n k') H') id = (hget H' j).ren (nums m n k') := by
    intro id hid
    obtain ⟨j, h1, h2, h3⟩ := renH_get hnd hid
    obtain ⟨i, k1, k2, k3⟩ := hpush.D j (hI'.blk j h2).1
    rw [h1] at k1
    simp only [Option.some.injEq] at k1
    subst k1
    exact ⟨j, h2, k2, k3, h1, h3⟩
  refine ⟨x, v.ren (nums m n k'), e', renH (nums m n k') H' ++ hrest H (if L then m0 else m0 ++ z), rfl, rfl, hle, ?_, RV_push hpush (fun hl => (hL hl).1) hv, ?_, hKK⟩
  · have hblk : ∀ id, hhas (renH (nums m n k') H' ++ hrest H (if L then m0 else m0 ++ z)) id = true → (hhas (renH (nums m n k') H') id = true ∧ hget (renH (nums m n k') H' ++ hrest H (if L then m0 else m0 ++ z)) id = hget (renH (nums m n k') H') id) ∨ (hhas (hrest H (if L then m0 else m0 ++ z)) id = true ∧ hget (renH (nums m n k') H' ++ hrest H (if L then m0 else m0 ++ z)) id = hget (hrest H (if L then m0 else m0 ++ z)) id) := by
      intro id hid
      rw [hhas_append] at hid
      cases hr' : hhas (renH (nums m n k') H') id with
      | true => exact .inl ⟨rfl, hget_append_l hr'⟩
      | false => rw [hr', Bool.false_or] at hid; exact .inr ⟨hid, hget_append_r hr'⟩
    have hsep : ∀ i j, hhas H i = true → i ∉ m0 → hhas H' j = true → e.ρ i ≠ e2.ρ j := by
      intro i j hi him hj he
      rcases (hI'.blk j hj).2.2.2 with h | h
      · obtain ⟨i', h1, h2⟩ := hO _ h
        exact him (by rw [hI.inj i i' hi (hall0 i' h1) (he.trans h2.symm)]; exact h1)
      · have h : e.w.heap.size ≤ e2.ρ j := h
        have := hI.rb i (hI.blk i hi).1
        omega
    refine ⟨?_, ?_, ?_, ?_, ?_, ?_, fun b hb => him' b (hI.keep b hb), ?_, fun g hg => R_mono hle (hI.gs g hg), hI'.φ, hI'.τ⟩
    · exact hI.ev.trans hI'.ev (fun b hb => by
        obtain ⟨i, h1, rfl⟩ := hO b hb
        rcases (hI.blk i (hall0 i h1)).2.2.2 with h | h
        · exact .inl h
        · exact .inr h)
    · intro id hid
      rcases hblk id hid with ⟨h1, h2⟩ | ⟨h1, h2⟩
      · obtain ⟨j, k1, k2, k3, k4, k5⟩ := hrenb id h1
        obtain ⟨q1, q2, q3, q4⟩ := hI'.blk j k1
        rw [h2, k5, k3]
        exact ⟨k2, BlkOK_push hpush k3 (fun hl => (hL hl).2 j k1) q2, fun h => q3 (him2' _ h), hnew _ q4⟩
      · obtain ⟨k1, k2, k3, k4⟩ := hold id h1
        obtain ⟨q1, q2, q3, q4⟩ := hI.blk id k1
        have hne : ∀ i ∈ m0, e.ρ i ≠ e.ρ id := fun i hi he => k2 (by rw [← hI.inj i id (hall0 i hi) k1 he]; exact hi)
        rw [h2, k4, hρold id q1]
        refine ⟨.inl q1, BlkOK_mono hle q1 (hsame _ (hI.rb id q1) hne) q2, ?_, q4⟩
        intro h
        have h : if L then e.im (e.ρ id) else e2.im (e.ρ id) := h
        split at h
        · exact q3 h
        · rename_i hnl
          rcases hI'.imo _ h with h | h | h
          · rcases h with h | ⟨i, hf, he⟩
            · exact q3 h
            · obtain ⟨f1, f2, _⟩ := frz_of hf
              rw [hI.inj id i k1 f2 he] at k3
              exact k3 hnl f1
          · obtain ⟨i, h1, h2⟩ := hO _ h
            exact hne i h1 h2
          · have h : e.w.heap.size ≤ e.ρ id := h
            have := hI.rb id q1
            omega
    · intro i j hi hj hij
      rcases hblk i hi with ⟨h1, _⟩ | ⟨h1, _⟩ <;> rcases hblk j hj with ⟨h2, _⟩ | ⟨h2, _⟩
      · obtain ⟨a, a1, _, a3, a4, _⟩ := hrenb i h1
        obtain ⟨b, b1, _, b3, b4, _⟩ := hrenb j h2
        rw [a3, b3] at hij
        have := hI'.inj a b a1 b1 hij
        subst this
        rw [a4] at b4
        simpa using b4
      · obtain ⟨a, a1, _, a3, _⟩ := hrenb i h1
        obtain ⟨b1, b2, _⟩ := hold j h2
        rw [a3, hρold j (hI.blk j b1).1] at hij
        exact absurd hij.symm (hsep j a b1 b2 a1)
      · obtain ⟨a, a1, _, a3, _⟩ := hrenb j h2
        obtain ⟨b1, b2, _⟩ := hold i h1
        rw [a3, hρold i (hI.blk i b1).1] at hij
        exact absurd hij (hsep i a b1 b2 a1)
      · obtain ⟨b1, _⟩ := hold i h1
        obtain ⟨b2, _⟩ := hold j h2
        rw [hρold i (hI.blk i b1).1, hρold j (hI.blk j b2).1] at hij
        exact hI.inj i j b1 b2 hij
    · intro b hb
      have hb : if L then e.im b else e2.im b := hb
      split at hb
      · exact hI.imo b hb
      · rcases hI'.imo b hb with h | h | h
        · rcases h with h | ⟨i, hf, rfl⟩
          · exact hI.imo b h
          · exact .inr (hI.blk i (frz_of hf).2.1).2.2.2
        · exact .inr (hnew b (.inl h))
        · exact .inr (hnew b (.inr h))
    · intro b hb
      exact hI'.imb b (him2' b hb)
    · intro id hid
      rcases hid with hid | ⟨h1, h2⟩
      · rw [hρold id hid]
        have := hI.rb id hid
        show e.ρ id < e2.w.heap.size
        omega
      · show (if n ≤ id then _ else _) < _
        rw [if_pos h1]
        exact hI'.rb _ h2
    · intro id hid
      obtain ⟨h1, h2⟩ := hI.low id hid
      exact ⟨.inl h1, (hρold id h1).trans h2⟩
  · rintro id (h | ⟨h1, h2⟩)
    · exact .inl h
    · refine .inr ⟨h1, ?_⟩
      have := Nat.lt_of_not_le (fun h => hD' _ h h2)
      omega
end Mv
