/- A part. -/
import Derived.Test.YtpcgkiecjakknaaGreatDoorAO
set_option linter.all false
namespace Mv
open Go

def SimA (H : Hp) (m z : List Nat) : List V → List V → Prop
  | [], [] => True
  | v :: r, u :: r' => SimV H m z v u ∧ SimA H m z r r'
  | _, _ => False

def SimH (H : Hp) (m z : List Nat) : Hp → Prop
  | [] => True
  | (j, v) :: r => (match m[j]? with | some i => hhas H i = true ∧ Sim H m z v (hget H i) | none => False) ∧ SimH H m z r

theorem SimA_len {H : Hp} {m z : List Nat} : ∀ {A B : List V}, SimA H m z A B → A.length = B.length
  | [], [], _ => rfl
  | _ :: r, _ :: r', h => by simp only [SimA] at h; simp [SimA_len h.2]
  | [], _ :: _, h => by simp [SimA] at h
  | _ :: _, [], h => by simp [SimA] at h

theorem SimA_get {H : Hp} {m z : List Nat} : ∀ {A B : List V}, SimA H m z A B → ∀ t, SimV H m z (A.getD t .junk) (B.getD t .junk)
  | [], [], _, t => by simp [SimV]
  | _ :: r, _ :: r', h, t => by
    simp only [SimA] at h
    cases t with
    | zero => simpa using h.1
    | succ t => simpa using SimA_get h.2 t
  | [], _ :: _, h, _ => by simp [SimA] at h
  | _ :: _, [], h, _ => by simp [SimA] at h

theorem SimH_get {H : Hp} {m z : List Nat} : ∀ {H' : Hp}, SimH H m z H' → ∀ j, hhas H' j = true → ∃ i, m[j]? = some i ∧ hhas H i = true ∧ Sim H m z (hget H' j) (hget H i)
  | [], _, j, hj => by simp [hhas] at hj
  | (k, v) :: r, h, j, hj => by
    simp only [SimH] at h
    by_cases hkj : k = j
    · subst hkj
      obtain ⟨h1, _⟩ := h
      split at h1
      · rename_i i hi
        exact ⟨i, hi, h1.1, by simpa [hget] using h1.2⟩
      · exact h1.elim
    · have hj' : hhas r j = true := by
        simp only [hhas, Bool.or_eq_true, beq_iff_eq] at hj
        exact hj.resolve_left hkj
      obtain ⟨i, h1, h2, h3⟩ := SimH_get h.2 j hj'
      exact ⟨i, h1, h2, by simpa [hget, hkj] using h3⟩

/-- The env behind the change. -/
def Env.sim (e : Env) (H : Hp) (m z : List Nat) : Env :=
  { ρ := fun j => match m[j]? with | some i => e.ρ i | none => 0
    D := fun j => ∃ i, m[j]? = some i ∧ e.D i
    im := fun b => e.im b ∨ ∃ i, frz H z i = true ∧ b = e.ρ i
    w := e.w, φ := e.φ, τ := e.τ }

theorem frz_of {H : Hp} {z : List Nat} {i : Nat} (h : frz H z i = true) : i ∈ z ∧ hhas H i = true ∧ (hget H i).solid = true := by
  simp only [frz, Bool.and_eq_true, List.contains_iff_mem] at h
  exact ⟨h.1.1, h.1.2, h.2⟩

theorem Pull.of {M : Seat} {c : Ctx} {e : Env} {H : Hp} (hI : Inv M c e H) (m z : List Nat) : Pull H m z e (e.sim H m z) where
  D j i hj hd := ⟨⟨i, hj, hd⟩, by simp [Env.sim, hj]⟩
  im b hb := .inl hb
  fz i hi := by
    obtain ⟨_, h1, h2⟩ := frz_of hi
    obtain ⟨cells, el, h3, h4, h5⟩ := hI.cells h1 h2
    exact ⟨.inr ⟨i, hi, rfl⟩, cells, el, h3, h4, h5⟩
  w := rfl
  φ := rfl
  τ := rfl

theorem GLv_sim (H : Hp) (m z : List Nat) : ∀ g, Sim H m z (GLv g) (GLv g)
  | 0 => rfl
  | 1 => ⟨⟨rfl, rfl⟩, fun _ _ => rfl⟩
  | 2 => ⟨⟨rfl, rfl⟩, fun _ _ => rfl⟩
  | 3 => ⟨⟨rfl, rfl⟩, fun _ _ => rfl⟩
  | _ + 4 => rfl

theorem BlkOK_sim {H : Hp} {m z : List Nat} {e e2 : Env} (hp : Pull H m z e e2) {i j : Nat} (hρ : e2.ρ j = e.ρ i) {v u : V} (hs : Sim H m z v u) (h : BlkOK e i u) : BlkOK e2 j v := by
  cases v
  case mp n ks vs =>
    cases u <;> simp only [Sim] at hs
    obtain ⟨rfl, hs⟩ := hs
    obtain ⟨es, clock, h1, h2, h3⟩ := h
    refine ⟨es, clock, by rw [hρ, hp.w]; exact h1, h2, fun i x hx => ?_⟩
    have hi : i < es.size := (Array.getElem?_eq_some_iff.1 hx).1
    obtain ⟨k1, k2⟩ := hs i (by omega)
    obtain ⟨⟨q1, q2⟩, q3, q4⟩ := h3 i x hx
    exact ⟨⟨by rw [Sim_solid k1]; exact q1, RS_sim hp k1 q2⟩, by rw [Sim_solid k2]; exact q3, RS_sim hp k2 q4⟩
  all_goals
    have hsol := Sim_solid hs
    have hsz := Sim_size hs
    have hu : u.solid = true := by
      cases u
      case mp => simp [Sim] at hs
      all_goals exact h.1
    obtain ⟨cells, el, h1, h2, h3⟩ := (BlkOK_solid hu).1 h
    refine (BlkOK_solid (by rw [hsol]; exact hu)).2 ⟨cells, el, by rw [hρ, hp.w]; exact h1, by rw [hsz]; exact h2, ?_⟩
    rw [hsz]
    exact R_sim hp hs h3

theorem getElem?_nodup {m : List Nat} (hm : m.Nodup) {i j a : Nat} (hi : m[i]? = some a) (hj : m[j]? = some a) : i = j := by
  obtain ⟨h1, h2⟩ := List.getElem?_eq_some_iff.1 hi
  obtain ⟨h3, h4⟩ := List.getElem?_eq_some_iff.1 hj
  have e1 := hm.idxOf_getElem i h1
  have e2 := hm.idxOf_getElem j h3
  rw [h2] at e1
  rw [h4] at e2
  exact e1.symm.trans e2

theorem Inv.sim {M : Seat} {c c' : Ctx} {e : Env} {H : Hp} (hI : Inv M c e H) {m z : List Nat} (hm : m.Nodup) (hz : ∀ i ∈ z, i ∉ m) {H' : Hp} (hH : SimH H m z H')
    (hc : (c' = c ∧ ∀ j, j < c.k → m[j]? = some j) ∨ (c' = ⟨e.sim H m z, fun b => ∃ id, hhas H' id = true ∧ (e.sim H m z).ρ id = b, m.length⟩ ∧ ∀ i ∈ m, hhas H i = true)) : Inv M c' (e.sim H m z) H' := by
  have hp := Pull.of hI m z
  have hblk : ∀ j, hhas H' j = true → (e.sim H m z).D j ∧ BlkOK (e.sim H m z) j (hget H' j) ∧ ¬ (e.sim H m z).im ((e.sim H m z).ρ j) ∧ (c.O ((e.sim H m z).ρ j) ∨ c.e0.w.heap.size ≤ (e.sim H m z).ρ j) := by
    intro j hj
    obtain ⟨i, h1, h2, h3⟩ := SimH_get hH j hj
    obtain ⟨k1, k2, k3, k4⟩ := hI.blk i h2
    have hρ : (e.sim H m z).ρ j = e.ρ i := by simp [Env.sim, h1]
    refine ⟨⟨i, h1, k1⟩, BlkOK_sim hp hρ h3 k2, ?_, ?_⟩
    · rw [hρ]
      rintro (h | ⟨i', hf, he⟩)
      · exact k3 h
      · obtain ⟨f1, f2, _⟩ := frz_of hf
        have := hI.inj i i' h2 f2 he
        subst this
        exact hz _ f1 (List.mem_of_getElem? h1)
    · rw [hρ]; exact k4
  have hinj : ∀ i j, hhas H' i = true → hhas H' j = true → (e.sim H m z).ρ i = (e.sim H m z).ρ j → i = j := by
    intro i j hi hj hij
    obtain ⟨i', h1, h2, _⟩ := SimH_get hH i hi
    obtain ⟨j', h3, h4, _⟩ := SimH_get hH j hj
    simp only [Env.sim, h1, h3] at hij
    have := hI.inj i' j' h2 h4 hij
    subst this
    exact getElem?_nodup hm h1 h3
  have himo : ∀ b, (e.sim H m z).im b → c.e0.im b ∨ c.O b ∨ c.e0.w.heap.size ≤ b := by
    rintro b (h | ⟨i, hf, rfl⟩)
    · exact hI.imo b h
    · exact .inr (hI.blk i (frz_of hf).2.1).2.2.2
  have himb : ∀ b, (e.sim H m z).im b → ∃ cells el fz, (e.sim H m z).w.heap[b]? = some (.cells cells el fz) := by
    rintro b (h | ⟨i, hf, rfl⟩)
    · exact hI.imb b h
    · obtain ⟨_, cells, el, h1, _⟩ := hp.fz i hf
      exact ⟨cells, el, _, h1⟩
  have hrb : ∀ id, (e.sim H m z).D id → (e.sim H m z).ρ id < (e.sim H m z).w.heap.size := by
    rintro id ⟨i, h1, h2⟩
    simp only [Env.sim, h1]
    exact hI.rb i h2
  have hgs : GS M (e.sim H m z) := ⟨fun g hg =>
    R_sim hp (show Sim H m z (.imm (GLv g)) (.imm (GLv g)) from GLv_sim H m z g) (hI.gs.1 g hg), fun p hp' => ⟨.inl (hI.gs.2 p hp').1, (hI.gs.2 p hp').2⟩⟩
  rcases hc with ⟨rfl, hlow⟩ | ⟨rfl, hall⟩
  · refine ⟨hI.ev, hblk, hinj, himo, himb, hrb, fun b hb => .inl (hI.keep b hb), fun id hid => ?_, hgs, hI.φ, hI.τ⟩
    obtain ⟨h1, h2⟩ := hI.low id hid
    exact ⟨⟨id, hlow id hid, h1⟩, by simp only [Env.sim, hlow id hid]; exact h2⟩
  · refine ⟨Ev.refl _ _, fun j hj => ⟨(hblk j hj).1, (hblk j hj).2.1, (hblk j hj).2.2.1, .inl ⟨j, hj, rfl⟩⟩, hinj, fun b hb => .inl hb, himb, hrb, fun b hb => hb, fun id hid => ⟨?_, rfl⟩, hgs, hI.φ, hI.τ⟩
    have hid' : id < m.length := hid
    exact ⟨m[id], List.getElem?_eq_getElem hid', (hI.blk _ (hall _ (List.getElem_mem hid'))).1⟩

/-- A weaker state. -/
theorem Weak.sim {M : Seat} {c : Ctx} {A : List V} {H : Hp} {N : Nat} (m z : List Nat) {A' : List V} {H' : Hp} {N' : Nat} (hm : m.Nodup) (hz : ∀ i ∈ z, i ∉ m) (hN : m.length ≤ N') (hk : c.k ≤ N') (hlow : ∀ j, j < c.k → m[j]? = some j)
    (hA : SimA H m z A' A) (hH : SimH H m z H') : Weak M c A H N A' H' N' := by
  rintro a w ⟨e, rfl, hI, hF, hD, hk', hdef⟩
  refine ⟨e.sim H m z, rfl, hI.sim hm hz hH (.inl ⟨rfl, hlow⟩), ⟨hF.len.trans (SimA_len hA).symm, fun t => RV_sim (Pull.of hI m z) (SimA_get hA t) (hF.val t)⟩, ?_, hk, hdef⟩
  rintro id hid ⟨i, h1, _⟩
  have := (List.getElem?_eq_some_iff.1 h1).1
  omega

/-- Values in other numbers. -/
def badv : V := .mp 0 (fun _ => .junk) (fun _ => .junk)

def V.ren (m : List Nat) : V → V
  | .ptr j p => (match m[j]? with | some i => .ptr i p | none => badv)
  | .map j => (match m[j]? with | some i => .map i | none => badv)
  | .sl j p o n sz => (match m[j]? with | some i => .sl i p o n sz | none => badv)
  | .imm v => .imm (v.ren m)
  | .lst sz n f => .lst sz n (fun i => (f i).ren m)
  | .fn f c => .fn f (c.ren m)
  | .ifc t v => .ifc t (v.ren m)
  | .st n fs => .st n (fs.ren m)
  | .ar sz n f => .ar sz n (fun i => (f i).ren m)
  | .fcons o v r => .fcons o (v.ren m) (r.ren m)
  | .tup fs => .tup (fs.ren m)
  | .mp n ks vs => .mp n (fun i => (ks i).ren m) (fun i => (vs i).ren m)
  | v => v

theorem ren_size (m : List Nat) (v : V) : (v.ren m).size = v.size := by
  cases v <;> simp only [V.ren] <;> first | rfl | (split <;> rfl)
theorem ren_agg (m : List Nat) (v : V) : (v.ren m).isAgg = v.isAgg := by
  cases v <;> simp only [V.ren] <;> first | rfl | (split <;> rfl)
theorem ren_chain (m : List Nat) (v : V) : (v.ren m).chain = v.chain := by
  cases v <;> simp only [V.ren] <;> first | rfl | (split <;> rfl)
theorem ren_flo (m : List Nat) (d : Nat) (v : V) : (v.ren m).flo d = v.flo d := by
  cases v <;> simp only [V.ren] <;> first | rfl | (split <;> rfl)

/-- No block in it that is never written. -/
def NoIm : V → Prop
  | .imm _ => False
  | .lst .. => False
  | .fn _ c => NoIm c
  | .ifc _ v => NoIm v
  | .st _ fs => NoIm fs
  | .ar _ n f => ∀ i, i < n → NoIm (f i)
  | .fcons _ v r => NoIm v ∧ NoIm r
  | .tup fs => NoIm fs
  | .mp n ks vs => ∀ i, i < n → NoIm (ks i) ∧ NoIm (vs i)
  | _ => True

/-- Back into the caller's world. -/
structure Push (L : Prop) (m : List Nat) (e2 e : Env) : Prop where
  D : ∀ j, e2.D j → ∃ i, m[j]? = some i ∧ e.D i ∧ e.ρ i = e2.ρ j
  im : ¬ L → ∀ b, e2.im b → e.im b
  w : e.w = e2.w
  φ : e.φ = e2.φ
  τ : e.τ = e2.τ

theorem R_push {L : Prop} {m : List Nat} {e2 e : Env} (hp : Push L m e2 e) : ∀ {v : V} {cs : List Value}, (L → NoIm v) → R e2 v cs → R e (v.ren m) cs ∧ (v.solid = true → (v.ren m).solid = true)
  | .junk, _, _, h => ⟨h, fun h => h⟩
  | .int _ _, _, _, h => ⟨h, fun h => h⟩
  | .bool _, _, _, h => ⟨h, fun h => h⟩
  | .str _, _, _, h => ⟨h, fun h => h⟩
  | .nilp, _, _, h => ⟨h, fun h => h⟩
  | .nils, _, _, h => ⟨h, fun h => h⟩
  | .nilm, _, _, h => ⟨h, fun h => h⟩
  | .nilf, _, _, h => ⟨h, fun h => h⟩
  | .nili, _, _, h => ⟨h, fun h => h⟩
  | .fnil, _, _, h => ⟨h, fun h => h⟩
  | .ptr j p, cs, _, h => by
    simp only [R] at h
    obtain ⟨i, h1, h2, h3⟩ := hp.D j h.1
    simp only [V.ren, h1, R, h3]
    exact ⟨⟨h2, h.2⟩, fun _ => rfl⟩
  | .map j, cs, _, h => by
    simp only [R] at h
    obtain ⟨i, h1, h2, h3⟩ := hp.D j h.1
    simp only [V.ren, h1, R, h3]
    exact ⟨⟨h2, h.2⟩, fun _ => rfl⟩
  | .sl j p o n sz, cs, _, h => by
    simp only [R] at h
    obtain ⟨i, h1, h2, h3⟩ := hp.D j h.1
    simp only [V.ren, h1, R, h3, hp.w]
    exact ⟨⟨h2, h.2⟩, fun _ => rfl⟩
  | .imm v, cs, hL, h => by
    have hnL : ¬ L := fun hl => (hL hl : NoIm (.imm v)).elim
    simp only [R] at h
    obtain ⟨b, o, c, el, fz, h1, h2, h3, h4, h5⟩ := h
    simp only [V.ren, R, ren_size, hp.w]
    exact ⟨⟨b, o, c, el, fz, h1, hp.im hnL b h2, h3, h4, (R_push hp (fun hl => (hnL hl).elim) h5).1⟩, fun _ => rfl⟩
  | .lst sz n f, cs, hL, h => by
    have hnL : ¬ L := fun hl => (hL hl : NoIm (.lst sz n f)).elim
    simp only [R] at h
    obtain ⟨a, cap, h1, h2, h3⟩ := h
    simp only [V.ren, R, ren_size, hp.w]
    refine ⟨⟨a, cap, h1, h2, fun h0 => ?_⟩, fun _ => rfl⟩
    obtain ⟨b, o, c, el, fz, k1, k2, k3, k4, k5⟩ := h3 h0
    refine ⟨b, o, c, el, fz, k1, hp.im hnL b k2, k3, k4, fun i hi => ?_⟩
    obtain ⟨q1, q2⟩ := R_push hp (fun hl => (hnL hl).elim) (k5 i hi).2
    exact ⟨⟨q2 (k5 i hi).1.1, (k5 i hi).1.2⟩, q1⟩
  | .fn f c, cs, hL, h => by
    simp only [R] at h
    obtain ⟨xs, h1, h2⟩ := h
    simp only [V.ren, R, hp.φ]
    exact ⟨⟨xs, h1, (R_push (v := c) hp hL h2).1⟩, fun _ => rfl⟩
  | .ifc t v, cs, hL, h => by
    simp only [R] at h
    obtain ⟨x, h1, h2, h3⟩ := h
    simp only [V.ren, R, hp.τ, ren_agg]
    refine ⟨⟨x, h1, ?_, ?_⟩, fun _ => rfl⟩
    · split at h3
      · obtain ⟨c, k1, k2⟩ := h3; exact (R_push (v := v) hp hL k2).2 h2
      · exact (R_push (v := v) hp hL h3).2 h2
    · split at h3
      · obtain ⟨c, k1, k2⟩ := h3; exact ⟨c, k1, (R_push (v := v) hp hL k2).1⟩
      · exact (R_push (v := v) hp hL h3).1
  | .st n fs, cs, hL, h => by
    simp only [R] at h
    simp only [V.ren, R, ren_chain]
    exact ⟨⟨h.1, h.2.1, (R_push (v := fs) hp hL h.2.2).1⟩, fun _ => rfl⟩
  | .ar sz n f, cs, hL, h => by
    simp only [R] at h
    simp only [V.ren, R, ren_size]
    refine ⟨⟨h.1, fun i hi => ?_⟩, fun _ => rfl⟩
    obtain ⟨q1, q2⟩ := R_push hp (fun hl => (hL hl : ∀ i, i < n → NoIm (f i)) i hi) (h.2 i hi).2
    exact ⟨⟨q2 (h.2 i hi).1.1, (h.2 i hi).1.2⟩, q1⟩
  | .fcons o v r, cs, hL, h => by
    simp only [R] at h
    simp only [V.ren, R, ren_size, ren_chain, ren_flo]
    exact ⟨⟨h.1, h.2.1, h.2.2.1, (R_push hp (fun hl => (hL hl : NoIm v ∧ NoIm r).1) h.2.2.2.1).1, (R_push hp (fun hl => (hL hl : NoIm v ∧ NoIm r).2) h.2.2.2.2).1⟩, fun hf => by simp [V.solid] at hf⟩
  | .tup fs, cs, _, h => by simp only [R] at h
  | .mp n ks vs, cs, _, h => by simp only [R] at h

theorem RS_push {L : Prop} {m : List Nat} {e2 e : Env} (hp : Push L m e2 e) {v : V} {x : Value} (hL : L → NoIm v) (hs : v.solid = true) (h : RS e2 v x) : RS e (v.ren m) x ∧ (v.ren m).solid = true := by
  unfold RS at *
  rw [ren_agg]
  split
  · rename_i ha; simp only [ha] at h; obtain ⟨c, h1, h2⟩ := h; exact ⟨⟨c, h1, (R_push hp hL h2).1⟩, (R_push hp hL h2).2 hs⟩
  · rename_i ha; simp only [ha] at h; exact ⟨(R_push hp hL h).1, (R_push hp hL h).2 hs⟩

theorem RT_push {L : Prop} {m : List Nat} {e2 e : Env} (hp : Push L m e2 e) : ∀ {v : V} {xs : Array Value}, (L → NoIm v) → RT e2 v xs → RT e (v.ren m) xs
  | .fcons i v r, xs, hL, h => by
    simp only [RT] at h
    simp only [V.ren, RT]
    obtain ⟨⟨h0, y, h1, h2⟩, h3⟩ := h
    obtain ⟨q1, q2⟩ := RS_push hp (fun hl => (hL hl : NoIm v ∧ NoIm r).1) h0 h2
    exact ⟨⟨q2, y, h1, q1⟩, RT_push hp (fun hl => (hL hl : NoIm v ∧ NoIm r).2) h3⟩
  | .ptr j p, _, _, _ | .map j, _, _, _ | .sl j p o n sz, _, _, _ => by simp only [V.ren]; split <;> trivial
  | .junk, _, _, _ | .int .., _, _, _ | .bool _, _, _, _ | .str _, _, _, _ | .nilp, _, _, _ | .imm _, _, _, _ | .nils, _, _, _ | .lst .., _, _, _ | .nilm, _, _, _ | .nilf, _, _, _ | .fn .., _, _, _ | .nili, _, _, _ | .ifc .., _, _, _ | .st .., _, _, _ | .ar .., _, _, _ | .fnil, _, _, _ | .tup _, _, _, _ | .mp .., _, _, _ => trivial

theorem RV_push {L : Prop} {m : List Nat} {e2 e : Env} (hp : Push L m e2 e) {v : V} {x : Value} (hL : L → NoIm v) (h : RV e2 v x) : RV e (v.ren m) x := by
  by_cases hs : v.solid = true
  · rw [RV_solid hs] at h
    obtain ⟨h1, h2⟩ := RS_push hp hL hs h
    rw [RV_solid h2]; exact h1
  · cases v <;> simp only [V.solid, not_true_eq_false] at hs
    case junk => trivial
    case tup fs =>
      obtain ⟨xs, h1, h2⟩ := h
      exact ⟨xs, h1, RT_push hp hL h2⟩
    all_goals exact (h : False).elim

theorem BlkOK_push {L : Prop} {m : List Nat} {e2 e : Env} (hp : Push L m e2 e) {i j : Nat} (hρ : e.ρ i = e2.ρ j) {v : V} (hL : L → NoIm v) (h : BlkOK e2 j v) : BlkOK e i (v.ren m) := by
  by_cases hs : v.solid = true
  · obtain ⟨cells, el, h1, h2, h3⟩ := (BlkOK_solid hs).1 h
    obtain ⟨q1, q2⟩ := R_push hp hL h3
    refine (BlkOK_solid (q2 hs)).2 ⟨cells, el, by rw [hρ, hp.w]; exact h1, by rw [ren_size]; exact h2, ?_⟩
    rw [ren_size]; exact q1
  · cases v
    case mp n ks vs =>
      obtain ⟨es, clock, h1, h2, h3⟩ := h
      refine ⟨es, clock, by rw [hρ, hp.w]; exact h1, h2, fun i x hx => ?_⟩
      have hi : i < es.size := (Array.getElem?_eq_some_iff.1 hx).1
      obtain ⟨⟨q1, q2⟩, q3, q4⟩ := h3 i x hx
      obtain ⟨a1, a2⟩ := RS_push hp (fun hl => ((hL hl : ∀ i, i < n → NoIm (ks i) ∧ NoIm (vs i)) i (by omega)).1) q1 q2
      obtain ⟨b1, b2⟩ := RS_push hp (fun hl => ((hL hl : ∀ i, i < n → NoIm (ks i) ∧ NoIm (vs i)) i (by omega)).2) q3 q4
      exact ⟨⟨a2, a1⟩, b2, b1⟩
    all_goals exact absurd h.1 hs

/-- A function, from blocks 0..k-1 of these contents, leaves what Q says: the value, the blocks, how many numbers are in use. -/
def Runs (M : Seat) (f : Nat) (us : List V) (H : Hp) (k : Nat) (Q : V → Hp → Nat → Prop) : Prop :=
  ∀ (e : Env) (vs : Array Value), Inv M ⟨e, fun b => ∃ id, hhas H id = true ∧ e.ρ id = b, k⟩ e H → (∀ id, k ≤ id → ¬ e.D id) → Args e us vs →
    Calls M.P (M.φ f) vs e.w fun en w' => ∃ x v e' H' k', en = .returned x ∧ e'.w = w' ∧ Inv M ⟨e, fun b => ∃ id, hhas H id = true ∧ e.ρ id = b, k⟩ e' H' ∧ RV e' v x ∧ (∀ id, k' ≤ id → ¬ e'.D id) ∧ k ≤ k' ∧ Q v H' k'

theorem Runs.mono {M : Seat} {f : Nat} {us : List V} {H : Hp} {k : Nat} {Q Q' : V → Hp → Nat → Prop} (h : Runs M f us H k Q) (hq : ∀ v H' k', Q v H' k' → Q' v H' k') : Runs M f us H k Q' := by
  intro e vs h1 h2 h3
  refine (h e vs h1 h2 h3).mono ?_
  rintro en w' ⟨x, v, e', H', k', a, b, c, d, f, g, i⟩
  exact ⟨x, v, e', H', k', a, b, c, d, f, g, hq _ _ _ i⟩

def renH (m : List Nat) : Hp → Hp
  | [] => []
  | (j, v) :: r => match m[j]? with | some i => (i, v.ren m) :: renH m r | none => renH m r

def hrest (H : Hp) : List Nat → Hp
  | [] => H
  | i :: r => hdel (hrest H r) i

theorem hhas_hrest (H : Hp) (j : Nat) : ∀ m, hhas (hrest H m) j = (hhas H j && !m.contains j)
  | [] => by simp [hrest]
  | i :: r => by
    rw [hrest, hhas_hdel, hhas_hrest H j r, List.contains_cons]
    by_cases h : j = i <;> simp [h, bne, Bool.and_comm, Bool.and_assoc]

theorem hget_hrest (H : Hp) (j : Nat) : ∀ m, j ∉ m → hget (hrest H m) j = hget H j
  | [], _ => rfl
  | i :: r, h => by
    rw [hrest, hget_hdel _ _ (by intro h'; exact h (by simp [h'])), hget_hrest H j r (by intro h'; exact h (by simp [h']))]

theorem hhas_append (j : Nat) : ∀ H K : Hp, hhas (H ++ K) j = (hhas H j || hhas K j)
  | [], _ => by simp [hhas]
  | (i, v) :: r, K => by simp [hhas, hhas_append j r K, Bool.or_assoc]

theorem hget_append_l {j : Nat} : ∀ {H K : Hp}, hhas H j = true → hget (H ++ K) j = hget H j
  | [], _, h => by simp [hhas] at h
  | (i, v) :: r, K, h => by
    simp only [List.cons_append, hget]
    split
    · rfl
    · rename_i hij
      simp only [hhas, Bool.or_eq_true, beq_iff_eq, hij, false_or] at h
      exact hget_append_l h

theorem hget_append_r {j : Nat} : ∀ {H K : Hp}, hhas H j = false → hget (H ++ K) j = hget K j
  | [], _, _ => rfl
  | (i, v) :: r, K, h => by
    simp only [hhas, Bool.or_eq_false_iff, beq_eq_false_iff_ne, ne_eq] at h
    simp only [List.cons_append, hget, if_neg h.1]
    exact hget_append_r h.2

theorem renH_get {m : List Nat} (hm : m.Nodup) : ∀ {H : Hp} {id : Nat}, hhas (renH m H) id = true → ∃ j, m[j]? = some id ∧ hhas H j = true ∧ hget (renH m H) id = (hget H j).ren m
  | [], id, h => by simp [renH, hhas] at h
  | (j, v) :: r, id, h => by
    cases hi : m[j]? with
    | some i =>
      have hr : renH m ((j, v) :: r) = (i, v.ren m) :: renH m r := by simp only [renH, hi]
      rw [hr] at h ⊢
      by_cases hid : i = id
      · subst hid
        exact ⟨j, hi, by simp [hhas], by simp [hget]⟩
      · have h' : hhas (renH m r) id = true := by
          simp only [hhas, Bool.or_eq_true, beq_iff_eq] at h
          exact h.resolve_left hid
        obtain ⟨j', h1, h2, h3⟩ := renH_get hm h'
        have hjj : j ≠ j' := by
          rintro rfl
          rw [hi] at h1
          exact hid (by simpa using h1)
        exact ⟨j', h1, by simp [hhas, h2], by simp [hget, hid, hjj, h3]⟩
    | none =>
      have hr : renH m ((j, v) :: r) = renH m r := by simp only [renH, hi]
      rw [hr] at h ⊢
      obtain ⟨j', h1, h2, h3⟩ := renH_get hm h
      have hjj : j ≠ j' := by
        rintro rfl
        rw [hi] at h1
        cases h1
      exact ⟨j', h1, by simp [hhas, h2], by simp [hget, hjj, h3]⟩

def NoImH (H : Hp) : Prop := ∀ id, hhas H id = true → NoIm (hget H id)

/-- The numbers behind a call: the caller's own, then new ones. -/
def nums (m : List Nat) (n k' : Nat) : List Nat := m ++ (List.range (k' - m.length)).map (fun i => n + i)

theorem nums_get {m : List Nat} {n k' : Nat} (hk : m.length ≤ k') (j : Nat) (hj : j < k') : (nums m n k')[j]? = if h : j < m.length then some m[j] else some (n + (j - m.length)) := by
  unfold nums
  split
  · rename_i h
    rw [List.getElem?_append_left h]; exact List.getElem?_eq_getElem h
  · rename_i h
    rw [List.getElem?_append_right (by omega)]
    simp only [List.getElem?_map]
    rw [List.getElem?_range (by omega)]
    rfl

theorem nums_nodup {m : List Nat} {n k' : Nat} (hm : m.Nodup) (hn : ∀ i ∈ m, i < n) : (nums m n k').Nodup := by
  unfold nums
  rw [List.nodup_append]
  refine ⟨hm, ?_, ?_⟩
  · rw [List.Nodup, List.pairwise_map]
    exact (List.nodup_range (n := k' - m.length)).imp (fun h h' => h (by omega))
  · intro a ha b hb hab
    simp only [List.mem_map, List.mem_range] at hb
    obtain ⟨i, _, rfl⟩ := hb
    have := hn a ha
    omega

/-- A call, by a contract. 'm': the caller's numbers of the blocks that the contract has; 'z': blocks that the callee may look at; they are never written again (L false), or the caller's again (L true). -/
theorem call_runs {M : Seat} {f : Nat} {us : List V} {H : Hp} {n : Nat} {K : V → Hp → Prop} {us0 : List V} {H0 : Hp} {k : Nat} {Q : V → Hp → Nat → Prop} (hr : Runs M f us0 H0 k Q) (L : Prop) [Decidable L] (m z : List Nat)
    (hm : m.Nodup) (hz : ∀ i ∈ z, i ∉ m) (hk : m.length = k) (hall : ∀ i ∈ m, hhas H i = true) (hus : SimA H m z us0 us) (hH : SimH H m z H0)
    (hK : ∀ v H' k', Q v H' k' → (k' ≤ k + 16 ∧ (L → NoIm v ∧ NoImH H')) ∧ K (v.ren (nums m n k')) (renH (nums m n k') H' ++ hrest H (if L then m else m ++ z))) : CallK M f us H n K := by
  intro c e vs hI hD hcn ⟨hvs, hargs⟩
  subst hk
  have hp := Pull.of hI m z
  have hI2 : Inv M ⟨e.sim H m z, fun b => ∃ id, hhas H0 id = true ∧ (e.sim H m z).ρ id = b, m.length⟩ (e.sim H m z) H0 := hI.sim hm hz hH (.inr ⟨rfl, hall⟩)
  have hmD : ∀ i ∈ m, e.D i := fun i hi => (hI.blk i (hall i hi)).1
  have hmn : ∀ i ∈ m, i < n := fun i hi => Nat.lt_of_not_le (fun h => hD i h (hmD i hi))
  refine (hr (e.sim H m z) vs hI2 ?_ ⟨hvs.trans (SimA_len hus).symm, fun t => RV_sim hp (SimA_get hus t) (hargs t)⟩).mono ?_
  · rintro id hid ⟨i, h1, _⟩
    have := (List.getElem?_eq_some_iff.1 h1).1
    omega
  rintro en w' ⟨x, v, e2, H', k', rfl, rfl, hI', hv, hD', hkk, hQ⟩
  obtain ⟨⟨hk16, hL⟩, hKK⟩ := hK v H' k' hQ
  -- the callee's env, the caller's
  have hO : ∀ b, (∃ id, hhas H0 id = true ∧ (e.sim H m z).ρ id = b) → ∃ i ∈ m, e.ρ i = b := by
    rintro b ⟨id, h1, h2⟩
    obtain ⟨i, k1, k2, _⟩ := SimH_get hH id h1
    exact ⟨i, List.mem_of_getElem? k1, by simpa [Env.sim, k1] using h2⟩
  have hsame : ∀ b, b < e.w.heap.size → (∀ i ∈ m, e.ρ i ≠ b) → e2.w.heap[b]? = e.w.heap[b]? := fun b hb hn =>
    hI'.ev.frame b hb (fun ho => by obtain ⟨i, h1, h2⟩ := hO b ho; exact hn i h1 h2)
  have hsize : e.w.heap.size ≤ e2.w.heap.size := hI'.ev.size
  let e' : Env := { ρ := fun i => if n ≤ i then e2.ρ (m.length + (i - n)) else e.ρ i
                    D := fun i => e.D i ∨ (n ≤ i ∧ e2.D (m.length + (i - n)))
                    im := fun b => if L then e.im b else e2.im b
                    w := e2.w, φ := e2.φ, τ := e2.τ }
  have hφ : e2.φ = e.φ := hI'.φ.trans hI.φ.symm
  have hτ : e2.τ = e.τ := hI'.τ.trans hI.τ.symm
  have him2 : ∀ b, e.im b → e2.im b := fun b hb => hI'.keep b (.inl hb)
  have him' : ∀ b, e.im b → e'.im b := fun b hb => by
    show if L then _ else _
    split
    · exact hb
    · exact him2 b hb
  have him2' : ∀ b, e'.im b → e2.im b := fun b hb => by
    have hb : if L then e.im b else e2.im b := hb
    split at hb
    · exact him2 b hb
    · exact hb
  have hρold : ∀ i, e.D i → e'.ρ i = e.ρ i := fun i hi => by
    show (if n ≤ i then _ else _) = _
    rw [if_neg (fun h => hD i h hi)]
  have hle : e.le e' := by
    refine ⟨fun i hi => ⟨.inl hi, hρold i hi⟩, fun b hb => ⟨him' b hb, fun cc el fz hc => ⟨el, fz, ?_⟩⟩, hI'.ev.bs, hφ, hτ⟩
    show e2.w.heap[b]? = _
    rw [hsame b (hI.imlt b hb) (fun i hi he => (hI.blk i (hall i hi)).2.2.1 (he ▸ hb))]
    exact hc
  have hpush : Push L (nums m n k') e2 e' := by
    refine ⟨fun j hj => ?_, fun hnl b hb => ?_, rfl, rfl, rfl⟩
    · have hjk : j < k' := Nat.lt_of_not_le (fun h => hD' j h hj)
      have hg := nums_get (n := n) hkk j hjk
      by_cases hjm : j < m.length
      · rw [dif_pos hjm] at hg
        have hmj := hmD m[j] (List.getElem_mem hjm)
        refine ⟨m[j], hg, .inl hmj, ?_⟩
        rw [hρold _ hmj]
        have := (hI'.low j hjm).2
        rw [this]
        simp [Env.sim, List.getElem?_eq_getElem hjm]
      · rw [dif_neg hjm] at hg
        have e1 : m.length + (n + (j - m.length) - n) = j := by omega
        refine ⟨_, hg, .inr ⟨by omega, by rw [e1]; exact hj⟩, ?_⟩
        show (if _ then _ else _) = _
        rw [if_pos (by omega), e1]
    · show if L then _ else _
      rw [if_neg hnl]; exact hb
  have hnd : (nums m n k').Nodup := nums_nodup hm hmn
  have hnew : ∀ b, (∃ id, hhas H0 id = true ∧ (e.sim H m z).ρ id = b) ∨ (e.sim H m z).w.heap.size ≤ b → c.O b ∨ c.e0.w.heap.size ≤ b := by
    rintro b (h | h)
    · obtain ⟨i, h1, rfl⟩ := hO b h
      exact (hI.blk i (hall i h1)).2.2.2
    · have h : e.w.heap.size ≤ b := h
      have := hI.ev.size
      exact .inr (by omega)
  have hold : ∀ id, hhas (hrest H (if L then m else m ++ z)) id = true → hhas H id = true ∧ id ∉ m ∧ (¬ L → id ∉ z) ∧ hget (hrest H (if L then m else m ++ z)) id = hget H id := by
    intro id hid
    rw [hhas_hrest] at hid
    simp only [Bool.and_eq_true, Bool.not_eq_true', List.contains_eq_mem, decide_eq_false_iff_not] at hid
    refine ⟨hid.1, ?_, ?_, hget_hrest _ _ _ hid.2⟩
    · intro h'; apply hid.2; split
      · exact h'
      · exact List.mem_append_left _ h'
    · intro hnl h'; apply hid.2; rw [if_neg hnl]; exact List.mem_append_right _ h'
  have hrenb : ∀ id, hhas (renH (nums m n k') H') id = true → ∃ j, hhas H' j = true ∧ e'.D id ∧ e'.ρ id = e2.ρ j ∧ (nums m n k')[j]? = some id ∧ hget (renH (nums m n k') H') id = (hget H' j).ren (nums m n k') := by
    intro id hid
    obtain ⟨j, h1, h2, h3⟩ := renH_get hnd hid
    obtain ⟨i, k1, k2, k3⟩ := hpush.D j (hI'.blk j h2).1
    rw [h1] at k1
    simp only [Option.some.injEq] at k1
    subst k1
    exact ⟨j, h2, k2, k3, h1, h3⟩
  refine ⟨x, v.ren (nums m n k'), e', renH (nums m n k') H' ++ hrest H (if L then m else m ++ z), rfl, rfl, hle, ?_, RV_push hpush (fun hl => (hL hl).1) hv, ?_, hKK⟩
  · have hblk : ∀ id, hhas (renH (nums m n k') H' ++ hrest H (if L then m else m ++ z)) id = true → (hhas (renH (nums m n k') H') id = true ∧ hget (renH (nums m n k') H' ++ hrest H (if L then m else m ++ z)) id = hget (renH (nums m n k') H') id) ∨ (hhas (hrest H (if L then m else m ++ z)) id = true ∧ hget (renH (nums m n k') H' ++ hrest H (if L then m else m ++ z)) id = hget (hrest H (if L then m else m ++ z)) id) := by
      intro id hid
      rw [hhas_append] at hid
      cases hr' : hhas (renH (nums m n k') H') id with
      | true => exact .inl ⟨rfl, hget_append_l hr'⟩
      | false => rw [hr', Bool.false_or] at hid; exact .inr ⟨hid, hget_append_r hr'⟩
    have hsep : ∀ i j, hhas H i = true → i ∉ m → hhas H' j = true → e.ρ i ≠ e2.ρ j := by
      intro i j hi him hj he
      rcases (hI'.blk j hj).2.2.2 with h | h
      · obtain ⟨i', h1, h2⟩ := hO _ h
        exact him (by rw [hI.inj i i' hi (hall i' h1) (he.trans h2.symm)]; exact h1)
      · have h : e.w.heap.size ≤ e2.ρ j := h
        have := hI.rb i (hI.blk i hi).1
        omega
    refine ⟨?_, ?_, ?_, ?_, ?_, ?_, fun b hb => him' b (hI.keep b hb), ?_, hI.gs.mono hle, hI'.φ, hI'.τ⟩
    · exact hI.ev.trans hI'.ev (fun b hb => by
        obtain ⟨i, h1, rfl⟩ := hO b hb
        rcases (hI.blk i (hall i h1)).2.2.2 with h | h
        · exact .inl h
        · exact .inr h)
    · intro id hid
      rcases hblk id hid with ⟨h1, h2⟩ | ⟨h1, h2⟩
      · obtain ⟨j, k1, k2, k3, k4, k5⟩ := hrenb id h1
        obtain ⟨q1, q2, q3, q4⟩ := hI'.blk j k1
        rw [h2, k5, k3]
        exact ⟨k2, BlkOK_push hpush k3 (fun hl => (hL hl).2 j k1) q2, fun h => q3 (him2' _ h), hnew _ q4⟩
      · obtain ⟨k1, k2, k3, k4⟩ := hold id h1
        obtain ⟨q1, q2, q3, q4⟩ := hI.blk id k1
        have hne : ∀ i ∈ m, e.ρ i ≠ e.ρ id := fun i hi he => k2 (by rw [← hI.inj i id (hall i hi) k1 he]; exact hi)
        rw [h2, k4, hρold id q1]
        refine ⟨.inl q1, BlkOK_mono hle q1 (hsame _ (hI.rb id q1) hne) q2, ?_, q4⟩
        intro h
        have h : if L then e.im (e.ρ id) else e2.im (e.ρ id) := h
        split at h
        · exact q3 h
        · rename_i hnl
          rcases hI'.imo _ h with h | h | h
          · rcases h with h | ⟨i, hf, he⟩
            · exact q3 h
            · obtain ⟨f1, f2, _⟩ := frz_of hf
              rw [hI.inj id i k1 f2 he] at k3
              exact k3 hnl f1
          · obtain ⟨i, h1, h2⟩ := hO _ h
            exact hne i h1 h2
          · have h : e.w.heap.size ≤ e.ρ id := h
            have := hI.rb id q1
            omega
    · intro i j hi hj hij
      rcases hblk i hi with ⟨h1, _⟩ | ⟨h1, _⟩ <;> rcases hblk j hj with ⟨h2, _⟩ | ⟨h2, _⟩
      · obtain ⟨a, a1, _, a3, a4, _⟩ := hrenb i h1
        obtain ⟨b, b1, _, b3, b4, _⟩ := hrenb j h2
        rw [a3, b3] at hij
        have := hI'.inj a b a1 b1 hij
        subst this
        rw [a4] at b4
        simpa using b4
      · obtain ⟨a, a1, _, a3, _⟩ := hrenb i h1
        obtain ⟨b1, b2, _⟩ := hold j h2
        rw [a3, hρold j (hI.blk j b1).1] at hij
        exact absurd hij.symm (hsep j a b1 b2 a1)
      · obtain ⟨a, a1, _, a3, _⟩ := hrenb j h2
        obtain ⟨b1, b2, _⟩ := hold i h1
        rw [a3, hρold i (hI.blk i b1).1] at hij
        exact absurd hij (hsep i a b1 b2 a1)
      · obtain ⟨b1, _⟩ := hold i h1
        obtain ⟨b2, _⟩ := hold j h2
        rw [hρold i (hI.blk i b1).1, hρold j (hI.blk j b2).1] at hij
        exact hI.inj i j b1 b2 hij
    · intro b hb
      have hb : if L then e.im b else e2.im b := hb
      split at hb
      · exact hI.imo b hb
      · rcases hI'.imo b hb with h | h | h
        · rcases h with h | ⟨i, hf, rfl⟩
          · exact hI.imo b h
          · exact .inr (hI.blk i (frz_of hf).2.1).2.2.2
        · exact .inr (hnew b (.inl h))
        · exact .inr (hnew b (.inr h))
    · intro b hb
      exact hI'.imb b (him2' b hb)
    · intro id hid
      rcases hid with hid | ⟨h1, h2⟩
      · rw [hρold id hid]
        have := hI.rb id hid
        show e.ρ id < e2.w.heap.size
        omega
      · show (if n ≤ id then _ else _) < _
        rw [if_pos h1]
        exact hI'.rb _ h2
    · intro id hid
      obtain ⟨h1, h2⟩ := hI.low id hid
      exact ⟨.inl h1, (hρold id h1).trans h2⟩
  · rintro id (h | ⟨h1, h2⟩)
    · exact .inl h
    · refine .inr ⟨h1, ?_⟩
      have := Nat.lt_of_not_le (fun h => hD' _ h h2)
      omega
end Mv
