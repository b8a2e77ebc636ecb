/- errors.As, from what the model does to a contract. -/
import Derived.Test.YtfoaeafobdamcaaDoorMwNa
import Derived.Test.YtfoaeafobdamcaaDoorBr
set_option linter.unusedSimpArgs false
set_option linter.unusedVariables false
namespace Mv
open Go

theorem Inv.garb {M : Seat} {c : Ctx} {e : Env} {H : Hp} (h : Inv M c e H) (o : Obj) : e.le { e with w := e.w.alloc o } ∧ Inv M c { e with w := e.w.alloc o } H := by
  have hle : e.le { e with w := e.w.alloc o } := ⟨fun i hi => ⟨hi, rfl⟩, fun b hb => ⟨hb, fun cl el fz hc => ⟨el, fz, by show (e.w.alloc o).heap[b]? = _; rw [heap_alloc_lt _ _ (h.imlt b hb)]; exact hc⟩⟩, fun b => bsize_alloc _ _ b, rfl, rfl⟩
  refine ⟨hle, ?_, fun id hid => ?_, h.inj, h.imo, fun b hb => ?_, fun id hid => ?_, h.keep, h.low, h.gs.mono hle, h.φ, h.τ⟩
  · exact h.ev.trans (O' := fun _ => False) ⟨rfl, rfl, rfl, by simp, fun b hb _ => heap_alloc_lt _ _ hb, fun b => bsize_alloc _ _ b⟩ (fun _ hf => hf.elim)
  · obtain ⟨h1, h2, h3, h4⟩ := h.blk id hid
    exact ⟨h1, BlkOK_mono hle h1 (heap_alloc_lt _ _ (h.rb id h1)) h2, h3, h4⟩
  · obtain ⟨cells, el, fz, hc⟩ := h.imb b hb
    exact ⟨cells, el, fz, by show (e.w.alloc o).heap[b]? = _; rw [heap_alloc_lt _ _ (h.imlt b hb)]; exact hc⟩
  · have := h.rb id hid
    show e.ρ id < (e.w.alloc o).heap.size
    simp; omega

theorem raw_cell {M : Seat} {c : Ctx} {e : Env} {H : Hp} (h : Inv M c e H) {b : Nat} {v : Value} (hr : (b, v) ∈ M.raw) : e.w.cell? ⟨b, 0, none⟩ = some v := by
  obtain ⟨_, cl, el, fz, h1, h2⟩ := h.gs.2 _ hr
  simp [World.cell?, h1, h2]

theorem one_cell {M : Seat} {c : Ctx} {e : Env} {H : Hp} (h : Inv M c e H) {id : Nat} (hid : hhas H id = true) (hs : (hget H id).solid = true) (h1 : (hget H id).size = 1) :
    ∃ x cells el, R e (hget H id) [x] ∧ e.w.heap[e.ρ id]? = some (.cells cells el (0, 0)) ∧ 0 < cells.size ∧ e.w.cell? ⟨e.ρ id, 0, none⟩ = some x ∧ e.w.frozen? ⟨e.ρ id, 0, none⟩ = false := by
  obtain ⟨cells, el, hc, hsz, hR⟩ := h.cells hid hs
  rw [h1] at hsz hR
  have hlt : 0 < cells.size := by omega
  have e1 : cells.toList.take 1 = [cells[0]] := by
    rcases cells with ⟨l⟩
    cases l with
    | nil => simp at hlt
    | cons y r => simp
  rw [e1] at hR
  refine ⟨cells[0], cells, el, hR, hc, hlt, ?_, ?_⟩
  · simp [World.cell?, hc, hlt]
  · simp [World.frozen?, hc]

theorem as1_of {M : Seat} {g : Nat} {gv : Value} (hg : (g, gv) ∈ M.raw)
    (h : ∀ (n : Int) (t : Addr) (old : Value) (w : World), w.cell? ⟨g, 0, none⟩ = some gv → w.cell? t = some old → w.frozen? t = false →
      Calls M.P (M.φ 93) #[.iface (M.τ 74) (.int .i64 n), .iface (M.τ 394) (.pointer (some t))] w fun ev w' => ev = .returned (.bool true) ∧ ∃ o1 o2 o3 o4, w' = ((((w.alloc o1).alloc o2).alloc o3).alloc o4).setCell t (.int .i64 n)) (a b : Int) :
    Runs M 93 [erN a, .ifc 394 (.ptr 0 [])] [(0, .int .i64 b)] 1 (fun r H' k' => r = .bool true ∧ H' = [(0, .int .i64 a)] ∧ k' = 1) := by
  intro e vs hI hD ⟨hvs, hargs⟩
  obtain ⟨v0, v1, rfl⟩ : ∃ v0 v1, vs = #[v0, v1] := by
    match vs, hvs with
    | ⟨[v0, v1]⟩, _ => exact ⟨v0, v1, rfl⟩
  have h0 := hargs 0
  have h1 := hargs 1
  simp only [List.getD_cons_zero, List.getD_cons_succ, RV, RS, V.isAgg, R, List.cons.injEq, and_true] at h0 h1
  obtain ⟨x0, k0, _, rfl⟩ := h0
  obtain ⟨x1, k1, _, _, rfl⟩ := h1
  have e0 : v0 = .iface (M.τ 74) (.int .i64 a) := by rw [← hI.τ]; simpa using k0
  have e1 : v1 = .iface (M.τ 394) (.pointer (some ⟨e.ρ 0, 0, none⟩)) := by rw [← hI.τ]; simpa [offOf] using k1
  subst e0 e1
  obtain ⟨x, cells, el, hx, hc, hlt, hcell, hfz⟩ := one_cell hI (id := 0) rfl rfl rfl
  refine (h a ⟨e.ρ 0, 0, none⟩ x e.w (raw_cell hI hg) hcell hfz).mono ?_
  rintro en w' ⟨rfl, o1, o2, o3, o4, rfl⟩
  obtain ⟨l1, I1⟩ := hI.garb o1
  obtain ⟨l2, I2⟩ := I1.garb o2
  obtain ⟨l3, I3⟩ := I2.garb o3
  obtain ⟨l4, I4⟩ := I3.garb o4
  have hr : e.ρ 0 < e.w.heap.size := hI.rb 0 (hI.blk 0 rfl).1
  have hc4 : ((((e.w.alloc o1).alloc o2).alloc o3).alloc o4).heap[e.ρ 0]? = some (.cells cells el (0, 0)) := by
    rw [heap_alloc_lt _ _ (by simp; omega), heap_alloc_lt _ _ (by simp; omega), heap_alloc_lt _ _ (by simp; omega), heap_alloc_lt _ _ hr]; exact hc
  obtain ⟨l5, I5⟩ := I4.row (id := 0) rfl hc4 (new := cells.setIfInBounds 0 (.int .i64 a)) (by simp) (z := .int .i64 a) rfl (by simp only [V.size, Array.size_setIfInBounds]; omega) (by
    have : (cells.setIfInBounds 0 (Value.int .i64 a)).toList.take 1 = [Value.int .i64 a] := by
      rcases cells with ⟨l⟩
      cases l with
      | nil => simp at hlt
      | cons y r => simp
    show R _ (.int .i64 a) ((cells.setIfInBounds 0 (Value.int .i64 a)).toList.take 1)
    rw [this]; simp only [R])
  rw [setCell_eq_setRow _ _ _ cells el (0, 0) _ hc4]
  refine ⟨_, .bool true, _, [(0, .int .i64 a)], 1, rfl, rfl, I5, ?_, hD, Nat.le_refl _, rfl, rfl, rfl⟩
  simp [RV, RS, V.isAgg, R]

theorem as2_of {M : Seat} {g : Nat} {gv : Value} (hg : (g, gv) ∈ M.raw)
    (h : ∀ (n : Int) (t : Addr) (w : World), w.cell? ⟨g, 0, none⟩ = some gv →
      Calls M.P (M.φ 93) #[.iface (M.τ 74) (.int .i64 n), .iface (M.τ 147) (.pointer (some t))] w fun ev w' => ev = .returned (.bool false) ∧ ∃ o1 o2 o3, w' = ((w.alloc o1).alloc o2).alloc o3) (a : Int) :
    Runs M 93 [erN a, .ifc 147 (.ptr 0 [])] [(0, .nilp)] 1 (fun r H' k' => r = .bool false ∧ H' = [(0, .nilp)] ∧ k' = 1) := by
  intro e vs hI hD ⟨hvs, hargs⟩
  obtain ⟨v0, v1, rfl⟩ : ∃ v0 v1, vs = #[v0, v1] := by
    match vs, hvs with
    | ⟨[v0, v1]⟩, _ => exact ⟨v0, v1, rfl⟩
  have h0 := hargs 0
  have h1 := hargs 1
  simp only [List.getD_cons_zero, List.getD_cons_succ, RV, RS, V.isAgg, R, List.cons.injEq, and_true] at h0 h1
  obtain ⟨x0, k0, _, rfl⟩ := h0
  obtain ⟨x1, k1, _, _, rfl⟩ := h1
  have e0 : v0 = .iface (M.τ 74) (.int .i64 a) := by rw [← hI.τ]; simpa using k0
  have e1 : v1 = .iface (M.τ 147) (.pointer (some ⟨e.ρ 0, 0, none⟩)) := by rw [← hI.τ]; simpa [offOf] using k1
  subst e0 e1
  refine (h a ⟨e.ρ 0, 0, none⟩ e.w (raw_cell hI hg)).mono ?_
  rintro en w' ⟨rfl, o1, o2, o3, rfl⟩
  obtain ⟨l1, I1⟩ := hI.garb o1
  obtain ⟨l2, I2⟩ := I1.garb o2
  obtain ⟨l3, I3⟩ := I2.garb o3
  refine ⟨_, .bool false, _, [(0, .nilp)], 1, rfl, rfl, I3, ?_, hD, Nat.le_refl _, rfl, rfl, rfl⟩
  simp [RV, RS, V.isAgg, R]
end Mv
