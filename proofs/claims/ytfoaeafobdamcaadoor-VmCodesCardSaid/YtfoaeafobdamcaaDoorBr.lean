/- From a contract to a call in a world. -/
import Derived.Test.YtfoaeafobdamcaaDoorT
import Derived.Carry
import Derived.Lib.LaidTab
import Derived.Deep.SlicePairs
import Derived.Test.YtfoaeafobdamcaaDoorDk
set_option linter.unusedSimpArgs false
set_option linter.unusedVariables false
namespace Mv
open Go

/-- What the values are held against when the call begins. -/
def env0 (M : Seat) (W : World) : Env where
  ρ := fun _ => 0
  D := fun _ => False
  im := fun b => ∃ cells el fz, W.heap[b]? = some (.cells cells el fz)
  w := W
  φ := M.φ
  τ := M.τ

theorem Inv.start (M : Seat) (W : World) (hg : GS M (env0 M W)) : Inv M ⟨env0 M W, fun b => ∃ id, hhas [] id = true ∧ (env0 M W).ρ id = b, 0⟩ (env0 M W) [] where
  ev := ⟨rfl, rfl, rfl, Nat.le_refl _, fun _ _ _ => rfl, fun _ => Nat.le_refl _⟩
  blk := fun id h => by simp [hhas] at h
  inj := fun i j h => by simp [hhas] at h
  imo := fun b h => .inl h
  imb := fun b h => h
  rb := fun id h => h.elim
  keep := fun b h => h
  low := fun id h => by simp at h
  gs := hg
  φ := rfl
  τ := rfl

theorem run_start {M : Seat} {f : Nat} {us : List V} {vs : Array Value} {Q : V → Hp → Nat → Prop} (hr : Runs M f us [] 0 Q) (W : World) (hg : GS M (env0 M W)) (ha : Args (env0 M W) us vs) :
    Calls M.P (M.φ f) vs W fun en W' => ∃ x v H' k' e', en = .returned x ∧ RV e' v x ∧ Q v H' k' ∧ RowKit.Below W.heap.size W W' := by
  refine (hr (env0 M W) vs (Inv.start M W hg) (fun id _ h => h) ha).mono ?_
  rintro en W' ⟨x, v, e', H', k', rfl, rfl, hI, hv, _, _, hQ⟩
  refine ⟨x, v, H', k', e', rfl, hv, hQ, hI.ev.os, hI.ev.tape, hI.ev.output, hI.ev.size, fun k hk => hI.ev.frame k hk ?_⟩
  rintro ⟨id, h, _⟩
  simp [hhas] at h

/-- A table, as the walk reads it. -/
theorem tab_R {M : Seat} {W : World} {name : String} {k : IntKind} {zs : List Int} {g : Nat} (h : Lib.TabIs M.P W name k zs) (hg : M.P.globalNamed name = some g) (hpos : 0 < zs.length) :
    R (env0 M W) (.imm (.ar 1 zs.length (fun i => .int k (zs.getD i 0)))) [.pointer (some ⟨g, 0, none⟩)] := by
  have hc : ∀ i, i < zs.length → W.cell? ⟨g, i, none⟩ = some (.int k (zs.getD i 0)) := fun i hi => h.cell hg i hi
  have h0 := hc 0 hpos
  simp only [R]
  cases hb : W.heap[g]? with
  | none => simp [World.cell?, hb] at h0
  | some o =>
    cases o with
    | cells c el fz =>
      have hci : ∀ i, i < zs.length → c[i]? = some (.int k (zs.getD i 0)) := fun i hi => by simpa [World.cell?, hb] using hc i hi
      have hsz : zs.length ≤ c.size := by
        have := hci (zs.length - 1) (by omega)
        have := (Array.getElem?_eq_some_iff.1 this).1
        omega
      refine ⟨g, 0, c, el, fz, rfl, ⟨c, el, fz, hb⟩, hb, by simp only [V.size]; omega, by simp [V.size]; omega, fun i hi => ⟨⟨rfl, rfl⟩, ?_⟩⟩
      simp only [V.size, Nat.mul_one, List.drop_zero]
      have h1 := hci i hi
      have h2 : c.toList[i]? = some (.int k (zs.getD i 0)) := by simpa using h1
      apply List.ext_getElem?
      intro j
      cases j with
      | zero => simp [List.getElem?_take, List.getElem?_drop, hi, h1]
      | succ j => simp [List.getElem?_take]
    | _ => simp [World.cell?, hb] at h0
end Mv
namespace Mv
open Go Go.ChangeShapes Go.WideShapes

theorem cell_R (e : Env) (c : BitVec 64 × BitVec 64) : R e (cellV c) [.int .u64 (c.1.toNat : Int), .int .u64 (c.2.toNat : Int)] := by
  simp [cellV, R, V.flo, V.chain, V.size, W, Value.oneCell']

theorem word_of {n : Int} (h : (Lit.int .u64 n).wf = true) : ∃ w : BitVec 64, n = (w.toNat : Int) := by
  have hb : 0 ≤ n ∧ n ≤ 18446744073709551615 := by simpa [Lit.wf, IntKind.min, IntKind.max, IntKind.signed, IntKind.bits] using h
  refine ⟨BitVec.ofNat 64 n.toNat, ?_⟩
  rw [BitVec.toNat_ofNat, Nat.mod_eq_of_lt (by omega)]
  omega

/-- A struct of two words, as an argument. -/
theorem cell_arg {H : Type} {enc : TypeId × Value → H} {M : Seat} {W : World} {e : TypeId} {f0 f1 : Field} {v : Value} {d : DataW H} {ps : List MemPlace} (he : M.P.underlying e = some (.struct #[f0, f1]))
    (ce : M.P.cellsOf e = 2) (o0 : f0.offset = 0) (o1 : f1.offset = 1) (u0 : M.P.underlying f0.type = some (.int .u64)) (u1 : M.P.underlying f1.type = some (.int .u64)) (c0 : M.P.cellsOf f0.type = 1) (c1 : M.P.cellsOf f1.type = 1)
    {base : Nat} (hok : Value.okWide M.P W .any base e v) (h : DataW.Trod enc M.P W 0 (fun _ => true) true e v d ps) : ∃ c, RV (env0 M W) (cellV c) v := by
  obtain ⟨cs, rfl, hsz⟩ := okWide_struct he hok
  obtain ⟨n, hn⟩ := h
  obtain ⟨xs, m, _, _, hl, hxl, hf⟩ := DataW.trod_struct he hn
  rw [ce] at hl
  have hl2 : cs.toList.length = 2 := by simpa [Value.cells] using hl
  match hcs : cs.toList, hl2 with
  | [a0, a1], _ =>
    have g0 := hf 0 f0 rfl
    have g1 := hf 1 f1 rfl
    have hcc : (Value.agg cs).cells.toList = [a0, a1] := by simpa [Value.cells] using hcs
    simp [o0, o1, c0, c1, hcc] at g0 g1
    match xs, hxl with
    | [y0, y1], _ =>
      simp at g0 g1
      obtain ⟨z0, e0, _, w0⟩ := DataW.trod_int u0 g0
      obtain ⟨z1, e1, _, w1⟩ := DataW.trod_int u1 g1
      simp only [List.cons.injEq, and_true] at e0 e1
      obtain ⟨b0, rfl⟩ := word_of w0
      obtain ⟨b1, rfl⟩ := word_of w1
      refine ⟨(b0, b1), ?_⟩
      rw [RV_solid rfl]
      refine ⟨cs.toList, by simp, ?_⟩
      rw [hcs, e0, e1]
      exact cell_R _ (b0, b1)

/-- A slice of such. -/
theorem cells_arg {H : Type} {enc : TypeId × Value → H} {M : Seat} {W : World} {t e : TypeId} {f0 f1 : Field} {v : Value} {d : DataW H} {ps : List MemPlace} (ht : M.P.underlying t = some (.slice e)) (he : M.P.underlying e = some (.struct #[f0, f1]))
    (ce : M.P.cellsOf e = 2) (o0 : f0.offset = 0) (o1 : f1.offset = 1) (u0 : M.P.underlying f0.type = some (.int .u64)) (u1 : M.P.underlying f1.type = some (.int .u64)) (c0 : M.P.cellsOf f0.type = 1) (c1 : M.P.cellsOf f1.type = 1)
    {base : Nat} (hok : Value.okWide M.P W .any base t v) (h : DataW.Trod enc M.P W 0 (fun _ => true) true t v d ps) : ∃ cs cv, (cv = cellsV cs ∨ (cv = .nils ∧ cs = [])) ∧ cs.length < 9223372036854775808 ∧ RV (env0 M W) cv v := by
  obtain ⟨a, len, cap, rfl⟩ := okWide_slice ht hok
  obtain ⟨n, hn⟩ := h
  rcases Deep.open_slice_pairs ht he ce o0 o1 c0 c1 hn with ⟨h1, _⟩ | ⟨a, len, cap, m, n', V0, V1, D0, D1, P0, P1, hcs, _, hlc, hcm, hm, _, hx⟩
  · simp [Value.cells] at h1
    obtain ⟨rfl, rfl, rfl⟩ := h1
    exact ⟨[], .nils, .inr ⟨rfl, rfl⟩, by simp, by simp [RV, RS, V.isAgg, R]⟩
  · simp [Value.cells] at hcs
    obtain ⟨rfl, rfl, rfl⟩ := hcs
    simp only [if_true] at hm
    subst hm
    have hz : ∀ i, i < m → ∃ c : BitVec 64 × BitVec 64, V0 i = .int .u64 (c.1.toNat : Int) ∧ V1 i = .int .u64 (c.2.toNat : Int) := by
      intro i hi
      obtain ⟨_, _, g0, g1⟩ := hx i hi
      obtain ⟨z0, e0, _, w0⟩ := DataW.trod_int u0 g0
      obtain ⟨z1, e1, _, w1⟩ := DataW.trod_int u1 g1
      simp only [List.cons.injEq, and_true] at e0 e1
      obtain ⟨b0, rfl⟩ := word_of w0
      obtain ⟨b1, rfl⟩ := word_of w1
      exact ⟨(b0, b1), e0, e1⟩
    obtain ⟨g, hg⟩ := Deep.choose_lt hz
    have hgl : ∀ j, j < len → ((List.range len).map g).getD j (0, 0) = g j := fun j hj => by simp [List.getD, List.getElem?_map, List.getElem?_range hj]
    refine ⟨(List.range len).map g, _, .inl rfl, ?_, ?_⟩
    · simp only [List.length_map, List.length_range]
      have : maxLen < 9223372036854775808 := by decide
      omega
    · simp only [cellsV, List.length_map, List.length_range]
      rw [RV_solid rfl]
      simp only [RS, V.isAgg, R]
      refine ⟨_, _, rfl, hlc, fun hpos => ?_⟩
      have h0 := (hx 0 (by omega)).1
      obtain ⟨b, o, sp⟩ := a
      have ha0 : (⟨b, o, sp⟩ : Addr).add (0 * 2) = ⟨b, o, sp⟩ := by simp [Addr.add]
      rw [ha0] at h0
      cases hb : W.heap[b]? with
      | none => simp [World.cell?, hb] at h0
      | some ob =>
        cases ob with
        | cells c el fz =>
          cases sp with
          | some s => simp [World.cell?, hb] at h0
          | none =>
            have hadd : ∀ k, (⟨b, o, none⟩ : Addr).add k = ⟨b, o + k, none⟩ := by
              intro k
              unfold Addr.add
              split
              · rename_i h; subst h; rfl
              · rfl
            simp only [hadd] at hx
            have hc0 : ∀ i, i < m → c[o + i * 2]? = some (V0 i) := fun i hi => by simpa [World.cell?, hb] using (hx i hi).1
            have hc1 : ∀ i, i < m → c[o + i * 2 + 1]? = some (V1 i) := fun i hi => by simpa [World.cell?, hb, Nat.add_assoc] using (hx i hi).2.1
            have hsz : o + len * 2 ≤ c.size := by
              have := (Array.getElem?_eq_some_iff.1 (hc1 (len - 1) (by omega))).1
              omega
            refine ⟨b, o, c, el, fz, rfl, ⟨c, el, fz, hb⟩, hb, hsz, fun i hi => ⟨⟨rfl, rfl⟩, ?_⟩⟩
            rw [hgl i hi]
            have e2 : (c.toList.drop (o + i * 2)).take 2 = [V0 i, V1 i] := by
              have a0 : c.toList[o + i * 2]? = some (V0 i) := by simpa using hc0 i (by omega)
              have a1 : c.toList[o + i * 2 + 1]? = some (V1 i) := by simpa using hc1 i (by omega)
              apply List.ext_getElem?
              intro j
              match j with
              | 0 => simp [List.getElem?_take, List.getElem?_drop, hc0 i (by omega)]
              | 1 => simp [List.getElem?_take, List.getElem?_drop, hc1 i (by omega)]
              | j + 2 => (simp [List.getElem?_take]; try omega)
            rw [e2, (hg i (by omega)).1, (hg i (by omega)).2]
            exact cell_R _ (g i)
        | _ => simp [World.cell?, hb] at h0
end Mv
namespace Mv
open Go Go.ChangeShapes Go.WideShapes

theorem word_arg {H : Type} {enc : TypeId × Value → H} {M : Seat} {W : World} {t : TypeId} {v : Value} {d : DataW H} {ps : List MemPlace} (ht : M.P.underlying t = some (.int .u64))
    {base : Nat} (hok : Value.okWide M.P W .any base t v) (h : DataW.Trod enc M.P W 0 (fun _ => true) true t v d ps) : ∃ w : BitVec 64, RV (env0 M W) (Mv.W w) v := by
  obtain ⟨n, rfl⟩ := okWide_int ht hok
  obtain ⟨m, hm⟩ := h
  obtain ⟨z, e0, _, wz⟩ := DataW.trod_int ht hm
  simp only [Value.cells, List.cons.injEq, and_true, Value.int.injEq, true_and] at e0
  subst e0
  obtain ⟨b, rfl⟩ := word_of wz
  exact ⟨b, by simp [Mv.W, RV, RS, V.isAgg, R]⟩

theorem int_arg {H : Type} {enc : TypeId × Value → H} {M : Seat} {W : World} {t : TypeId} {k : IntKind} {v : Value} {d : DataW H} {ps : List MemPlace} (ht : M.P.underlying t = some (.int k))
    {base : Nat} (hok : Value.okWide M.P W .any base t v) (h : DataW.Trod enc M.P W 0 (fun _ => true) true t v d ps) : ∃ n : Int, (Lit.int k n).wf = true ∧ RV (env0 M W) (.int k n) v := by
  obtain ⟨n, rfl⟩ := okWide_int ht hok
  obtain ⟨m, hm⟩ := h
  obtain ⟨z, e0, _, wz⟩ := DataW.trod_int ht hm
  simp only [Value.cells, List.cons.injEq, and_true, Value.int.injEq, true_and] at e0
  subst e0
  exact ⟨n, wz, by simp [RV, RS, V.isAgg, R]⟩

theorem bool_arg {H : Type} {enc : TypeId × Value → H} {M : Seat} {W : World} {t : TypeId} {v : Value} {d : DataW H} {ps : List MemPlace} (ht : M.P.underlying t = some .bool)
    {base : Nat} (hok : Value.okWide M.P W .any base t v) (_h : DataW.Trod enc M.P W 0 (fun _ => true) true t v d ps) : ∃ b : Bool, RV (env0 M W) (.bool b) v := by
  obtain ⟨b, rfl⟩ := okWide_bool ht hok
  exact ⟨b, by simp [RV, RS, V.isAgg, R]⟩

theorem words_arg {H : Type} {enc : TypeId × Value → H} {M : Seat} {W : World} {t e : TypeId} {v : Value} {d : DataW H} {ps : List MemPlace} (ht : M.P.underlying t = some (.slice e)) (he : M.P.underlying e = some (.int .u64)) (ce : M.P.cellsOf e = 1)
    {base : Nat} (hok : Value.okWide M.P W .any base t v) (h : DataW.Trod enc M.P W 0 (fun _ => true) true t v d ps) : ∃ cs cv, (cv = wordsV cs ∨ (cv = .nils ∧ cs = [])) ∧ cs.length < 9223372036854775808 ∧ RV (env0 M W) cv v := by
  obtain ⟨a, len, cap, rfl⟩ := okWide_slice ht hok
  obtain ⟨n, hn⟩ := h
  rcases Deep.open_slice1 ht ce hn with ⟨h1, _⟩ | ⟨a, len, cap, m, n', V0, D0, P0, hcs, _, hlc, hcm, hm, _, hx⟩
  · simp [Value.cells] at h1
    obtain ⟨rfl, rfl, rfl⟩ := h1
    exact ⟨[], .nils, .inr ⟨rfl, rfl⟩, by simp, by simp [RV, RS, V.isAgg, R]⟩
  · simp [Value.cells] at hcs
    obtain ⟨rfl, rfl, rfl⟩ := hcs
    simp only [if_true] at hm
    subst hm
    have hz : ∀ i, i < m → ∃ c : BitVec 64, V0 i = .int .u64 (c.toNat : Int) := by
      intro i hi
      obtain ⟨_, g0⟩ := hx i hi
      obtain ⟨z0, e0, _, w0⟩ := DataW.trod_int he g0
      simp only [List.cons.injEq, and_true] at e0
      obtain ⟨b0, rfl⟩ := word_of w0
      exact ⟨b0, e0⟩
    obtain ⟨g, hg⟩ := Deep.choose_lt hz
    have hgl : ∀ j, j < len → ((List.range len).map g).getD j 0 = g j := fun j hj => by simp [List.getD, List.getElem?_map, List.getElem?_range hj]
    refine ⟨(List.range len).map g, _, .inl rfl, ?_, ?_⟩
    · simp only [List.length_map, List.length_range]
      have : maxLen < 9223372036854775808 := by decide
      omega
    · simp only [wordsV, List.length_map, List.length_range]
      rw [RV_solid rfl]
      simp only [RS, V.isAgg, R]
      refine ⟨_, _, rfl, hlc, fun hpos => ?_⟩
      have h0 := (hx 0 (by omega)).1
      obtain ⟨b, o, sp⟩ := a
      have ha0 : (⟨b, o, sp⟩ : Addr).add 0 = ⟨b, o, sp⟩ := by simp [Addr.add]
      rw [ha0] at h0
      cases hb : W.heap[b]? with
      | none => simp [World.cell?, hb] at h0
      | some ob =>
        cases ob with
        | cells c el fz =>
          cases sp with
          | some s => simp [World.cell?, hb] at h0
          | none =>
            have hadd : ∀ k, (⟨b, o, none⟩ : Addr).add k = ⟨b, o + k, none⟩ := by
              intro k
              unfold Addr.add
              split
              · rename_i h; subst h; rfl
              · rfl
            simp only [hadd] at hx
            have hc0 : ∀ i, i < m → c[o + i]? = some (V0 i) := fun i hi => by simpa [World.cell?, hb] using (hx i hi).1
            have hsz : o + len * 1 ≤ c.size := by
              have := (Array.getElem?_eq_some_iff.1 (hc0 (len - 1) (by omega))).1
              omega
            refine ⟨b, o, c, el, fz, rfl, ⟨c, el, fz, hb⟩, hb, hsz, fun i hi => ⟨⟨rfl, rfl⟩, ?_⟩⟩
            rw [ws_at, hgl i hi]
            have e2 : (c.toList.drop (o + i * 1)).take 1 = [V0 i] := by
              have a0 : c.toList[o + i]? = some (V0 i) := by simpa using hc0 i (by omega)
              apply List.ext_getElem?
              intro j
              match j with
              | 0 => simp [List.getElem?_take, List.getElem?_drop, hc0 i (by omega)]
              | j + 1 => simp [List.getElem?_take]
            rw [e2, hg i (by omega)]
            simp [Mv.W, R]
        | _ => simp [World.cell?, hb] at h0
end Mv
