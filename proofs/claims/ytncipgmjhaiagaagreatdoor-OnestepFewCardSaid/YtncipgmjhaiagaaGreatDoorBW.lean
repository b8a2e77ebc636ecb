/- A part. -/
import Derived.Test.YtncipgmjhaiagaaGreatDoorBV
import Derived.KernelRfl
import Derived.Carry
import Derived.Lib.LaidTab
import Derived.Deep.SlicePairs
import Derived.Test.YtncipgmjhaiagaaGreatDoorRows
import Derived.OpenShut
set_option linter.all false
set_option maxRecDepth 200000
set_option maxHeartbeats 80000000
namespace Mv
open Go
structure OkFew (M : Seat) : Prop where
 at_ : OkAt M
 f : OkF15 M
 k21 : Al M 21 f21 = true
theorem WB (g : Nat → BitVec 64) (pc : BitVec 64) (b : Bool) (xt : BitVec 64) : AH false (ES.st (ES.cons 0 16 true (ES.ar 16 1 false ES.int) (ES.cons 16 1 false ES.int (ES.cons 17 1 false ES.bool (ES.cons 18 1 false ES.int ES.nil))))) (.st 19 (.fcons 0 (.ar 1 16 fun j => W (g j)) (.fcons 16 (W pc) (.fcons 17 (.bool b) (.fcons 18 (W xt) .fnil))))) (.st 19 (.fcons 0 (.ar 1 16 fun j => W (g j)) (.fcons 16 (W pc) (.fcons 17 (.bool b) (.fcons 18 (W xt) .fnil))))) = True := by
 simp [AH, W, V.fget, V.fhas]
 refine ⟨⟨⟨rfl, rfl, rfl⟩, fun _ _ => rfl⟩, ⟨rfl, rfl, rfl⟩, ⟨rfl, rfl, rfl⟩, rfl, rfl, rfl⟩
theorem Yq (g : Nat → BitVec 64) (pc : BitVec 64) (b : Bool) (xt : BitVec 64) : AN (ES.st (ES.cons 0 16 true (ES.ar 16 1 false ES.int) (ES.cons 16 1 false ES.int (ES.cons 17 1 false ES.bool (ES.cons 18 1 false ES.int ES.nil))))) (.st 19 (.fcons 0 (.ar 1 16 fun j => W (g j)) (.fcons 16 (W pc) (.fcons 17 (.bool b) (.fcons 18 (W xt) .fnil))))) (.st 19 (.fcons 0 (.ar 1 16 fun j => W (g j)) (.fcons 16 (W pc) (.fcons 17 (.bool b) (.fcons 18 (W xt) .fnil))))) = true := by
 simp [AN, W, V.fget, V.fhas]
theorem few {M : Seat} (ok : OkFew M) (hne : ¬ LE.com = D2.com) (v rv : V) (hvv : ∀ H m z, Bd H m z v v) (hrr : ∀ H m z, Bd H m z rv rv) (k : Int) (to : BitVec 64) (w : WS) (sl : List (Dg × Bool)) (q : Nat → Dg) (f g : Nat → BitVec 64) (pc xt : BitVec 64) (dmm : Mc) (h d : Bool) (p : BitVec 64) (b : Bool) (hp : p = if 8192#64 ≤ to then to else pc) (hb : (h || d) = b)
 (hA : Af M 95 [v, rv, .nils, .int .i64 k] [] 0 (Q3 (BD (.ptr 5 []) (.ptr 0 []) (.ptr 7 [])) (Nh ⟨w, sl, 0, q, ⟨f, g, pc, h, xt⟩⟩ ++ dm dmm) 14)) :
 Af M 21 [v, rv, .int .i64 k, W to, .bool d] [] 0 (Q3 (.bool true) [] 0) := by
 have hF := HW ok.f hne
 have hFv : ∀ m : Mc, m.v = mach m.f m.g m.pc m.hl m.xt := fun _ => rfl
 have hP := Mz ok.f.o ⟨f, g, p, b, xt⟩ w.pres 0
 have hW := XA w.pres ⟨f, g, p, b, xt⟩
 have hH := Cl ok.f.o.d f g p b xt
 generalize Ei w.pres ⟨f, g, p, b, xt⟩ = R at *
 obtain ⟨e, L, P⟩ := R
 obtain ⟨h1, h2, h3, h4⟩ := hW
 dsimp only at h1 h2 h3 h4 hP
 refine Ac ok.k21 rfl fun x hx => ?_
 cases e with
 | some e =>
   simp only [Lbm, Av] at hP
   obtain ⟨hbf, h1'⟩ := h1 Bu
   have hlt : (p < 8192#64) = True := eq_true (by rw [BitVec.lt_def]; rw [BitVec.le_def] at h1'; omega)
   cases h <;> cases d <;> cases b <;> (first | exact absurd hb Ak | by_cases ht : 8192#64 ≤ to)
   all_goals
    simp only [ht, CD] at hp
    subst hp
    first
    | exact absurd hbf Ak
    | (refine es 2000 ?_; (simp only [f21, c21, LZ, seval])
       have zz := aq6 SB hFv @BD.eq_1 GM hvv hrr; refine El (hA) ?_
       (simp only [Qg, hFv, dm, Fj, BD, AR, LM, seval])
       refine Ah (hF) ?_
       (simp only [Qg, hFv, dm, Fj, BD, LM, ht, seval])
       have zz := aq5 @EA.eq_1 hFv @mach.eq_1 PR Jl; refine IJ [69, 64, 65, 66, 68] [69, 64, 65] (hP) ?_
       (simp only [EA, hFv, mach, LW, Jl, hlt, seval])
       exact Aq.mkZ hx [] ⟨rfl, rfl, rfl⟩)
 | none =>
   simp only [Lbm, Bz] at hP
   generalize Bm f 13 0 = R0 at *
   obtain ⟨I, hI⟩ : ∃ I : Hp, I = [(0, mach f g p b xt), (1, .st 116 (.fcons 0 (dg R0) (.fcons 32 (.st 19 (.fcons 0 (.ar 1 16 (fun j => W (g j))) (.fcons 16 (W p) (.fcons 17 (.bool b) (.fcons 18 (W xt) .fnil))))) (.fcons 51 (.lst 2 L.length (Dz L)) (.fcons 52 (At P) .fnil)))))] := ⟨_, rfl⟩
   cases h <;> cases d <;> cases b <;> (first | exact absurd hb Ak | by_cases ht : 8192#64 ≤ to)
   all_goals
    simp only [ht, CD] at hp
    subst hp
    refine es 2000 ?_; (simp only [f21, c21, LZ, seval])
    have zz := aq6 SB hFv @BD.eq_1 GM hvv hrr; refine El (hA) ?_
    (simp only [Qg, hFv, dm, Fj, BD, AR, LM, seval])
    refine Ah (hF) ?_
    (simp only [Qg, hFv, dm, Fj, BD, LM, ht, seval])
    have zz := aq5 @EA.eq_1 hFv @mach.eq_1 PR Jl; refine IJ [69, 64, 65, 66, 68] [69, 64, 65] (hP) ?_
    (simp only [EA, hFv, mach, LW, Jl, seval])
    refine Ag (σ := Nat) (fun i => i ≤ L.length) (fun i => fr 118 [(11, .ptr 0 []), (14, .ptr 1 []), (70, .lst 2 L.length (Dz L)), (71, .int .i64 L.length), (72, .int .i64 i)])
     (fun _ => I) (fun _ => 2) (fun i => L.length - i) 0 Aa ?_ ?_
    all_goals subst hI
    ·first
     | (refine Aj.fr [69, 592] [] hx Ax Ak ?_ ?_
        ·simp only [Ca, LY, seval]
        ·simp only [mach, Jl, CF, seval]
         done)
     | (refine Aj.fr [69, 672] [] hx Ax Ak ?_ ?_
        ·simp only [Ca, LY, seval]
        ·simp only [mach, Jl, CF, seval]
         done)
    ·intro i hi
     refine es 2000 ?_
     by_cases hin : i = L.length
     ·subst hin
      have d0 : ((L.length : Int) < (L.length : Int)) = False := eq_false Aa
      (simp only [d0, Ga, Fq, seval])
      have hl13 : ((L.length : Int) ≤ 13) = True := eq_true Aa
      have zz := aq2 @mach.eq_1 @AU.eq_1; refine CI (hH) ?_
      by_cases hq : 8192#64 ≤ p
      case' pos => have hL : ((L.length : Int) = 0) = True := eq_true (by have := h4.2 (.inr hq); omega)
      case' neg => first | have hL : ((L.length : Int) = 0) = True := eq_true (by have := h4.2 (.inl rfl); omega) | have hL : ((L.length : Int) = 0) = False := eq_false (fun h => absurd (h4.1 Aa) (by simp [hq]))
      all_goals
       (simp only [Cb, AU, WB, Yq, hq, hL, hl13, seval])
       repeat refine sd ?_
       exact Aq.mkZ hx [] ⟨rfl, rfl, rfl⟩
     ·have d0 : ((i : Int) < (L.length : Int)) = True := eq_true Aa
      have w0 : IntKind.i64.wrap ((i : Int) + 1) = ((i + 1 : Nat) : Int) := A9
      have hp : (((L.getD i default).p.length : Int) = 13) = True := by
       have hm : L.getD i default ∈ L := by rw [List.getD_eq_getElem?_getD, List.getElem?_eq_getElem Aa]; exact List.getElem_mem _
       exact eq_true (by rw [h3 _ hm]; rfl)
      (simp only [d0, w0, Ga, Fq, Dz, Ir, hp, seval])
      repeat refine sd ?_
      refine ⟨i + 1, by omega, by omega, ?_⟩
      refine Aj.fr [0, 1] [] hx Ax Ak ?_ ?_
      ·simp only [Ca, LY, seval]
      ·simp only [mach, Jl, CF, seval]
theorem Anl {M : Seat} (ok : OkFew M) (hne : ¬ LE.com = D2.com) (v rv : V) (hvv : ∀ H m z, Bd H m z v v) (hrr : ∀ H m z, Bd H m z rv rv) (k : Int) (to : BitVec 64) (w : WS) (sl : List (Dg × Bool)) (n : Nat)(q : Nat → Dg) (f g : Nat → BitVec 64) (pc xt : BitVec 64) (dmm : Mc) (h d : Bool) (p : BitVec 64) (b : Bool) (hp : p = if 8192#64 ≤ to then to else pc) (hb : (h || d) = b)
 (hA : Af M 95 [v, rv, .nils, .int .i64 k] [] 0 (Q3 (BD (.ptr 5 []) (.ptr 0 []) (.ptr 7 [])) (Sh 6 ⟨w, sl, n, q, ⟨f, g, pc, h, xt⟩⟩ ++ dm dmm) 14)) :
 Af M 21 [v, rv, .int .i64 k, W to, .bool d] [] 0 (Q3 (.bool true) [] 0) := by
 have hF := HW ok.f hne
 have hFv : ∀ m : Mc, m.v = mach m.f m.g m.pc m.hl m.xt := fun _ => rfl
 have hP := UY ok.f.o ⟨f, g, p, b, xt⟩ w.pres n
 have hW := XA w.pres ⟨f, g, p, b, xt⟩
 have hH := Cl ok.f.o.d f g p b xt
 generalize Ei w.pres ⟨f, g, p, b, xt⟩ = R at *
 obtain ⟨e, L, P⟩ := R
 obtain ⟨h1, h2, h3, h4⟩ := hW
 dsimp only at h1 h2 h3 h4 hP
 refine Ac ok.k21 rfl fun x hx => ?_
 cases e with
 | some e =>
   simp only [Lbm, Av] at hP
   obtain ⟨hbf, h1'⟩ := h1 Bu
   have hlt : (p < 8192#64) = True := eq_true (by rw [BitVec.lt_def]; rw [BitVec.le_def] at h1'; omega)
   cases h <;> cases d <;> cases b <;> (first | exact absurd hb Ak | by_cases ht : 8192#64 ≤ to)
   all_goals
    simp only [ht, CD] at hp
    subst hp
    first
    | exact absurd hbf Ak
    | (refine es 2000 ?_; (simp only [f21, c21, LZ, seval])
       have zz := aq6 SB hFv @BD.eq_1 GM hvv hrr; refine El (hA) ?_
       (simp only [Qg, hFv, dm, Fj, BD, AR, LM, seval])
       refine Ah (hF) ?_
       (simp only [Qg, hFv, dm, Fj, BD, LM, ht, seval])
       have zz := aq5 @EA.eq_1 hFv @mach.eq_1 PR Jl; refine IJ [69, 64, 65, 66, 68, 70] [69, 64, 65] (hP) ?_
       (simp only [EA, hFv, mach, LW, Jl, hlt, seval])
       exact Aq.mkZ hx [] ⟨rfl, rfl, rfl⟩)
 | none =>
   simp only [Lbm, Bz] at hP
   generalize Bm f 13 0 = R0 at *
   obtain ⟨I, hI⟩ : ∃ I : Hp, I = [(0, mach f g p b xt), (1, .st 116 (.fcons 0 (dg R0) (.fcons 32 (.st 19 (.fcons 0 (.ar 1 16 (fun j => W (g j))) (.fcons 16 (W p) (.fcons 17 (.bool b) (.fcons 18 (W xt) .fnil))))) (.fcons 51 (.lst 2 L.length (Dz L)) (.fcons 52 (At P) .fnil)))))] := ⟨_, rfl⟩
   cases h <;> cases d <;> cases b <;> (first | exact absurd hb Ak | by_cases ht : 8192#64 ≤ to)
   all_goals
    simp only [ht, CD] at hp
    subst hp
    refine es 2000 ?_; (simp only [f21, c21, LZ, seval])
    have zz := aq6 SB hFv @BD.eq_1 GM hvv hrr; refine El (hA) ?_
    (simp only [Qg, hFv, dm, Fj, BD, AR, LM, seval])
    refine Ah (hF) ?_
    (simp only [Qg, hFv, dm, Fj, BD, LM, ht, seval])
    have zz := aq5 @EA.eq_1 hFv @mach.eq_1 PR Jl; refine IJ [69, 64, 65, 66, 68, 70] [69, 64, 65] (hP) ?_
    (simp only [EA, hFv, mach, LW, Jl, seval])
    refine Ag (σ := Nat) (fun i => i ≤ L.length) (fun i => fr 118 [(11, .ptr 0 []), (14, .ptr 1 []), (70, .lst 2 L.length (Dz L)), (71, .int .i64 L.length), (72, .int .i64 i)])
     (fun _ => I) (fun _ => 2) (fun i => L.length - i) 0 Aa ?_ ?_
    all_goals subst hI
    ·first
     | (refine Aj.fr [69, 592] [] hx Ax Ak ?_ ?_
        ·simp only [Ca, LY, seval]
        ·simp only [mach, Jl, CF, seval]
         done)
     | (refine Aj.fr [69, 672] [] hx Ax Ak ?_ ?_
        ·simp only [Ca, LY, seval]
        ·simp only [mach, Jl, CF, seval]
         done)
    ·intro i hi
     refine es 2000 ?_
     by_cases hin : i = L.length
     ·subst hin
      have d0 : ((L.length : Int) < (L.length : Int)) = False := eq_false Aa
      (simp only [d0, Ga, Fq, seval])
      have hl13 : ((L.length : Int) ≤ 13) = True := eq_true Aa
      have zz := aq2 @mach.eq_1 @AU.eq_1; refine CI (hH) ?_
      by_cases hq : 8192#64 ≤ p
      case' pos => have hL : ((L.length : Int) = 0) = True := eq_true (by have := h4.2 (.inr hq); omega)
      case' neg => first | have hL : ((L.length : Int) = 0) = True := eq_true (by have := h4.2 (.inl rfl); omega) | have hL : ((L.length : Int) = 0) = False := eq_false (fun h => absurd (h4.1 Aa) (by simp [hq]))
      all_goals
       (simp only [Cb, AU, WB, Yq, hq, hL, hl13, seval])
       repeat refine sd ?_
       exact Aq.mkZ hx [] ⟨rfl, rfl, rfl⟩
     ·have d0 : ((i : Int) < (L.length : Int)) = True := eq_true Aa
      have w0 : IntKind.i64.wrap ((i : Int) + 1) = ((i + 1 : Nat) : Int) := A9
      have hp : (((L.getD i default).p.length : Int) = 13) = True := by
       have hm : L.getD i default ∈ L := by rw [List.getD_eq_getElem?_getD, List.getElem?_eq_getElem Aa]; exact List.getElem_mem _
       exact eq_true (by rw [h3 _ hm]; rfl)
      (simp only [d0, w0, Ga, Fq, Dz, Ir, hp, seval])
      repeat refine sd ?_
      refine ⟨i + 1, by omega, by omega, ?_⟩
      refine Aj.fr [0, 1] [] hx Ax Ak ?_ ?_
      ·simp only [Ca, LY, seval]
      ·simp only [mach, Jl, CF, seval]
theorem Js {M : Seat} (ok : OkFew M) (hne : ¬ LE.com = D2.com) (l : List In) (v : V) (hv : Aer l v) (hl : l.length < 9223372036854775808) (rs : List (BitVec 64)) (rv : V) (hr : rv = Bn rs ∨ (rv = .nils ∧ rs = [])) (hrl : rs.length < 9223372036854775808) (k : Int) (to : BitVec 64) (hd : Bool) :
 Af M 21 [v, rv, .int .i64 k, W to, .bool hd] [] 0 (Q3 (.bool true) [] 0) := by
 have hvv : ∀ H m z, Bd H m z v v := by
  intro H m z
  rcases hv with rfl | ⟨rfl, -⟩ <;> simp only [MK, LY, seval]
 have hrr : ∀ H m z, Bd H m z rv rv := by
  intro H m z
  rcases hr with rfl | ⟨rfl, -⟩ <;> simp only [Bn, ws, LY, seval]
 have hA := WC ok.at_ l v hv hl rs rv hr hrl k
 rw [atH, ZJ] at hA
 generalize Ai8 ok.at_ l rs k = s at hA
 generalize (Agq ok.at_ l rs k).m = dmm at hA
 obtain ⟨w, sl, n, q, ⟨f, g, pc, hl', xt⟩⟩ := s
 by_cases hz : n = 0
 ·subst hz
  rw [if_pos rfl] at hA
  exact few ok hne v rv hvv hrr k to w sl q f g pc xt dmm hl' hd _ _ rfl rfl hA
 ·rw [if_neg hz] at hA
  exact Anl ok hne v rv hvv hrr k to w sl n q f g pc xt dmm hl' hd _ _ rfl rfl hA
theorem Gj : ∀ h q, Bm (fun _ => 0#64) h q = Am h
 | 0, q => by simp only [Bm, show B5 0#64 = Dg.zero from Sa, ite_self]; rfl
 | h + 1, q => by rw [Bm, Gj h, Gj h]; rfl
theorem Y2 (w : Nat → BitVec 64) (hw : ∀ j, j < 4 → w j = 0#64) : Kb (AP w) = 0 := by
 have h : Kb (AP w) = Cq 8 (fun _ => 0) 32 := Ce 8 32 (fun k hk => by
  rw [AP, Dg.at_mk' _ _ hk, A6, hw _ Aa]
  have : ∀ k, k < 32 → (V7 (0#64) (k % 8)).toNat = 0 := Ak
  exact this k hk)
 rw [h]; decide
theorem Ajx : Kb (AP (w4 0#64 1#64 0#64 0#64)) = 1 <<< 120 := by
 have h : Kb (AP (w4 0#64 1#64 0#64 0#64)) = Cq 8 (fun k => if k = 15 then 1 else 0) 32 := Ce 8 32 (fun k hk => by
  rw [AP, Dg.at_mk' _ _ hk]
  have : ∀ k, k < 32 → (A6 (w4 0#64 1#64 0#64 0#64) k).toNat = if k = 15 then 1 else 0 := Ak
  exact this k hk)
 rw [h]; decide
def Amv : Nat := II (II 0 0) (II 0 0)
def ZX (x : Nat) : Nat := II (Hz 13) (II Amv x)
theorem Ai4 : Kb D2.com = ZX 0 := by
 show Kb (B2 (Bm (fun _ => 0#64) 13 0) (B2 (B2 (B2 (AP fun _ => 0#64) (AP fun _ => 0#64)) (B2 (AP fun _ => 0#64) (AP fun _ => 0#64))) (AP (w4 0#64 0#64 0#64 0#64)))) = _
 rw [EO, Gj, KV, EO, EO, EO, Y2 _ (fun _ _ => rfl), Y2 _ Ak]; rfl
theorem Ag6 : Kb LE.com = ZX (1 <<< 120) := by
 show Kb (B2 (Bm (fun _ => 0#64) 13 0) (B2 (B2 (B2 (AP fun _ => 0#64) (AP fun _ => 0#64)) (B2 (AP fun _ => 0#64) (AP fun _ => 0#64))) (AP (w4 0#64 1#64 0#64 0#64)))) = _
 rw [EO, Gj, KV, EO, EO, EO, Y2 _ (fun _ _ => rfl), Ajx]; rfl
theorem RG : Nat.beq (ZX (1 <<< 120)) (ZX 0) = false := by kernel_rfl
theorem Agc : ¬ LE.com = D2.com := by
 intro h
 have h2 := RG
 rw [← Ag6, ← Ai4, h, Nat.beq_refl] at h2
 cases h2
def HB (M : Seat) (W : World) : Env where
 ρ := fun _ => 0
 D := fun _ => False
 im := fun b => ∃ cells el fz, W.heap[b]? = some (.cells cells el fz)
 w := W
 φ := M.φ
 τ := M.τ
theorem Inv.start (M : Seat) (W : World) (hg : GS M (HB M W)) : Inv M ⟨HB M W, fun b => ∃ id, Ae [] id = true ∧ (HB M W).ρ id = b, 0⟩ (HB M W) [] where
 ev := ⟨rfl, rfl, rfl, Nat.le_refl _, fun _ _ _ => rfl, fun _ => Nat.le_refl _⟩
 blk := fun id h => by simp [Ae] at h
 inj := fun i j h => by simp [Ae] at h
 imo := fun b h => .inl h
 imb := fun b h => h
 rb := fun id h => h.elim
 keep := fun b h => h
 low := fun id h => by simp at h
 gs := hg
 φ := rfl
 τ := rfl
theorem TP {M : Seat} {f : Nat} {us : List V} {vs : Array Value} {Q : V → Hp → Nat → Prop} (hr : Af M f us [] 0 Q) (W : World) (hg : GS M (HB M W)) (ha : Qb (HB M W) us vs) :
 Calls M.P (M.φ f) vs W fun en W' => ∃ x v H' k' e', en = .returned x ∧ RV e' v x ∧ Q v H' k' ∧ RowKit.Below W.heap.size W W' := by
 refine (hr (HB M W) vs (Inv.start M W hg) (fun id _ h => h) ha).mono ?_
 rintro en W' ⟨x, v, e', H', k', rfl, rfl, hI, hv, _, _, hQ⟩
 refine ⟨x, v, H', k', e', rfl, hv, hQ, hI.ev.os, hI.ev.tape, hI.ev.output, hI.ev.size, fun k hk => hI.ev.frame k hk ?_⟩
 rintro ⟨id, h, _⟩
 simp [Ae] at h
theorem Yx {M : Seat} {W : World} {name : String} {k : IntKind} {zs : List Int} {g : Nat} (h : Lib.TabIs M.P W name k zs) (hg : M.P.globalNamed name = some g) (hpos : 0 < zs.length) :
 R (HB M W) (.imm (.ar 1 zs.length (fun i => .int k (zs.getD i 0)))) [.pointer (some ⟨g, 0, none⟩)] := by
 have hc : ∀ i, i < zs.length → W.cell? ⟨g, i, none⟩ = some (.int k (zs.getD i 0)) := fun i hi => h.cell hg i hi
 have h0 := hc 0 hpos
 simp only [R]
 cases hb : W.heap[g]? with
 | none => simp [World.cell?, hb] at h0
 | some o =>
   cases o with
   | cells c el fz =>
     have hci : ∀ i, i < zs.length → c[i]? = some (.int k (zs.getD i 0)) := fun i hi => by simpa [World.cell?, hb] using hc i hi
     have hsz : zs.length ≤ c.size := by
      have := hci (zs.length - 1) Aa
      have := (Array.getElem?_eq_some_iff.1 this).1
      omega
     refine ⟨g, 0, c, el, fz, rfl, ⟨c, el, fz, hb⟩, hb, by simp only [V.size]; omega, by simp [V.size]; omega, fun i hi => ⟨⟨rfl, rfl⟩, ?_⟩⟩
     simp only [V.size, Nat.mul_one, List.drop_zero]
     have h1 := hci i hi
     have h2 : c.toList[i]? = some (.int k (zs.getD i 0)) := by simpa using h1
     apply List.ext_getElem?
     intro j
     cases j with
     | zero => simp [List.getElem?_take, List.getElem?_drop, hi, h1]
     | succ j => simp [List.getElem?_take]
   | _ => simp [World.cell?, hb] at h0
end Mv
namespace Go.Proofs.YtncipgmjhaiagaaGreatDoor
open Go Mv
noncomputable def st : Seat where
 P := Tryz.prog
 φ := fun i => match i with | 0 => 0 | 1 => 1 | 2 => 2 | 20 => 3 | 21 => 4 | 22 => 5 | 25 => 6 | 49 => 27 | 50 => 136 | 51 => 25 | 52 => 145 | 53 => 144 | 54 => 9 | 55 => 13 | 56 => 93 | 59 => 53 | 60 => 68 | 62 => 26 | 63 => 14 | 65 => 109 | 66 => 110 | 68 => 24 | 70 => 12 | 72 => 17 | 73 => 19 | 74 => 20 | 75 => 21 | 77 => 42 | 78 => 37 | 79 => 30 | 90 => 44 | 95 => 7 | 96 => 8 | 97 => 10 | 98 => 11 | 99 => 15 | 100 => 16 | 107 => 18 | 167 => 135 | 196 => 22 | 197 => 48 | 198 => 138 | 199 => 51 | 200 => 50 | 201 => 146 | 202 => 83 | 203 => 107 | 204 => 108 | 205 => 70 | 206 => 67 | 207 => 52 | 208 => 86 | 209 => 92 | 210 => 34 | 211 => 35 | 212 => 40 | 213 => 49 | 214 => 29 | 215 => 31 | 216 => 32 | 217 => 33 | 218 => 39 | 219 => 41 | 220 => 57 | 226 => 76 | 227 => 77 | 228 => 78 | 229 => 79 | 230 => 80 | 240 => 23 | 241 => 28 | 242 => 36 | 243 => 38 | 259 => 114 | 276 => 137 | 277 => 111 | 308 => 66 | 311 => 74 | 312 => 91 | 315 => 81 | 316 => 82 | 317 => 84 | 318 => 85 | 319 => 72 | 320 => 73 | 321 => 58 | 322 => 59 | 323 => 60 | 324 => 61 | 325 => 62 | 326 => 63 | 327 => 64 | 328 => 65 | 329 => 71 | 330 => 75 | 335 => 103 | 336 => 104 | 342 => 43 | 343 => 45 | 344 => 46 | 345 => 47 | 346 => 54 | 347 => 55 | 348 => 56 | 349 => 69 | 364 => 139 | 413 => 100 | 414 => 101 | 415 => 102 | 417 => 105 | 418 => 97 | 419 => 98 | 420 => 99 | 421 => 88 | 422 => 89 | 423 => 90 | 448 => 87 | 449 => 94 | 450 => 95 | 451 => 96 | 461 => 112 | 462 => 113 | 463 => 106 | 595 => 132 | 596 => 133 | 597 => 134 | 598 => 140 | 599 => 141 | 600 => 142 | 601 => 143 | _ => 0
 τ := fun i => match i with | 74 => 63 | 362 => 114 | 422 => 86 | 426 => 91 | n => n
 γ := fun i => match i with | 1 => 2 | 2 => 3 | 3 => 4 | n => n
 gl := [1, 2, 3]
theorem ck21 : Al st 21 f21 = true := by kernel_rfl
theorem ck49 : Al st 49 f49 = true := by kernel_rfl
theorem ck50 : Al st 50 f50 = true := by kernel_rfl
theorem ck51 : Al st 51 f51 = true := by kernel_rfl
theorem ck52 : Al st 52 f52 = true := by kernel_rfl
theorem ck53 : Al st 53 f53 = true := by kernel_rfl
theorem ck54 : Al st 54 f54 = true := by kernel_rfl
theorem ck55 : Al st 55 f55 = true := by kernel_rfl
theorem ck59 : Al st 59 f59 = true := by kernel_rfl
theorem ck62 : Al st 62 f62 = true := by kernel_rfl
theorem ck68 : Al st 68 f68 = true := by kernel_rfl
theorem ck70 : Al st 70 P3 = true := by kernel_rfl
theorem ck73 : Al st 73 f73 = true := by kernel_rfl
theorem ck74 : Al st 74 f74 = true := by kernel_rfl
theorem ck75 : Al st 75 f75 = true := by kernel_rfl
theorem ck77 : Al st 77 f77 = true := by kernel_rfl
theorem ck78 : Al st 78 f78 = true := by kernel_rfl
theorem ck79 : Al st 79 f79 = true := by kernel_rfl
theorem ck90 : Al st 90 YK = true := by kernel_rfl
theorem ck95 : Al st 95 f95 = true := by kernel_rfl
theorem ck96 : Al st 96 f96 = true := by kernel_rfl
theorem ck97 : Al st 97 f97 = true := by kernel_rfl
theorem ck98 : Al st 98 f98 = true := by kernel_rfl
theorem ck167 : Al st 167 YS = true := by kernel_rfl
theorem ck196 : Al st 196 Qz = true := by kernel_rfl
theorem ck197 : Al st 197 Ai5 = true := by kernel_rfl
theorem ck198 : Al st 198 Ae4 = true := by kernel_rfl
theorem ck199 : Al st 199 Ael = true := by kernel_rfl
theorem ck200 : Al st 200 Ai6 = true := by kernel_rfl
theorem ck201 : Al st 201 Afc = true := by kernel_rfl
theorem ck202 : Al st 202 Ag5 = true := by kernel_rfl
theorem ck205 : Al st 205 Afw = true := by kernel_rfl
theorem ck206 : Al st 206 Adx = true := by kernel_rfl
theorem ck207 : Al st 207 Ah5 = true := by kernel_rfl
theorem ck208 : Al st 208 Ae8 = true := by kernel_rfl
theorem ck212 : Al st 212 Zw = true := by kernel_rfl
theorem ck213 : Al st 213 Ain = true := by kernel_rfl
theorem ck214 : Al st 214 Afa = true := by kernel_rfl
theorem ck215 : Al st 215 Ua = true := by kernel_rfl
theorem ck216 : Al st 216 Afy = true := by kernel_rfl
theorem ck217 : Al st 217 Li = true := by kernel_rfl
theorem ck218 : Al st 218 Ahk = true := by kernel_rfl
theorem ck219 : Al st 219 QT = true := by kernel_rfl
theorem ck220 : Al st 220 Ag2 = true := by kernel_rfl
theorem ck226 : Al st 226 Ah9 = true := by kernel_rfl
theorem ck227 : Al st 227 Lf = true := by kernel_rfl
theorem ck228 : Al st 228 Ahc = true := by kernel_rfl
theorem ck229 : Al st 229 Agf = true := by kernel_rfl
theorem ck230 : Al st 230 QQ = true := by kernel_rfl
theorem ck240 : Al st 240 Af8 = true := by kernel_rfl
theorem ck241 : Al st 241 Aiv = true := by kernel_rfl
theorem ck259 : Al st 259 T2 = true := by kernel_rfl
theorem ck276 : Al st 276 Afp = true := by kernel_rfl
theorem ck308 : Al st 308 Aia = true := by kernel_rfl
theorem ck311 : Al st 311 Ahf = true := by kernel_rfl
theorem ck312 : Al st 312 UJ = true := by kernel_rfl
theorem ck315 : Al st 315 Ahy = true := by kernel_rfl
theorem ck316 : Al st 316 Aee = true := by kernel_rfl
theorem ck317 : Al st 317 Afs = true := by kernel_rfl
theorem ck318 : Al st 318 Afi = true := by kernel_rfl
theorem ck319 : Al st 319 Aff = true := by kernel_rfl
theorem ck320 : Al st 320 Va = true := by kernel_rfl
theorem ck321 : Al st 321 YY = true := by kernel_rfl
theorem ck322 : Al st 322 UD = true := by kernel_rfl
theorem ck323 : Al st 323 Aei = true := by kernel_rfl
theorem ck324 : Al st 324 NF = true := by kernel_rfl
theorem ck325 : Al st 325 Agb = true := by kernel_rfl
theorem ck326 : Al st 326 Ad2 = true := by kernel_rfl
theorem ck327 : Al st 327 ZF = true := by kernel_rfl
theorem ck328 : Al st 328 Qo = true := by kernel_rfl
theorem ck329 : Al st 329 Ahn = true := by kernel_rfl
theorem ck330 : Al st 330 Wj = true := by kernel_rfl
theorem ck335 : Al st 335 ZO = true := by kernel_rfl
theorem ck336 : Al st 336 Adt = true := by kernel_rfl
theorem ck342 : Al st 342 Ago = true := by kernel_rfl
theorem ck343 : Al st 343 Ahm = true := by kernel_rfl
theorem ck344 : Al st 344 Ahl = true := by kernel_rfl
theorem ck345 : Al st 345 Aaw = true := by kernel_rfl
theorem ck346 : Al st 346 Aeo = true := by kernel_rfl
theorem ck347 : Al st 347 Ahp = true := by kernel_rfl
theorem ck348 : Al st 348 PS = true := by kernel_rfl
theorem ck413 : Al st 413 Ad1 = true := by kernel_rfl
theorem ck414 : Al st 414 Agm = true := by kernel_rfl
theorem ck415 : Al st 415 Ag4 = true := by kernel_rfl
theorem ck417 : Al st 417 Ac0 = true := by kernel_rfl
theorem ck418 : Al st 418 Agw = true := by kernel_rfl
theorem ck419 : Al st 419 Ahq = true := by kernel_rfl
theorem ck420 : Al st 420 Aij = true := by kernel_rfl
theorem ck421 : Al st 421 Ad9 = true := by kernel_rfl
theorem ck423 : Al st 423 Abi = true := by kernel_rfl
theorem ck448 : Al st 448 Acq = true := by kernel_rfl
theorem ck461 : Al st 461 Za = true := by kernel_rfl
theorem ck462 : Al st 462 UX = true := by kernel_rfl
theorem ck463 : Al st 463 Aga = true := by kernel_rfl
theorem ck595 : Al st 595 Ach = true := by kernel_rfl
theorem ck596 : Al st 596 U4 = true := by kernel_rfl
theorem ck597 : Al st 597 Ab5 = true := by kernel_rfl
theorem ck598 : Al st 598 Ab8 = true := by kernel_rfl
theorem ck599 : Al st 599 Uc = true := by kernel_rfl
theorem ck600 : Al st 600 T1 = true := by kernel_rfl
theorem ck601 : Al st 601 Aco = true := by kernel_rfl
theorem fn220 : Rz st 220 := ⟨by decide, Tryz.f57, Tryz.func57, by kernel_rfl, by kernel_rfl⟩
theorem mth426_0 : Cs st 426 0 599 := ⟨⟨by decide, Tryz.f141, Tryz.func141, by kernel_rfl, by kernel_rfl⟩, fun v w => by kernel_rfl⟩
theorem mth426_1 : Cs st 426 1 600 := ⟨⟨by decide, Tryz.f142, Tryz.func142, by kernel_rfl, by kernel_rfl⟩, fun v w => by kernel_rfl⟩
theorem mth426_2 : Cs st 426 2 598 := ⟨⟨by decide, Tryz.f140, Tryz.func140, by kernel_rfl, by kernel_rfl⟩, fun v w => by kernel_rfl⟩
theorem mth422_0 : Cs st 422 0 596 := ⟨⟨by decide, Tryz.f133, Tryz.func133, by kernel_rfl, by kernel_rfl⟩, fun v w => by kernel_rfl⟩
theorem mth422_1 : Cs st 422 1 597 := ⟨⟨by decide, Tryz.f134, Tryz.func134, by kernel_rfl, by kernel_rfl⟩, fun v w => by kernel_rfl⟩
theorem mth422_2 : Cs st 422 2 595 := ⟨⟨by decide, Tryz.f132, Tryz.func132, by kernel_rfl, by kernel_rfl⟩, fun v w => by kernel_rfl⟩
theorem okM : OkM st := ⟨ck49, ck50, ck51, ck52, ck53, ck74, ck197, ck198, ck200, ck201, ck207, ck315, ck316, ck317, ck318, ck312, ck417, ck462, ck199, ck202⟩
theorem okH : OkH st := ⟨ck319, ck418, ck419, ck420⟩
theorem okS : OkS st := ⟨okH, ck68, ck212, ck213, ck320, ck328⟩
theorem okV : OkV st := ⟨okS, ck70, ck79, ck214, ck216, ck220, fn220⟩
theorem okI : OkI st := ⟨okV⟩
theorem okW : OkW st := ⟨okI, ck215⟩
theorem okO : OkO st := ⟨okW, ck308, ck327, ck326, ck217⟩
theorem okP : OkP st := ⟨ck215, ck321, ck322, ck323, ck324, ck325, ck421, ck423, ck259, ck463⟩
theorem okT : OkT st := ⟨okM, okO, okP⟩
theorem okRP : OkRP st := ⟨ck78⟩
theorem okX : OkX st := ⟨ck90, ck226, ck227, ck228, ck229, ck230, ck335, ck336⟩
theorem okRM : OkRM st := ⟨ck240, ck342, ck343, ck344, okRP, okX⟩
theorem okR : OkR st := ⟨ck73, ck218, ck219, ck329, ck330⟩
theorem okRG : OkRG st := ⟨okR, ck345⟩
theorem okB : OkB st := ⟨ck205, ck206, ck311, ck413, ck414, ck415, ck461⟩
theorem okRH : OkRH st := ⟨okRM, okRG, okB⟩
theorem okI7 : OkI7 st := ⟨ck77⟩
theorem okI75 : OkI75 st := ⟨okI7, ck75⟩
theorem okAt : OkAt st := ⟨okT, okRH, okI75, ck95, ck196⟩
theorem okNx : OkNx st := ⟨ck241, ck346, ck347, ck348, ck448⟩
theorem okQ : OkQ st := ⟨okM, okO, okP, okNx⟩
theorem okD : OkD st := ⟨ck54, ck55, ck59, ck62, ck208⟩
theorem okCk : OkCk st := ⟨ck598, ck599, ck600, ck601, mth426_0, mth426_1, mth426_2⟩
theorem okPr : OkPr st := ⟨ck167, ck276, ck595, ck596, ck597, mth422_0, mth422_1, mth422_2⟩
theorem okOs : OkOs st := ⟨okQ, okD, okCk, okPr, ck97, ck98⟩
theorem okF15 : OkF15 st := ⟨okOs, ck96⟩
theorem okFew : OkFew st := ⟨okAt, okF15, ck21⟩
end Go.Proofs.YtncipgmjhaiagaaGreatDoor
namespace Mv
open Go Go.ChangeShapes Go.WideShapes
theorem NM {n : Int} (h : (Lit.int .u64 n).wf = true) : ∃ w : BitVec 64, n = (w.toNat : Int) := by
 have hb : 0 ≤ n ∧ n ≤ 18446744073709551615 := by simpa [Lit.wf, IntKind.min, IntKind.max, IntKind.signed, IntKind.bits] using h
 refine ⟨BitVec.ofNat 64 n.toNat, ?_⟩
 rw [BitVec.toNat_ofNat, Nat.mod_eq_of_lt Aa]
 omega
end Mv
namespace Mv
open Go Go.ChangeShapes Go.WideShapes
variable {M : Seat}
theorem WX {H : Type} {enc : TypeId × Value → H} {W : World} {t : TypeId} {v : Value} {d : DataW H} {ps : List MemPlace} (ht : M.P.underlying t = some (.int .u64))
 {base : Nat} (hok : Value.okWide M.P W .any base t v) (h : DataW.Trod enc M.P W 0 (fun _ => true) true t v d ps) : ∃ w : BitVec 64, RV (HB M W) (Mv.W w) v := by
 obtain ⟨n, rfl⟩ := okWide_int ht hok
 obtain ⟨m, hm⟩ := h
 obtain ⟨z, e0, _, wz⟩ := DataW.trod_int ht hm
 simp only [Value.cells, Gp, Value.int.injEq, true_and] at e0
 subst e0
 obtain ⟨b, rfl⟩ := NM wz
 exact ⟨b, by simp [Mv.W, RV, RS, V.isAgg, R]⟩
theorem Aan {H : Type} {enc : TypeId × Value → H} {W : World} {t : TypeId} {k : IntKind} {v : Value} {d : DataW H} {ps : List MemPlace} (ht : M.P.underlying t = some (.int k))
 {base : Nat} (hok : Value.okWide M.P W .any base t v) (h : DataW.Trod enc M.P W 0 (fun _ => true) true t v d ps) : ∃ n : Int, (Lit.int k n).wf = true ∧ RV (HB M W) (.int k n) v := by
 obtain ⟨n, rfl⟩ := okWide_int ht hok
 obtain ⟨m, hm⟩ := h
 obtain ⟨z, e0, _, wz⟩ := DataW.trod_int ht hm
 simp only [Value.cells, Gp, Value.int.injEq, true_and] at e0
 subst e0
 exact ⟨n, wz, by simp [RV, RS, V.isAgg, R]⟩
theorem Y5 {H : Type} {enc : TypeId × Value → H} {W : World} {t : TypeId} {v : Value} {d : DataW H} {ps : List MemPlace} (ht : M.P.underlying t = some .bool)
 {base : Nat} (hok : Value.okWide M.P W .any base t v) (_h : DataW.Trod enc M.P W 0 (fun _ => true) true t v d ps) : ∃ b : Bool, RV (HB M W) (.bool b) v := by
 obtain ⟨b, rfl⟩ := okWide_bool ht hok
 exact ⟨b, by simp [RV, RS, V.isAgg, R]⟩
theorem UG {H : Type} {enc : TypeId × Value → H} {W : World} {t e : TypeId} {v : Value} {d : DataW H} {ps : List MemPlace} (ht : M.P.underlying t = some (.slice e)) (he : M.P.underlying e = some (.int .u64)) (ce : M.P.cellsOf e = 1)
 {base : Nat} (hok : Value.okWide M.P W .any base t v) (h : DataW.Trod enc M.P W 0 (fun _ => true) true t v d ps) : ∃ cs cv, (cv = Bn cs ∨ (cv = .nils ∧ cs = [])) ∧ cs.length < 9223372036854775808 ∧ RV (HB M W) cv v := by
 obtain ⟨a, len, cap, rfl⟩ := okWide_slice ht hok
 obtain ⟨n, hn⟩ := h
 rcases Deep.open_slice1 ht ce hn with ⟨h1, _⟩ | ⟨a, len, cap, m, n', V0, D0, P0, hcs, _, hlc, hcm, hm, _, hx⟩
 ·simp [Value.cells] at h1
  obtain ⟨rfl, rfl, rfl⟩ := h1
  exact ⟨[], .nils, .inr ⟨rfl, rfl⟩, by simp, by simp [RV, RS, V.isAgg, R]⟩
 ·simp [Value.cells] at hcs
  obtain ⟨rfl, rfl, rfl⟩ := hcs
  simp only [if_true] at hm
  subst hm
  have hz : ∀ i, i < m → ∃ c : BitVec 64, V0 i = .int .u64 (c.toNat : Int) := by
   intro i hi
   obtain ⟨_, g0⟩ := hx i hi
   obtain ⟨z0, e0, _, w0⟩ := DataW.trod_int he g0
   simp only [Gp] at e0
   obtain ⟨b0, rfl⟩ := NM w0
   exact ⟨b0, e0⟩
  obtain ⟨g, hg⟩ := Deep.choose_lt hz
  have hgl : ∀ j, j < len → ((List.range len).map g).getD j 0 = g j := fun j hj => by simp [List.getD, List.getElem?_map, List.getElem?_range hj]
  refine ⟨(List.range len).map g, _, .inl rfl, ?_, ?_⟩
  ·simp only [List.length_map, List.length_range]
   have : maxLen < 9223372036854775808 := Ak
   omega
  ·simp only [Bn, List.length_map, List.length_range]
   rw [AL rfl]
   simp only [RS, V.isAgg, R]
   refine ⟨_, _, rfl, hlc, fun hpos => ?_⟩
   have h0 := (hx 0 Aa).1
   obtain ⟨b, o, sp⟩ := a
   have ha0 : (⟨b, o, sp⟩ : Addr).add 0 = ⟨b, o, sp⟩ := by simp [Addr.add]
   rw [ha0] at h0
   cases hb : W.heap[b]? with
   | none => simp [World.cell?, hb] at h0
   | some ob =>
     cases ob with
     | cells c el fz =>
       cases sp with
       | some s => simp [World.cell?, hb] at h0
       | none =>
         have hadd : ∀ k, (⟨b, o, none⟩ : Addr).add k = ⟨b, o + k, none⟩ := by
          intro k
          unfold Addr.add
          split
          ·rename_i h; subst h; rfl
          ·rfl
         simp only [hadd] at hx
         have hc0 : ∀ i, i < m → c[o + i]? = some (V0 i) := fun i hi => by simpa [World.cell?, hb] using (hx i hi).1
         have hsz : o + len * 1 ≤ c.size := by
          have := (Array.getElem?_eq_some_iff.1 (hc0 (len - 1) Aa)).1
          omega
         refine ⟨b, o, c, el, fz, rfl, ⟨c, el, fz, hb⟩, hb, hsz, fun i hi => ⟨⟨rfl, rfl⟩, ?_⟩⟩
         rw [Jf, hgl i hi]
         have e2 : (c.toList.drop (o + i * 1)).take 1 = [V0 i] := by
          have a0 : c.toList[o + i]? = some (V0 i) := by simpa using hc0 i Aa
          apply List.ext_getElem?
          intro j
          match j with
          | 0 => simp [List.getElem?_take, List.getElem?_drop, hc0 i Aa]
          | j + 1 => simp [List.getElem?_take]
         rw [e2, hg i Aa]
         simp [Mv.W, R]
     | _ => simp [World.cell?, hb] at h0
end Mv
namespace Mv
open Go Go.ChangeShapes Go.WideShapes
def NH (x : In) : List Value := [.int .i64 x.op, .int .i64 x.d, .int .i64 x.a, .int .i64 x.b, .int .i64 x.c, .int .i64 x.n, .int .u64 (x.raw.toNat : Int)]
theorem Aj1 (e : Env) (x : In) : R e (XN x) (NH x) := by
 simp [XN, NH, R, V.flo, V.chain, V.size, W, Value.oneCell']
theorem Aad {H : Type} {enc : TypeId × Value → H} {M : Seat} {W : World} {t e : TypeId} {f0 f1 f2 f3 f4 f5 f6 : Field} {v : Value} {d : DataW H} {ps : List MemPlace} (ht : M.P.underlying t = some (.slice e))
 (he : M.P.underlying e = some (.struct #[f0, f1, f2, f3, f4, f5, f6])) (ce : M.P.cellsOf e = 7)
 (o : f0.offset = 0 ∧ f1.offset = 1 ∧ f2.offset = 2 ∧ f3.offset = 3 ∧ f4.offset = 4 ∧ f5.offset = 5 ∧ f6.offset = 6)
 (u0 : M.P.underlying f0.type = some (.int .i64)) (u1 : M.P.underlying f1.type = some (.int .i64)) (u2 : M.P.underlying f2.type = some (.int .i64)) (u3 : M.P.underlying f3.type = some (.int .i64)) (u4 : M.P.underlying f4.type = some (.int .i64)) (u5 : M.P.underlying f5.type = some (.int .i64)) (u6 : M.P.underlying f6.type = some (.int .u64))
 (c0 : M.P.cellsOf f0.type = 1) (c1 : M.P.cellsOf f1.type = 1) (c2 : M.P.cellsOf f2.type = 1) (c3 : M.P.cellsOf f3.type = 1) (c4 : M.P.cellsOf f4.type = 1) (c5 : M.P.cellsOf f5.type = 1) (c6 : M.P.cellsOf f6.type = 1)
 {base : Nat} (hok : Value.okWide M.P W .any base t v) (h : DataW.Trod enc M.P W 0 (fun _ => true) true t v d ps) : ∃ l cv, Aer l cv ∧ l.length < 9223372036854775808 ∧ RV (HB M W) cv v := by
 obtain ⟨o0, o1, o2, o3, o4, o5, o6⟩ := o
 obtain ⟨a, len, cap, rfl⟩ := okWide_slice ht hok
 obtain ⟨n, hn⟩ := h
 rcases Deep.open_slice ht hn with ⟨h1, _⟩ | ⟨a, len, cap, m, n', D, P, hcs, _, hlc, hcm, hm, _, hx⟩
 ·simp [Value.cells] at h1
  obtain ⟨rfl, rfl, rfl⟩ := h1
  exact ⟨[], .nils, .inr ⟨rfl, rfl⟩, by simp, by simp [RV, RS, V.isAgg, R]⟩
 ·simp [Value.cells] at hcs
  obtain ⟨rfl, rfl, rfl⟩ := hcs
  simp only [if_true] at hm
  subst hm
  have hz : ∀ i, i < m → ∃ x : In, ∀ j, j < 7 → W.cell? ((a.add (i * 7)).add j) = (NH x)[j]? := by
   intro i hi
   obtain ⟨cs', h1, h2⟩ := hx i hi
   rw [ce] at h1
   obtain ⟨_, hlen, hcell⟩ := World.cells?_some h1
   obtain ⟨xs, k, _, _, _, hxl, hf⟩ := DataW.trod_struct he h2
   match cs', hlen with
   | [v0, v1, v2, v3, v4, v5, v6], _ =>
     match xs, hxl with
     | [y0, y1, y2, y3, y4, y5, y6], _ =>
       have g0 := hf 0 f0 rfl
       have g1 := hf 1 f1 rfl
       have g2 := hf 2 f2 rfl
       have g3 := hf 3 f3 rfl
       have g4 := hf 4 f4 rfl
       have g5 := hf 5 f5 rfl
       have g6 := hf 6 f6 rfl
       simp [o0, c0] at g0
       simp [o1, c1] at g1
       simp [o2, c2] at g2
       simp [o3, c3] at g3
       simp [o4, c4] at g4
       simp [o5, c5] at g5
       simp [o6, c6] at g6
       obtain ⟨z0, e0, _, w0⟩ := DataW.trod_int u0 g0
       obtain ⟨z1, e1, _, w1⟩ := DataW.trod_int u1 g1
       obtain ⟨z2, e2, _, w2⟩ := DataW.trod_int u2 g2
       obtain ⟨z3, e3, _, w3⟩ := DataW.trod_int u3 g3
       obtain ⟨z4, e4, _, w4⟩ := DataW.trod_int u4 g4
       obtain ⟨z5, e5, _, w5⟩ := DataW.trod_int u5 g5
       obtain ⟨z6, e6, _, w6⟩ := DataW.trod_int u6 g6
       simp only [Gp] at e0 e1 e2 e3 e4 e5 e6
       obtain ⟨b6, rfl⟩ := NM w6
       subst e0 e1 e2 e3 e4 e5 e6
       exact ⟨⟨z0, z1, z2, z3, z4, z5, b6⟩, fun j hj => hcell j hj⟩
  obtain ⟨g, hg⟩ := Deep.choose_lt hz
  have hgl : ∀ j, j < len → ((List.range len).map g).getD j default = g j := fun j hj => by simp [List.getD, List.getElem?_map, List.getElem?_range hj]
  refine ⟨(List.range len).map g, _, .inl rfl, ?_, ?_⟩
  ·simp only [List.length_map, List.length_range]
   have : maxLen < 9223372036854775808 := Ak
   omega
  ·simp only [Hl, List.length_map, List.length_range]
   rw [AL rfl]
   simp only [RS, V.isAgg, R]
   refine ⟨_, _, rfl, hlc, fun hpos => ?_⟩
   have h0 := hg 0 Aa 0 Aa
   obtain ⟨b, o, sp⟩ := a
   have ha0 : ((⟨b, o, sp⟩ : Addr).add (0 * 7)).add 0 = ⟨b, o, sp⟩ := by simp [Addr.add]
   rw [ha0] at h0
   cases hb : W.heap[b]? with
   | none => simp [World.cell?, hb, NH] at h0
   | some ob =>
     cases ob with
     | cells c el fz =>
       cases sp with
       | some s => simp [World.cell?, hb, NH] at h0
       | none =>
         have hadd : ∀ k, (⟨b, o, none⟩ : Addr).add k = ⟨b, o + k, none⟩ := by
          intro k
          unfold Addr.add
          split
          ·rename_i h; subst h; rfl
          ·rfl
         have hadd2 : ∀ k j, ((⟨b, o, none⟩ : Addr).add k).add j = ⟨b, o + k + j, none⟩ := by
          intro k j
          rw [hadd]
          unfold Addr.add
          split
          ·rename_i h; subst h; rfl
          ·rfl
         simp only [hadd2] at hg
         have hc0 : ∀ i, i < m → ∀ j, j < 7 → c.toList[o + i * 7 + j]? = (NH (g i))[j]? := fun i hi j hj => by simpa [World.cell?, hb] using hg i hi j hj
         have hsz : o + len * 7 ≤ c.size := by
          have h6 := hc0 (len - 1) Aa 6 Aa
          have : o + (len - 1) * 7 + 6 < c.toList.length := by
           rcases Nat.lt_or_ge (o + (len - 1) * 7 + 6) c.toList.length with h | h
           ·exact h
           ·rw [List.getElem?_eq_none h] at h6; simp [NH] at h6
          simp at this
          omega
         refine ⟨b, o, c, el, fz, rfl, ⟨c, el, fz, hb⟩, hb, hsz, fun i hi => ⟨⟨rfl, rfl⟩, ?_⟩⟩
         rw [hgl i hi]
         have e2 : (c.toList.drop (o + i * 7)).take 7 = NH (g i) := by
          apply List.ext_getElem?
          intro j
          by_cases hj : j < 7
          ·rw [List.getElem?_take, if_pos hj, List.getElem?_drop, hc0 i Aa j hj]
          ·rw [List.getElem?_take, if_neg hj, List.getElem?_eq_none (by show 7 ≤ j; omega)]
         rw [e2]
         exact Aj1 _ (g i)
     | _ => simp [World.cell?, hb, NH] at h0
end Mv
