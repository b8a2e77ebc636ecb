/- A part. -/
import Derived.Test.YtncipgmjhaiagaaGreatDoorBU
set_option linter.all false
set_option maxRecDepth 20000
set_option maxHeartbeats 8000000
namespace Mv
open Go
variable {M : Seat}
structure OkAt (M : Seat) : Prop where
 t : OkT M
 r : OkRH M
 kx : OkI75 M
 k95 : Al M 95 f95 = true
 k196 : Al M 196 Qz = true
noncomputable def Ai8 (ok : OkAt M) (l : List In) (rs : List (BitVec 64)) (k : Int) : SM := Vi ok.t (Ta (FK 16) (ldM l).f rs (min rs.length 16)) (Ya k)
noncomputable def Agq (ok : OkAt M) (l : List In) (rs : List (BitVec 64)) (k : Int) : RD := Ha ok.r (SE (BL 16).1 (BL 16).2 (ldM l).f rs (min rs.length 16)) (Ya k)
theorem WC (ok : OkAt M) (l : List In) (v : V) (hv : Aer l v) (hl : l.length < 9223372036854775808) (rs : List (BitVec 64)) (rv : V) (hr : rv = Bn rs ∨ (rv = .nils ∧ rs = [])) (hrl : rs.length < 9223372036854775808) (k : Int) :
 Af M 95 [v, rv, .nils, .int .i64 k] [] 0 (Q3 (BD (.ptr 5 []) (.ptr 0 []) (.ptr 7 [])) (atH (Ai8 ok l rs k) (Agq ok l rs k).m) 14) := by
 have okA := ok.t.okA
 have okW := ok.t.ok.toOkW
 have okI := okW.toOkI
 have okS := okI.toOkV.toOkS
 have okB := ok.r.b
 have okR := ok.r.g.r
 have hSt := NV okA okS okB okR
 have hLN : l = [] → Af M 74 [.nils] [] 0 (Q3 (Ao (.ptr 0 []) .nili) [(0, (ldM l).v)] 1) := fun h => by subst h; exact Me okA
 have hRN : l = [] → Af M 196 [.nils] [] 0 (Q3 (.ptr 0 []) (Fx (ldM l)) 3) := fun h => by subst h; exact O1 ok.k196
 have hWN : l = [] → Af M 75 [Hl l] [] 0 (Q3 .nils [] 0) := fun h => by subst h; exact C4 okI ok.kx _ (.inr rfl)
 have hv' : (v = .nils ∧ l = []) ∨ (v = Hl l ∧ l = []) ∨ (v = Hl l ∧ 0 < l.length) := by
  rcases hv with h | h
  ·by_cases h0 : l = []
   ·exact .inr (.inl ⟨h, h0⟩)
   ·exact .inr (.inr ⟨h, List.length_pos_iff.2 h0⟩)
  ·exact .inl h
 have hrn : (BL 16).1.length < 2147483648 := by have := Ku 16; omega
 have hlp := @ZE M ok.t ok.r (FK 16) (BL 16).1 (BL 16).2 hrn (ldM l).f rs k
 have hW := Rb okI ok.kx l
 have hLL : Af M 74 _ [] 0 (Q3 (Ao (.ptr 0 []) .nili) [(0, (ldM l).v)] 1) := RC okA (min l.length 8192) (Nat.min_le_right _ _) (fun j => G7 (l.getD j default))
 have hRL : Af M 196 _ [] 0 (Q3 (.ptr 0 []) (Fx (ldM l)) 3) := OB ok.k196 (min l.length 8192) (Nat.min_le_right _ _) (fun j => G7 (l.getD j default))
 have hm : ∃ f, ldM l = ⟨f, fun _ => 0#64, 0#64, false, 0#64⟩ := ⟨_, rfl⟩
 unfold Ai8 Agq
 generalize FK 16 = w at *
 generalize BL 16 = R at *
 obtain ⟨rl, met⟩ := R
 generalize ldM l = m at *
 obtain ⟨f, rfl⟩ := hm
 have hNv : ∀ m : Mc, AD m.v := fun m => by simp only [Mc.v, mach, AD, Ru, implies_true, and_self]
 have hSv : ∀ (m : Mc) H a z, Aw H a z m.v m.v := fun m H a z => by simp only [Mc.v, mach, LY, seval]
 have hFv : ∀ m : Mc, m.v = mach m.f m.g m.pc m.hl m.xt := fun _ => rfl
 have hg0 : ∀ j, gI rs 0 j = 0#64 := fun j => if_neg Aa
 have hrv : rv = .nils → rs = [] := fun h => by
  rcases hr with h1 | h1
  ·rw [h] at h1; cases h1
  ·exact h1.2
 have mz : ((min (0 : Nat) 16 : Nat) : Int) = 0 := rfl
 refine Ac ok.k95 rfl fun x hx => ?_
 have hlp := @hlp x hx
 have hr' : rv = Bn rs ∨ rv = .nils := hr.imp id (fun h => h.1)
 clear hr hv
 rcases hr' with rfl | rfl
 all_goals rcases hv' with ⟨rfl, h0⟩ | ⟨rfl, h0⟩ | ⟨rfl, h0⟩
 ·refine es 2000 ?_; (simp only [f95, c95, Bn, LZ, seval])
  have zz := aq5 PR G0 @RO.eq_1 Ft @BV; refine El (hSt) ?_
  (simp only [Sq, RO, Ft, seval])
  refine Ah (C4 okI ok.kx .nils (.inl rfl)) ?_
  (simp only [LZ, seval])
  have zz := aq4 hFv @mach.eq_1 hNv hSv; refine El (hLN h0) ?_
  (simp only [Cb, hFv, mach, seval])
  refine Ah (C4 okI ok.kx .nils (.inl rfl)) ?_
  (simp only [LZ, seval])
  have zz := aq5 @Fx.eq_1 @Cc.eq_1 @Ba.eq_1 hNv hSv; refine El (hRN h0) ?_
  (simp only [Fx, Cc, Fj, Bn, seval])
  refine hlp ?_
  refine Aj.fr [64, 65, 66, 67, 68, 192, 1, 320, 321, 322, 69, 70, 71, 2] [] hx Ax Ak ?_ ?_
  ·simp only [Bn, LY, seval]
   first | omega | (simp only [List.length_nil]; decide) | (simp; decide) | (simp; rfl)
  ·simp only [hg0, SB, hFv, mach, Ta, SE, Ik, dN, At, seval]
 ·refine es 2000 ?_; (simp only [f95, c95, Bn, LZ, seval])
  have zz := aq5 PR G0 @RO.eq_1 Ft @BV; refine El (hSt) ?_
  (simp only [Sq, RO, Ft, seval])
  have zz := MK; refine CI (hWN h0) ?_
  (simp only [LZ, seval])
  have zz := aq4 hFv @mach.eq_1 hNv hSv; refine El (hLN h0) ?_
  (simp only [Cb, hFv, mach, seval])
  have zz := MK; refine CI (hWN h0) ?_
  (simp only [LZ, seval])
  have zz := aq5 @Fx.eq_1 @Cc.eq_1 @Ba.eq_1 hNv hSv; refine El (hRN h0) ?_
  (simp only [Fx, Cc, Fj, Bn, seval])
  refine hlp ?_
  refine Aj.fr [64, 65, 66, 67, 68, 192, 1, 320, 321, 322, 69, 70, 71, 2] [] hx Ax Ak ?_ ?_
  ·simp only [Bn, LY, seval]
   first | omega | (simp only [List.length_nil]; decide) | (simp; decide) | (simp; rfl)
  ·simp only [hg0, SB, hFv, mach, Ta, SE, Ik, dN, At, seval]
 ·refine es 2000 ?_; (simp only [f95, c95, Bn, LZ, seval])
  have zz := aq5 PR G0 @RO.eq_1 Ft @BV; refine El (hSt) ?_
  (simp only [Sq, RO, Ft, seval])
  have zz := MK; refine El (hW h0 hl) ?_
  (simp only [LZ, seval])
  have zz := aq4 hFv @mach.eq_1 hNv hSv; refine El (hLL) ?_
  (simp only [Cb, hFv, mach, seval])
  have zz := MK; refine El (hW h0 hl) ?_
  (simp only [LZ, seval])
  have zz := aq5 @Fx.eq_1 @Cc.eq_1 @Ba.eq_1 hNv hSv; refine El (hRL) ?_
  (simp only [Fx, Cc, Fj, Bn, seval])
  refine hlp ?_
  refine Aj.fr [64, 65, 66, 67, 68, 192, 1, 320, 321, 322, 69, 70, 71, 2] [] hx Ax Ak ?_ ?_
  ·simp only [Bn, LY, seval]
   first | omega | (simp only [List.length_nil]; decide) | (simp; decide) | (simp; rfl)
  ·simp only [hg0, SB, hFv, mach, Ta, SE, Ik, dN, At, seval]
 ·obtain rfl := hrv rfl
  refine es 2000 ?_; (simp only [f95, c95, Bn, LZ, seval])
  have zz := aq5 PR G0 @RO.eq_1 Ft @BV; refine El (hSt) ?_
  (simp only [Sq, RO, Ft, seval])
  refine Ah (C4 okI ok.kx .nils (.inl rfl)) ?_
  (simp only [LZ, seval])
  have zz := aq4 hFv @mach.eq_1 hNv hSv; refine El (hLN h0) ?_
  (simp only [Cb, hFv, mach, seval])
  refine Ah (C4 okI ok.kx .nils (.inl rfl)) ?_
  (simp only [LZ, seval])
  have zz := aq5 @Fx.eq_1 @Cc.eq_1 @Ba.eq_1 hNv hSv; refine El (hRN h0) ?_
  (simp only [Fx, Cc, Fj, Bn, seval])
  refine hlp ?_
  refine Aj.fr [64, 65, 66, 67, 68, 192, 1, 320, 321, 322, 69, 70, 71, 2] [] hx Ax Ak ?_ ?_
  ·simp only [Bn, LY, seval]
   first | omega | (simp only [List.length_nil]; decide) | (simp; decide) | (simp; rfl)
  ·simp only [hg0, SB, hFv, mach, Ta, SE, Ik, dN, At, seval]
 ·obtain rfl := hrv rfl
  refine es 2000 ?_; (simp only [f95, c95, Bn, LZ, seval])
  have zz := aq5 PR G0 @RO.eq_1 Ft @BV; refine El (hSt) ?_
  (simp only [Sq, RO, Ft, seval])
  have zz := MK; refine CI (hWN h0) ?_
  (simp only [LZ, seval])
  have zz := aq4 hFv @mach.eq_1 hNv hSv; refine El (hLN h0) ?_
  (simp only [Cb, hFv, mach, seval])
  have zz := MK; refine CI (hWN h0) ?_
  (simp only [LZ, seval])
  have zz := aq5 @Fx.eq_1 @Cc.eq_1 @Ba.eq_1 hNv hSv; refine El (hRN h0) ?_
  (simp only [Fx, Cc, Fj, Bn, seval])
  refine hlp ?_
  refine Aj.fr [64, 65, 66, 67, 68, 192, 1, 320, 321, 322, 69, 70, 71, 2] [] hx Ax Ak ?_ ?_
  ·simp only [Bn, LY, seval]
   first | omega | (simp only [List.length_nil]; decide) | (simp; decide) | (simp; rfl)
  ·simp only [hg0, SB, hFv, mach, Ta, SE, Ik, dN, At, seval]
 ·obtain rfl := hrv rfl
  refine es 2000 ?_; (simp only [f95, c95, Bn, LZ, seval])
  have zz := aq5 PR G0 @RO.eq_1 Ft @BV; refine El (hSt) ?_
  (simp only [Sq, RO, Ft, seval])
  have zz := MK; refine El (hW h0 hl) ?_
  (simp only [LZ, seval])
  have zz := aq4 hFv @mach.eq_1 hNv hSv; refine El (hLL) ?_
  (simp only [Cb, hFv, mach, seval])
  have zz := MK; refine El (hW h0 hl) ?_
  (simp only [LZ, seval])
  have zz := aq5 @Fx.eq_1 @Cc.eq_1 @Ba.eq_1 hNv hSv; refine El (hRL) ?_
  (simp only [Fx, Cc, Fj, Bn, seval])
  refine hlp ?_
  refine Aj.fr [64, 65, 66, 67, 68, 192, 1, 320, 321, 322, 69, 70, 71, 2] [] hx Ax Ak ?_ ?_
  ·simp only [Bn, LY, seval]
   first | omega | (simp only [List.length_nil]; decide) | (simp; decide) | (simp; rfl)
  ·simp only [hg0, SB, hFv, mach, Ta, SE, Ik, dN, At, seval]
def Mc.com (m : Mc) : Dg := Yo m.f m.g m.pc m.hl m.xt
def Ei (pres : List (Dg × Pr)) (m : Mc) : Option Int × List Pf × Pr :=
 if m.hl = true then (none, [], Pr.zero) else if 8192#64 ≤ m.pc then (none, [], Pr.zero)
 else ((nx (Fc pres) m.h ⟨m.f, [], Pr.zero⟩).2.1, (nx (Fc pres) m.h ⟨m.f, [], Pr.zero⟩).2.2.l, (nx (Fc pres) m.h ⟨m.f, [], Pr.zero⟩).2.2.pre)
theorem Mz {M : Seat} (ok : OkOs M) (m : Mc) (pres : List (Dg × Pr)) (q : Nat) :
 Af M 97 [.ptr 0 [], .ptr 1 []] [(0, m.v), (1, EA (.nils)), (2, Bv At Pr.zero pres)] 5
  (Q3 (TO m (Ei pres m).1 (Ei pres m).2.1 (Ei pres m).2.2) [(0, m.v), (1, EA (.nils)), (2, Bv At Pr.zero pres)] 5) := by
 obtain ⟨f, g, pc, hl, xt⟩ := m
 unfold Ei
 cases hl with
 | true => rw [if_pos rfl]; exact Qy ok f g pc xt pres q
 | false =>
   rw [if_neg Bu]
   by_cases hpc : 8192#64 ≤ pc
   ·rw [if_pos hpc]; exact O9 ok f g pc xt hpc pres q
   ·rw [if_neg hpc]
    generalize hq : nx (Fc pres) (⟨f, g, pc, false, xt⟩ : Mc).h ⟨f, [], Pr.zero⟩ = r
    obtain ⟨h1, e, s1⟩ := r
    exact U6 ok f g pc xt hpc pres q h1 e s1 hq
theorem UY {M : Seat} (ok : OkOs M) (m : Mc) (pres : List (Dg × Pr)) (q : Nat) :
 Af M 97 [.ptr 0 [], .ptr 1 []] [(0, m.v), (1, EA (.sl 5 [] 0 q 32)), (2, Bv At Pr.zero pres)] 6
  (Q3 (TO m (Ei pres m).1 (Ei pres m).2.1 (Ei pres m).2.2) [(0, m.v), (1, EA (.sl 5 [] 0 q 32)), (2, Bv At Pr.zero pres)] 6) := by
 obtain ⟨f, g, pc, hl, xt⟩ := m
 unfold Ei
 cases hl with
 | true => rw [if_pos rfl]; exact QZ ok f g pc xt pres q
 | false =>
   rw [if_neg Bu]
   by_cases hpc : 8192#64 ≤ pc
   ·rw [if_pos hpc]; exact OX ok f g pc xt hpc pres q
   ·rw [if_neg hpc]
    generalize hq : nx (Fc pres) (⟨f, g, pc, false, xt⟩ : Mc).h ⟨f, [], Pr.zero⟩ = r
    obtain ⟨h1, e, s1⟩ := r
    exact Uq ok f g pc xt hpc pres q h1 e s1 hq
theorem Ajg (pres : List (Dg × Pr)) (hp : JT pres) (m : Mc) (h : (Ei pres m).1 = none) : vfy m.com (Bm m.f 13 0) m.h (Ei pres m).2.1 (Ei pres m).2.2 = ((Tr pres m).com, none) := by
 obtain ⟨f, g, pc, hl, xt⟩ := m
 have hc : B2 (Bm f 13 0) (DV g pc hl xt) = (⟨f, g, pc, hl, xt⟩ : Mc).com := rfl
 unfold vfy
 rw [if_neg (fun h => h hc)]
 unfold Ei at h ⊢
 unfold Tr
 dsimp only [Mc.h] at h ⊢
 cases hl with
 | true => simp only [if_true, YJ]; rfl
 | false =>
   simp only [TJ] at h ⊢
   by_cases hpc : 8192#64 ≤ pc
   ·simp only [hpc, if_true, YJ]; rfl
   ·simp only [hpc, if_false] at h ⊢
    generalize hq : nx (Fc pres) ⟨g, pc, false, xt⟩ ⟨f, [], Pr.zero⟩ = r at *
    obtain ⟨h1, e, s1⟩ := r
    have h : e = none := h
    subst h
    have hF := Aat pres hp ⟨g, pc, false, xt⟩ rfl hpc f Pr.zero h1 s1 hq []
    rw [List.append_nil] at hF
    dsimp only
    rw [hF]
    show YJ _ _ = _
    rw [YJ, if_pos rfl]
    rfl
def YN (n : Nat) (s : Ps) : Prop := s.l.length = n ∧ ∀ p ∈ s.l, p.p.length = 13
theorem JF {n : Nat} {s : Ps} (h : YN n s) (f : Nat → BitVec 64) (g : Nat → BitVec 64) (a : BitVec 64) (pre : Pr) : YN (n + 1) ⟨g, s.l ++ [Bf f a], pre⟩ := by
 refine ⟨by simp [h.1], fun p hp => ?_⟩
 rcases List.mem_append.1 hp with h1 | h1
 ·exact h.2 p h1
 ·rw [List.mem_singleton.1 h1]; exact EW _ _
theorem Y4 (pres : List (Dg × Pr)) (a : BitVec 64) : ∀ (k i : Nat) (s : Ps) (l : List (BitVec 64)) (n : Nat), YN n s → (Jy (Fc pres) a k i s l).1 = none ∧ YN (n + k) (Jy (Fc pres) a k i s l).2.1
 | 0, _, _, _, _, h => ⟨rfl, h⟩
 | k + 1, i, s, l, n, h => by
   have := Y4 pres a k (i + 1) ⟨s.f, s.l ++ [Bf s.f (a + BitVec.ofNat 64 i)], s.pre⟩ (l ++ [s.f (a + BitVec.ofNat 64 i).toNat]) (n + 1) (JF h _ _ _ _)
   rw [show n + (k + 1) = n + 1 + k by omega]
   exact this
theorem Ade (pres : List (Dg × Pr)) (a : BitVec 64) (v : Nat → BitVec 64) : ∀ (k i : Nat) (s : Ps) (n : Nat), YN n s → (Ph (Fc pres) a v k i s).1 = none ∧ YN (n + k) (Ph (Fc pres) a v k i s).2
 | 0, _, _, _, h => ⟨rfl, h⟩
 | k + 1, i, s, n, h => by
   have := Ade pres a v k (i + 1) ⟨E9 s.f (a + BitVec.ofNat 64 i).toNat (v i), s.l ++ [Bf s.f (a + BitVec.ofNat 64 i)], s.pre⟩ (n + 1) (JF h _ _ _ _)
   rw [show n + (k + 1) = n + 1 + k by omega]
   exact this
def wfR (s : Ps) : Prop := 1 ≤ s.l.length ∧ s.l.length ≤ 13 ∧ ∀ p ∈ s.l, p.p.length = 13
theorem IF {n : Nat} {s : Ps} (h : YN n s) (h1 : 1 ≤ n) (h2 : n ≤ 13) : wfR s := ⟨by rw [h.1]; exact h1, by rw [h.1]; exact h2, h.2⟩
theorem Sk (pres : List (Dg × Pr)) (h : Hd) (s : Ps) (to : BitVec 64) (t : Nat) (p : Nat → BitVec 8) (n : Nat) (hw : YN n s) (h1 : 1 ≤ n) (h2 : n + t ≤ 13) : wfR (GL (Fc pres) h s to t p).2.2 := by
 have := Ade pres to (Vh p) t 0 s n hw
 unfold GL
 generalize Ph (Fc pres) to (Vh p) t 0 s = R at *
 obtain ⟨e, s'⟩ := R
 obtain ⟨rfl, h3⟩ := this
 exact IF h3 Aa h2
theorem Ahi (pres : List (Dg × Pr)) (op : Nat) (h : Hd) (s : Ps) (a b : BitVec 64) (hw : YN 1 s) (ho : op = 34 ∨ op = 35) : wfR (MX (Fc pres) op h s a b).2.2 := by
 have h1 : wfR s := IF (n := 1) hw Aa Aa
 rcases ho with rfl | rfl
 ·unfold MX
  simp only [show ¬ (34 : Nat) = 35 by decide, CD]
  by_cases hc : (wi a 8#64 && wi b 4#64) = false
  ·rw [if_pos hc]; exact h1
  ·rw [if_neg hc]
   have := Y4 pres a 8 0 s [] 1 hw
   generalize Jy (Fc pres) a 8 0 s [] = R at *
   obtain ⟨e, s', l⟩ := R
   obtain ⟨rfl, h3⟩ := this
   exact Sk pres h s' b 4 _ 9 h3 Aa Aa
 ·unfold MX
  simp only [show ¬ (35 : Nat) = 34 by decide, CD]
  by_cases hc : (wi a 4#64 && wi b 8#64) = false
  ·rw [if_pos hc]; exact h1
  ·rw [if_neg hc]
   have := Y4 pres a 4 0 s [] 1 hw
   generalize Jy (Fc pres) a 4 0 s [] = R at *
   obtain ⟨e, s', l⟩ := R
   obtain ⟨rfl, h3⟩ := this
   dsimp only at h3 ⊢
   unfold QC
   cases hl : Dv (Dg.mk' (CS l)) pres with
   | none =>
     have hp : (Fc pres).pi s' (Dg.mk' (CS l)) = (Pr.zero, some 14, ⟨s'.f, s'.l, Pr.zero⟩) := by
      show OP pres s' _ = _
      unfold OP; rw [hl]
     rw [hp]
     exact IF (n := 5) (s := ⟨s'.f, s'.l, Pr.zero⟩) h3 Aa Aa
   | some p =>
     have hp : (Fc pres).pi s' (Dg.mk' (CS l)) = (p, none, ⟨s'.f, s'.l, p⟩) := by
      show OP pres s' _ = _
      unfold OP; rw [hl]
     rw [hp]
     exact Sk pres h ⟨s'.f, s'.l, p⟩ b 8 p.at 5 h3 Aa Aa
theorem All (pres : List (Dg × Pr)) (h : Hd) (w : BitVec 64) (s : Ps) (hw : YN 1 s) : wfR (Of (Fc pres) h w s).2.2 := by
 have h1 : wfR s := IF (n := 1) hw Aa Aa
 unfold Of
 split
 ·exact h1
 rename_i hi
 split
 ·exact h1
 split
 ·exact h1
 split
 ·exact h1
 split
 ·split
  ·exact h1
  ·split
   ·exact IF (n := 2) (JF hw _ _ _ _) Aa Aa
   ·exact IF (n := 2) (JF hw _ _ _ _) Aa Aa
 split
 ·exact h1
 ·have h35 : AT w ≤ 35 := by
   simp only [isI, decide_eq_false_iff_not, Classical.not_not] at hi
   exact hi.1
  exact Ahi pres _ h s _ _ hw Aa
theorem XA (pres : List (Dg × Pr)) (m : Mc) : ((Ei pres m).1 ≠ none → m.hl = false ∧ ¬ 8192#64 ≤ m.pc) ∧ (Ei pres m).2.1.length ≤ 13 ∧ (∀ p ∈ (Ei pres m).2.1, p.p.length = 13) ∧ ((Ei pres m).2.1.length = 0 ↔ m.hl = true ∨ 8192#64 ≤ m.pc) := by
 unfold Ei
 by_cases h1 : m.hl = true
 ·rw [if_pos h1]
  exact ⟨fun h => absurd rfl h, Nat.zero_le _, fun p hp => (nomatch hp), fun _ => .inl h1, fun _ => rfl⟩
 rw [if_neg h1]
 by_cases h2 : 8192#64 ≤ m.pc
 ·rw [if_pos h2]
  exact ⟨fun h => absurd rfl h, Nat.zero_le _, fun p hp => (nomatch hp), fun _ => .inr h2, fun _ => rfl⟩
 rw [if_neg h2]
 have h3 : wfR (nx (Fc pres) m.h ⟨m.f, [], Pr.zero⟩).2.2 := All pres m.h _ _ ⟨rfl, fun p hp => by
  rcases List.mem_append.1 hp with h | h
  ·cases h
  ·rw [List.mem_singleton.1 h]; exact EW _ _⟩
 refine ⟨fun _ => ⟨by simpa using h1, h2⟩, h3.2.1, h3.2.2, fun h => ?_, fun h => ?_⟩
 ·have := h3.1
  dsimp only at h
  omega
 ·rcases h with h | h
  ·exact absurd h h1
  ·exact absurd h h2
def c96 : LC := (sr [A1 0 (.mv (.c (.bool false)))]
 (sr [kl 12 74 [(.c .nils)],
  mt 11 12,
  A1 13 (.ext (.t 11) 0),
  A1 14 (.ext (.t 11) 1),
  mt 1 13,
  mt 2 14]
 (sr [kl 15 68 [],
  mt 3 15]
 (.seq (sr [mt 16 2,
  A1 17 (.eq true true (.iface [74]) (.t 16) (.c .nili)),
  mt 18 17,
  A2 19 18 false (.mv (.t 1)),
  A2 20 18 false (.eq false true .ptr (.t 19) (.c .nilp)),
  A1 21 (.pick (.t 18) (.c (.bool true)) (.t 20)),
  mt 22 21,
  A2 23 22 false (.mv (.t 3)),
  A2 24 22 false (.eq false true .ptr (.t 23) (.c .nilp)),
  A1 25 (.pick (.t 22) (.c (.bool true)) (.t 24))]
 (.cond (.t 25) (sr [A1 0 (.mv (.c (.bool false)))]
 (.ret)) (.skip)))
 (sr [mt 27 1,
  mt 28 3,
  kl 29 97 [(.t 27), (.t 28)],
  mt 26 29,
  A1 30 (.ext (.t 26) 0),
  A1 31 (.ext (.t 26) 1),
  A1 4 (.alloc (.st (.cons (.ar 32 (.int .u8)) (.cons (.st (.cons (.ar 16 (.int .u64)) (.cons (.int .u64) (.cons .bool (.cons (.int .u64) .nil))))) (.cons .slice (.cons (.ar 64 (.int .u8)) .nil)))))),
  A0 (.store 116 (.t 4) (.t 30)),
  mt 2 31]
 (sr [mt 33 1,
  kl 34 54 [(.t 33)],
  mt 32 34,
  A1 35 (.ext (.t 32) 0),
  A1 36 (.ext (.t 32) 1),
  A1 5 (.alloc (.ar 32 (.int .u8))),
  A0 (.store 32 (.t 5) (.t 35)),
  mt 6 36]
 (sr [A1 38 (.load true 32 (.t 5)),
  A1 39 (.load true 116 (.t 4)),
  kl 40 98 [(.t 38), (.t 39)],
  mt 37 40,
  A1 41 (.ext (.t 37) 0),
  A1 42 (.ext (.t 37) 1),
  A1 7 (.alloc (.ar 32 (.int .u8))),
  A0 (.store 32 (.t 7) (.t 41)),
  mt 8 42]
 (sr [mt 43 1,
  mt 44 3,
  kl 45 70 [(.t 43), (.t 44)]]
 (sr [mt 47 1,
  kl 48 54 [(.t 47)],
  mt 46 48,
  A1 49 (.ext (.t 46) 0),
  A1 50 (.ext (.t 46) 1),
  A1 9 (.alloc (.ar 32 (.int .u8))),
  A0 (.store 32 (.t 9) (.t 49)),
  mt 10 50]
 (sr [mt 51 2,
  A1 52 (.eq false true (.iface [74]) (.t 51) (.c .nili)),
  mt 53 52,
  A2 54 53 true (.mv (.t 6)),
  A2 55 53 true (.eq false true (.iface [74]) (.t 54) (.c .nili)),
  A1 56 (.pick (.t 53) (.t 55) (.c (.bool false))),
  mt 57 56,
  A2 58 57 true (.mv (.t 8)),
  A2 59 57 true (.eq false true (.iface [74]) (.t 58) (.c .nili)),
  A1 60 (.pick (.t 57) (.t 59) (.c (.bool false))),
  mt 61 60,
  A2 62 61 true (.mv (.t 10)),
  A2 63 61 true (.eq false true (.iface [74]) (.t 62) (.c .nili)),
  A1 64 (.pick (.t 61) (.t 63) (.c (.bool false))),
  mt 65 64,
  A2 66 65 true (.fadr 51 (.t 4)),
  A2 67 65 true (.load false 1 (.t 66)),
  A2 68 65 true (.len 0 (.t 67)),
  A2 69 65 true (.ari .eql (.t 68) (cI 1)),
  A1 70 (.pick (.t 65) (.t 69) (.c (.bool false))),
  mt 71 70,
  A2 72 71 true (.load true 32 (.t 7)),
  A2 73 71 true (.load true 32 (.t 9)),
  A2 74 71 true (.eq false false (.ar 32 1 false .int) (.t 72) (.t 73)),
  A1 75 (.pick (.t 71) (.t 74) (.c (.bool false))),
  mt 76 75,
  A2 77 76 true (.load true 32 (.t 7)),
  A2 78 76 true (.load true 32 (.t 5)),
  A2 79 76 true (.eq true false (.ar 32 1 false .int) (.t 77) (.t 78)),
  A1 80 (.pick (.t 76) (.t 79) (.c (.bool false))),
  mt 0 80]
 (.ret)))))))))))
def f96 : LF := ⟨c96, 0, 0, 81, [.tmp 0]⟩
def D2 : Mc := ⟨fun _ => 0#64, fun _ => 0#64, 0#64, false, 0#64⟩
def LE : Mc := ⟨fun _ => 0#64, fun _ => 0#64, 0#64, true, 0#64⟩
theorem Anu : isI 0#64 = true := Ak
theorem Ale : AT 0#64 = 0 := Ak
theorem nx0 (pres : List (Dg × Pr)) : nx (Fc pres) D2.h ⟨D2.f, [], Pr.zero⟩ = (LE.h, none, ⟨D2.f, [Bf D2.f 0#64], Pr.zero⟩) := by
 show Of (Fc pres) D2.h 0#64 ⟨D2.f, [Bf D2.f 0#64], Pr.zero⟩ = _
 rw [Of, if_neg (by rw [Anu]; simp), if_pos Ale]
 rfl
theorem Yj (pres : List (Dg × Pr)) : Ei pres D2 = (none, [Bf D2.f 0#64], Pr.zero) := by
 rw [Ei, if_neg (by simp [D2]), if_neg Ak, nx0]
theorem Ag7 (pres : List (Dg × Pr)) : Tr pres D2 = LE := by
 rw [Tr, if_neg (by simp [D2]), if_neg Ak, nx0]; rfl
theorem Kc : ∀ n, JT (FK n).pres
 | 0 => fun h p hk => by simp [FK, Dv] at hk
 | n + 1 => by rw [FK]; exact QY _ _ (Kc n)
structure OkF15 (M : Seat) : Prop where
 o : OkOs M
 k96 : Al M 96 f96 = true
theorem HW {M : Seat} (ok : OkF15 M) (hne : ¬ LE.com = D2.com) : Af M 96 [] [] 0 (Q3 (.bool true) [] 0) := by
 have hP := Mz ok.o D2 (FK 16).pres 0
 rw [Yj] at hP
 have hV := OT ok.o D2.com (Bm D2.f 13 0) D2.h [Bf D2.f 0#64] Pr.zero
 have hv := Ajg (FK 16).pres (Kc 16) D2 (by rw [Yj])
 rw [Yj, Ag7] at hv
 rw [hv] at hV
 have hS := Gu ok.o.q.ok.toOkV D2.f D2.g D2.pc D2.xt Ak 0#64 rfl Ale Ak
 have hO0 := Sv ok.o.q.okA ok.o.d D2.f D2.g D2.pc false D2.xt
 have hO1 := Sv ok.o.q.okA ok.o.d LE.f LE.g LE.pc true LE.xt
 have e0 : Yo D2.f D2.g D2.pc false D2.xt = D2.com := rfl
 have e1 : Yo LE.f LE.g LE.pc true LE.xt = LE.com := rfl
 rw [e0] at hO0
 rw [e1] at hO1
 have hpv : TO D2 none [Bf D2.f 0#64] Pr.zero = Ao (Vf (Bm D2.f 13 0) D2.h [Bf D2.f 0#64] Pr.zero) .nili := rfl
 have hm0 : D2.v = mach (fun _ => 0#64) (fun _ => 0#64) 0#64 false 0#64 := rfl
 have hm1 : LE.v = mach (fun _ => 0#64) (fun _ => 0#64) 0#64 true 0#64 := rfl
 dsimp only at hP
 rw [hpv, hm0] at hP
 have hS : Af M 70 [.ptr 0 [], .ptr 1 []] [(0, mach (fun _ => 0#64) (fun _ => 0#64) 0#64 false 0#64)] 2 (Q3 .nili [(0, mach (fun _ => 0#64) (fun _ => 0#64) 0#64 true 0#64)] 2) := hS
 have hO0 : Af M 54 [.imm (mach (fun _ => 0#64) (fun _ => 0#64) 0#64 false 0#64)] [] 0 (Q3 (Ao (dg D2.com) .nili) [] 0) := hO0
 have hO1 : Af M 54 [.imm (mach (fun _ => 0#64) (fun _ => 0#64) 0#64 true 0#64)] [] 0 (Q3 (Ao (dg LE.com) .nili) [] 0) := hO1
 have hlen : ([Bf D2.f 0#64] : List Pf).length = 1 := rfl
 generalize D2.com = C0 at *
 generalize LE.com = C1 at *
 generalize Bm D2.f 13 0 = R0 at *
 generalize hL : [Bf D2.f 0#64] = L0 at *
 have hsp : Vf R0 D2.h L0 Pr.zero = .st 116 (.fcons 0 (dg R0) (.fcons 32 (.st 19 (.fcons 0 (.ar 1 16 (fun _ => W 0#64)) (.fcons 16 (W 0#64) (.fcons 17 (.bool false) (.fcons 18 (W 0#64) .fnil))))) (.fcons 51 (.lst 2 L0.length (Dz L0)) (.fcons 52 (At Pr.zero) .fnil)))) := rfl
 rw [hsp, hlen] at hP hV
 clear hsp hpv hv hL hlen e0 e1
 refine Ac ok.k96 rfl fun x hx => ?_
 refine es 2000 ?_; (simp only [f96, c96, LZ, seval])
 have zz := @mach.eq_1; refine El (Me ok.o.q.okA) ?_
 (simp only [Cb, Bp, seval])
 have zz := aq5 @AF.eq_1 Nw @Bo @BV @C6; refine El (PC ok.o.q.okA ok.o.q.ok.toOkS) ?_
 (simp only [AF, Nw, AR, Bp, BA, seval])
 have zz := aq3 @EA.eq_1 @mach.eq_1 @C6; refine IJ [16, 112, 113, 114, 116] [16, 112, 113] (hP) ?_
 (simp only [LW, EA, Bp, seval])
 have zz := aq2 @mach.eq_1 @dg.eq_1; refine CI (hO0) ?_
 (simp only [Cb, seval])
 have zz := aq3 @dg.eq_1 Mt @Bz; refine CI (hV) ?_
 (simp only [Cb, Bz, seval])
 have zz := @mach.eq_1; refine JO [16, 112] [16] (hS) ?_
 (simp only [Bp, LZ, seval])
 have zz := aq2 @mach.eq_1 @dg.eq_1; refine CI (hO1) ?_
 (simp only [Gw, hne, seval])
 exact Aq.mkZ hx [] ⟨rfl, rfl, rfl⟩
def c21 : LC := (sr [A1 10 (.mv (.c (.bool false)))]
 (sr [mt 20 0,
  mt 21 1,
  mt 22 2,
  kl 23 95 [(.t 20), (.t 21), (.c .nils), (.t 22)],
  mt 19 23,
  A1 24 (.ext (.t 19) 0),
  A1 25 (.ext (.t 19) 1),
  A1 26 (.ext (.t 19) 2),
  mt 11 24,
  mt 12 25,
  mt 13 26]
 (.seq (sr [mt 27 11,
  A1 28 (.eq false true .ptr (.t 27) (.c .nilp)),
  mt 29 28,
  ⟨(some 30), .call 96 [], (some (29, false))⟩,
  A2 31 29 false (.un .not (.t 30)),
  A1 32 (.pick (.t 29) (.c (.bool true)) (.t 31))]
 (.cond (.t 32) (sr [A1 10 (.mv (.c (.bool false)))]
 (.ret)) (.skip)))
 (sr [mt 33 11,
  mt 34 11,
  A1 35 (.nilc (.t 34)),
  A1 36 (.fadr 8209 (.t 35)),
  A1 37 (.load false 1 (.t 36)),
  mt 38 37,
  A2 39 38 false (.mv (.t 4)),
  A1 40 (.pick (.t 38) (.c (.bool true)) (.t 39)),
  A1 41 (.nilc (.t 33)),
  A1 42 (.fadr 8209 (.t 41)),
  A0 (.store 1 (.t 42) (.t 40))]
 (.seq (sr [mt 43 3,
  A1 44 (.ari .geq (.t 43) (cU 8192))]
 (.cond (.t 44) (.reg [mt 45 11,
  mt 46 3,
  A1 47 (.nilc (.t 45)),
  A1 48 (.fadr 8208 (.t 47)),
  A0 (.store 1 (.t 48) (.t 46))]) (.skip)))
 (sr [mt 50 11,
  mt 51 12,
  kl 52 97 [(.t 50), (.t 51)],
  mt 49 52,
  A1 53 (.ext (.t 49) 0),
  A1 54 (.ext (.t 49) 1),
  A1 14 (.alloc (.st (.cons (.ar 32 (.int .u8)) (.cons (.st (.cons (.ar 16 (.int .u64)) (.cons (.int .u64) (.cons .bool (.cons (.int .u64) .nil))))) (.cons .slice (.cons (.ar 64 (.int .u8)) .nil)))))),
  A0 (.store 116 (.t 14) (.t 53)),
  mt 15 54]
 (.seq (sr [mt 55 15,
  A1 56 (.eq true true (.iface [74]) (.t 55) (.c .nili))]
 (.cond (.t 56) (sr [mt 57 11,
  A1 58 (.nilc (.t 57)),
  A1 59 (.fadr 8209 (.t 58)),
  A1 60 (.load false 1 (.t 59)),
  A1 61 (.un .not (.t 60)),
  mt 62 61,
  A2 63 62 true (.mv (.t 11)),
  A2 64 62 true (.nilc (.t 63)),
  A2 65 62 true (.fadr 8208 (.t 64)),
  A2 66 62 true (.load false 1 (.t 65)),
  A2 67 62 true (.ari .lss (.t 66) (cU 8192)),
  A1 68 (.pick (.t 62) (.t 67) (.c (.bool false))),
  mt 10 68]
 (.ret)) (.skip)))
 (.seq (sr [A1 69 (.fadr 51 (.t 14)),
  A1 70 (.load false 1 (.t 69)),
  A1 71 (.len 0 (.t 70)),
  A1 72 (.mv (cI 0))]
 (.block 0 (.loop (sr [A1 73 (.ari .lss (.t 72) (.t 71))]
 (.seq (.cond (.t 73) (.skip) (.exit 0))
 (.seq (.block 1 (sr [A1 74 (.isl 2 (.t 70) (.t 72)),
  A1 75 (.load true 2 (.t 74)),
  A1 17 (.alloc (.st (.cons (.int .u64) (.cons .slice .nil)))),
  A0 (.store 2 (.t 17) (.t 75))]
 (sr [A1 76 (.fadr 1 (.t 17)),
  A1 77 (.load false 1 (.t 76)),
  A1 78 (.len 0 (.t 77)),
  A1 79 (.ari .neq (.t 78) (cI 13))]
 (.cond (.t 79) (sr [A1 10 (.mv (.c (.bool false)))]
 (.ret)) (.skip)))))
 (.reg [A1 80 (.ari .add (.t 72) (cI 1)),
  mt 72 80])))))))
 (sr [mt 82 11,
  kl 83 55 [(.t 82)],
  mt 81 83,
  A1 84 (.ext (.t 81) 0),
  A1 85 (.ext (.t 81) 1),
  A1 18 (.alloc (.st (.cons (.ar 16 (.int .u64)) (.cons (.int .u64) (.cons .bool (.cons (.int .u64) .nil)))))),
  A0 (.store 19 (.t 18) (.t 84)),
  mt 15 85]
 (.seq (.regd [⟨0, 0, mt 86 15⟩,
  ⟨1, 1, A1 87 (.eq false true (.iface [74]) (.t 86) (.c .nili))⟩,
  ⟨2, 3, mt 88 87⟩,
  ⟨3, 7, A2 89 88 true (.fadr 32 (.t 14))⟩,
  ⟨4, 15, A2 90 88 true (.load true 19 (.t 89))⟩,
  ⟨5, 7, A2 91 88 true (.load true 19 (.t 18))⟩,
  ⟨6, 63, A2 92 88 true (.eq false false (.st (.cons 0 16 true (.ar 16 1 false .int) (.cons 16 1 false .int (.cons 17 1 false .bool (.cons 18 1 false .int .nil))))) (.t 90) (.t 91))⟩,
  ⟨7, 127, A1 93 (.pick (.t 88) (.t 92) (.c (.bool false)))⟩,
  ⟨8, 255, mt 94 93⟩,
  ⟨9, 511, A2 95 94 true (.fadr 51 (.t 14))⟩,
  ⟨10, 1023, A2 96 94 true (.load false 1 (.t 95))⟩,
  ⟨11, 2047, A2 97 94 true (.len 0 (.t 96))⟩,
  ⟨12, 4095, A2 98 94 true (.ari .leq (.t 97) (cI 13))⟩,
  ⟨13, 8191, A1 99 (.pick (.t 94) (.t 98) (.c (.bool false)))⟩,
  ⟨14, 16383, mt 100 99⟩,
  ⟨15, 32767, A2 101 100 true (.fadr 51 (.t 14))⟩,
  ⟨16, 65535, A2 102 100 true (.load false 1 (.t 101))⟩,
  ⟨17, 131071, A2 103 100 true (.len 0 (.t 102))⟩,
  ⟨18, 262143, A2 104 100 true (.ari .eql (.t 103) (cI 0))⟩,
  ⟨19, 32767, A2 105 100 true (.mv (.t 11))⟩,
  ⟨20, 557055, A2 106 100 true (.nilc (.t 105))⟩,
  ⟨21, 1605631, A2 107 100 true (.fadr 8209 (.t 106))⟩,
  ⟨22, 3702783, A2 108 100 true (.load false 1 (.t 107))⟩,
  ⟨23, 7897087, A2 109 100 true (.mv (.t 108))⟩,
  ⟨24, 16285695, A2 110 109 false (.mv (.t 11))⟩,
  ⟨25, 33062911, A2 111 109 false (.nilc (.t 110))⟩,
  ⟨26, 66617343, A2 112 109 false (.fadr 8208 (.t 111))⟩,
  ⟨27, 133726207, A2 113 109 false (.load false 1 (.t 112))⟩,
  ⟨28, 267943935, A2 114 109 false (.ari .geq (.t 113) (cU 8192))⟩,
  ⟨29, 536379391, A2 115 100 true (.pick (.t 109) (.c (.bool true)) (.t 114))⟩,
  ⟨30, 1073741823, A2 116 100 true (.eq false false .bool (.t 104) (.t 115))⟩,
  ⟨31, 2147483647, A1 117 (.pick (.t 100) (.t 116) (.c (.bool false)))⟩,
  ⟨32, 4294967295, mt 10 117⟩])
 (.ret)))))))))))
def f21 : LF := ⟨c21, 5, 0, 118, [.tmp 10]⟩
end Mv
