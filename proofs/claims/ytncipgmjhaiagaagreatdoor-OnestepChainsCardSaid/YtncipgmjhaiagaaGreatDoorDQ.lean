/- A part. -/
import Derived.Test.YtncipgmjhaiagaaGreatDoorDP
set_option linter.all false
set_option maxRecDepth 20000
set_option maxHeartbeats 64000000
namespace Mv
open Go
def dm (m : Mc) : Hp := [(7, Ba 8 9 m.pc m.hl m.xt), (8, .ar 1 8192 fun j => W (m.f j)), (9, .ar 1 16 fun j => W (m.g j))]
def SB := (aq3 @Qg @dm.eq_1 @Ba.eq_1)
def dN (t : RD) : Hp := dm t.m ++ [(10, .st 4 (.fcons 0 (.sl 11 [] 0 t.l.length 32) (.fcons 1 (.sl 12 [] 0 t.l.length 64) (.fcons 2 .nils (.fcons 3 (.bool t.met) .fnil))))), (11, .ar 32 t.l.length fun i => dg (rh t.l i)), (12, .ar 64 t.l.length fun i => At (rp t.l i))]
def dS (t : RD) : Hp := dm t.m ++ [(10, .st 4 (.fcons 0 (.sl 11 [] 0 t.l.length 32) (.fcons 1 (.sl 12 [] 0 t.l.length 64) (.fcons 2 (.sl 13 [] 0 t.n 32) (.fcons 3 (.bool t.met) .fnil))))), (11, .ar 32 t.l.length fun i => dg (rh t.l i)), (12, .ar 64 t.l.length fun i => At (rp t.l i)), (13, .ar 32 t.n fun i => dg (t.q i))]
noncomputable def dH (t : RD) : Hp := if t.n = 0 then dN t else dS t
def atL : LC := (sr [A1 73 (.ari .lss (.t 72) (.t 71))]
 (.seq (.cond (.t 73) (.skip) (.exit 2))
 (.seq (.block 3 (sr [mt 74 13,
  mt 75 11,
  kl 76 70 [(.t 74), (.t 75)]]
 (.reg [mt 77 15,
  mt 78 12,
  kl 79 240 [(.t 77), (.t 78)]])))
 (.reg [A1 80 (.ari .add (.t 72) (cI 1)),
  mt 72 80]))))
def atT : LC := (sr [mt 81 13,
 mt 82 11,
 mt 83 15,
 mt 8 81,
 mt 9 82,
 mt 10 83]
 (.ret))
noncomputable def atH (s : SM) (m : Mc) : Hp := ZJ s ++ dm m
def Ya (n : Int) : Nat := (BitVec.ofInt 64 n % 60#64).toNat
theorem RL (n : Int) : Ya n < 60 := by rw [Ya, BitVec.toNat_umod]; exact Nat.mod_lt _ Ak
theorem Zo (n : Int) : (BitVec.ofInt 64 n % 60#64).toInt = (Ya n : Int) := by
 have := RL n
 rw [BitVec.toInt_eq_toNat_cond, if_pos (by unfold Ya at this; omega)]; rfl
def gI (rs : List (BitVec 64)) (i j : Nat) : BitVec 64 := if j < i then rs.getD j 0 else 0#64
def Ta (w : WS) (f : Nat → BitVec 64) (rs : List (BitVec 64)) (i : Nat) : SM := ⟨w, [], 0, fun _ => Dg.zero, ⟨f, gI rs i, 0#64, false, 0#64⟩⟩
def SE (rl : List (Dg × Pr)) (met : Bool) (f : Nat → BitVec 64) (rs : List (BitVec 64)) (i : Nat) : RD := ⟨rl, met, 0, fun _ => Dg.zero, ⟨f, gI rs i, 0#64, false, 0#64⟩⟩
def atG : LC := (sr [A1 46 (.ari .lss (.t 45) (.t 44))]
 (.seq (.cond (.t 46) (.skip) (.exit 0))
 (.seq (.block 1 (sr [mt 47 45,
  mt 16 47]
 (.regd [⟨0, 0, mt 48 13⟩,
  ⟨1, 0, mt 49 16⟩,
  ⟨2, 0, mt 50 15⟩,
  ⟨3, 4, A1 51 (.nilc (.t 50))⟩,
  ⟨4, 12, A1 52 (.fadr 1 (.t 51))⟩,
  ⟨5, 28, A1 53 (.load false 1 (.t 52))⟩,
  ⟨7, 0, mt 55 1⟩,
  ⟨8, 0, mt 56 16⟩,
  ⟨9, 192, A1 57 (.isl 1 (.t 55) (.t 56))⟩,
  ⟨10, 448, A1 58 (.load false 1 (.t 57))⟩,
  ⟨11, 0, mt 59 1⟩,
  ⟨12, 0, mt 60 16⟩,
  ⟨13, 3072, A1 61 (.isl 1 (.t 59) (.t 60))⟩,
  ⟨14, 7168, A1 62 (.load false 1 (.t 61))⟩,
  ⟨15, 1, A1 63 (.nilc (.t 48))⟩,
  ⟨16, 16385, A1 64 (.fadr 8192 (.t 63))⟩,
  ⟨17, 65535, A1 65 (.iarr 16 1 (.t 64) (.t 49))⟩,
  ⟨18, 131071, A0 (.store 1 (.t 65) (.t 58))⟩,
  ⟨6, 0, mt 54 16⟩,
  ⟨19, 524287, A1 66 (.isl 1 (.t 53) (.t 54))⟩,
  ⟨20, 1048575, A0 (.store 1 (.t 66) (.t 62))⟩])))
 (.reg [A1 67 (.ari .add (.t 45) (cI 1)),
  mt 45 67]))))
def atR : LC := (.seq (sr [mt 68 3,
 A1 69 (.conv .u64 (.t 68)),
 A1 70 (.ari .rem (.t 69) (cU 60)),
 A1 71 (.conv .i64 (.t 70)),
 A1 72 (.mv (cI 0))]
 (.block 2 (.loop (sr [A1 73 (.ari .lss (.t 72) (.t 71))]
 (.seq (.cond (.t 73) (.skip) (.exit 2))
 (.seq (.block 3 (sr [mt 74 13,
  mt 75 11,
  kl 76 70 [(.t 74), (.t 75)]]
 (.reg [mt 77 15,
  mt 78 12,
  kl 79 240 [(.t 77), (.t 78)]])))
 (.reg [A1 80 (.ari .add (.t 72) (cI 1)),
  mt 72 80])))))))
 (sr [mt 81 13,
  mt 82 11,
  mt 83 15,
  mt 8 81,
  mt 9 82,
  mt 10 83]
 (.ret)))
structure OkAt (M : Seat) : Prop where
 t : OkT M
 r : OkRH M
 kx : OkI75 M
 k95 : Al M 95 f95 = true
 k196 : Al M 196 Qz = true
theorem Apa {M : Seat} (T : Nat → SM) (U : Nat → RD) (n : Nat) (hn : n < 300) (hs : (T 0).n = 0) (ht : (U 0).n = 0) (hst : ∀ i, i < n → S7 M (T i) (T (i + 1))) (htt : ∀ i, i < n → TrD M (U i) (U (i + 1))) {x : Ctx} (hx : x.k = 0) {A : List V} {H : Hp} {N : Nat}
 (hw : Aj M x A H N (fr 84 [(11, .ptr 0 []), (12, .ptr 10 []), (13, .ptr 5 []), (15, .ptr 7 []), (71, .int .i64 n), (72, .int .i64 (0 : Nat))]) (Nh (T 0) ++ dN (U 0)) 14) :
 Gz M x (Aq M x [RVr.tmp 8, RVr.tmp 9, RVr.tmp 10] fun r H' k' => r = BD (.ptr 5 []) (.ptr 0 []) (.ptr 7 []) ∧ H' = atH (T n) (U n).m ∧ k' = 14) atL [.blk 2, .code atT] A H N := by
 have hv : ∀ m : Mc, m.v = mach m.f m.g m.pc m.hl m.xt := fun _ => rfl
 refine Ag (σ := Nat) (fun i => i ≤ n) (fun i => fr 84 [(11, .ptr 0 []), (12, .ptr 10 []), (13, .ptr 5 []), (15, .ptr 7 []), (71, .int .i64 n), (72, .int .i64 i)]) (fun i => ZJ (T i) ++ dH (U i)) (fun _ => 14) (fun i => n - i) 0 Aa ?_ ?_
 ·rw [show ZJ (T 0) = Nh (T 0) from if_pos hs, show dH (U 0) = dN (U 0) from if_pos ht]
  exact hw
 ·intro i hi
  have w0 : IntKind.i64.wrap ((i : Int) + 1) = ((i + 1 : Nat) : Int) := A9
  by_cases hin : i = n
  ·subst hin
   have d0 : ((i : Int) < (i : Int)) = False := eq_false Aa
   rw [atH]
   by_cases hz : (T i).n = 0 <;> by_cases hy : (U i).n = 0
   all_goals
    simp only [ZJ, dH, hz, hy, CD]
    refine es 2000 ?_
    (simp only [atL, atT, d0, Qg, hv, dN, dS, dm, Fj, seval])
    refine Aq.mk hx [0, 1, 2, 3, 4, 5, 6, 7, 8, 9, 10, 11, 12, 13] [] (BD (.ptr 5 []) (.ptr 0 []) (.ptr 7 [])) _ 14 Ak (by simp only [Fk, BD, IY, seval]) (by simp only [IT, BD, IY, seval]) ?_ ⟨rfl, rfl, rfl⟩
    simp only [SB, hv, Ik, dN, dS, seval]
  ·have d0 : ((i : Int) < (n : Int)) = True := eq_true Aa
   refine es 2000 ?_
   have hi1 : i + 1 ≤ n := Aa
   have hst := hst i hi1
   have htt := htt i hi1
   generalize hσ' : T (i + 1) = σ' at *
   generalize hσ : T i = σ at *
   generalize hτ' : U (i + 1) = τ' at *
   generalize hτ : U i = τ at *
   by_cases hz : σ.n = 0 <;> by_cases hy : τ.n = 0
   all_goals
    first | rw [show ZJ σ = Nh σ from if_pos hz] | rw [show ZJ σ = Sh 6 σ from if_neg hz]
    first | rw [show dH τ = dN τ from if_pos hy] | rw [show dH τ = dS τ from if_neg hy]
    (simp only [atL, d0, Qg, hv, dN, dS, dm, Fj, Vl, seval])
    rcases hst.1 with ⟨h, hw⟩ | ⟨h0, h1', h6⟩ | ⟨h0, h1', h62⟩ | ⟨h0, h1', h6⟩ | ⟨h0, h1', h62⟩
    all_goals try (exact absurd h0 Aa)
    all_goals first
     | (have w1 : σ'.w = σ.w := by rw [hw]
        have w2 : σ'.l = σ.l := by rw [hw]
        have w3 : σ'.n = σ.n := by rw [hw]
        have w4 : σ'.q = σ.q := by rw [hw]
        have hm : Af M 70 [.ptr 0 [], .ptr 1 []] [(0, σ.m.v)] 2 _ := h
        rw [hv σ.m] at hm
        clear hw
        (have zz := aq2 @mach.eq_1 hv; refine JO [5, 0] [5] (hm) ?_))
     | (have w1 := hv
        have w2 := hv
        have w3 := hv
        have w4 := hv
        first | have hm := h6 | have hm := h62
        simp only [Nh, Sh, hv σ.m] at hm
        first
        | (have hm : Af M 70 [.ptr 5 [], .ptr 0 []] _ 6 _ := hm
           (have zz := aq3 @Qg hv GM; refine Fl [0, 1, 2, 3, 4, 5] (hm) ?_))
        | (have hm : Af M 70 [.ptr 5 [], .ptr 0 []] _ 7 _ := hm
           (have zz := aq3 @Qg hv GM; refine Fl [0, 1, 2, 3, 4, 5, 6] (hm) ?_)))
    all_goals
     (simp only [Qg, hv, AR, BA, seval])
     rcases htt with ⟨hd, u1, u2, u3, u4⟩ | ⟨k0, h1'', hd0⟩ | ⟨k0, h1'', hd1⟩ | ⟨k0, h1'', hd2⟩ | ⟨k0, h1'', hd0⟩ | ⟨k0, h1'', hd1⟩ | ⟨k0, h1'', hd2⟩
     all_goals try (exact absurd k0 Aa)
     all_goals first
      | (have hd : Af M _ _ _ 4 _ := hd
         rw [Fx, Cc] at hd
         (have zz := aq3 @Fx.eq_1 @Cc.eq_1 @Ba.eq_1; refine JO [7, 8, 9, 10] [7, 8, 9] (hd) ?_))
      | (have u1 := hv
         have u2 := hv
         have u3 := hv
         have u4 := hv
         first | have hd := hd0 | have hd := hd1 | have hd := hd2
         first
         | (have hd : Af M _ _ _ 6 _ := hd
            (have zz := Apk @rN.eq_1 @rNG.eq_1 @rS.eq_1 @rSG.eq_1 @rST.eq_1 @Fx.eq_1 @Cc.eq_1 @YI.eq_1 @NL.eq_1 @Qj.eq_1 @NW.eq_1 @Jn.eq_1 UW @CO.eq_1 Vl; refine Fl [7, 8, 9, 10, 11, 12] (hd) ?_))
         | (have hd : Af M _ _ _ 7 _ := hd
            (have zz := Apk @rN.eq_1 @rNG.eq_1 @rS.eq_1 @rSG.eq_1 @rST.eq_1 @Fx.eq_1 @Cc.eq_1 @YI.eq_1 @NL.eq_1 @Qj.eq_1 @NW.eq_1 @Jn.eq_1 UW @CO.eq_1 Vl; refine Fl [7, 8, 9, 10, 11, 12, 13] (hd) ?_)))
     all_goals
      (simp only [rN, rNG, rS, rSG, rST, Fx, Cc, YI, NL, Qj, NW, Jn, Qm, CO, Fq, Vl, LM, w0, seval])
      refine ⟨i + 1, hi1, by omega, ?_⟩
      rw [hσ', hτ']
      first | rw [show ZJ σ' = Nh σ' from if_pos Aa] | rw [show ZJ σ' = Sh 6 σ' from if_neg Aa]
      first | rw [show dH τ' = dN τ' from if_pos Aa] | rw [show dH τ' = dS τ' from if_neg Aa]
      first
      | (clear h62
         first
         | (clear hd1; refine Aj.fr [0, 1, 2, 3, 4, 5, 62, 7, 8, 9, 10, 110, 111, 13] [] hx Ax Ak ?_ ?_)
         | (clear hd2; refine Aj.fr [0, 1, 2, 3, 4, 5, 62, 7, 8, 9, 10, 11, 12, 110] [] hx Ax Ak ?_ ?_)
         | refine Aj.fr [0, 1, 2, 3, 4, 5, 62, 7, 8, 9, 10, 11, 12, 13] [] hx Ax Ak ?_ ?_)
      | (clear hd1; refine Aj.fr [0, 1, 2, 3, 4, 5, 6, 7, 8, 9, 10, 110, 111, 13] [] hx Ax Ak ?_ ?_)
      | (clear hd2; refine Aj.fr [0, 1, 2, 3, 4, 5, 6, 7, 8, 9, 10, 11, 12, 110] [] hx Ax Ak ?_ ?_)
      | refine Aj.fr [0, 1, 2, 3, 4, 5, 6, 7, 8, 9, 10, 11, 12, 13] [] hx Ax Ak ?_ ?_
      ·simp only [LY, seval]
      ·simp only [w1, w2, w3, w4, u1, u2, u3, u4, SB, hv, Ik, dN, dS, At, seval]
variable {M : Seat}
theorem Aom (ok : OkT M) (s : SM) : ∃ s', s.n < 1099511627776 → S7 M s s' ∧ s'.m = Tr s.w.pres s.m ∧ (JT s.w.pres → JT s'.w.pres) := by
 by_cases h : s.n < 1099511627776
 ·obtain ⟨s', hs⟩ := Ao4 ok s h
  exact ⟨s', fun _ => hs⟩
 ·exact ⟨s, fun h1 => absurd h1 h⟩
noncomputable def Ao7 (ok : OkT M) (s : SM) : SM := Classical.choose (Aom ok s)
theorem Aop (ok : OkT M) (s : SM) (h : s.n < 1099511627776) : S7 M s (Ao7 ok s) ∧ (Ao7 ok s).m = Tr s.w.pres s.m ∧ (JT s.w.pres → JT (Ao7 ok s).w.pres) := Classical.choose_spec (Aom ok s) h
noncomputable def itx (ok : OkT M) (s : SM) : Nat → SM
 | 0 => s
 | i + 1 => Ao7 ok (itx ok s i)
theorem Aor (ok : OkT M) (s : SM) (hn : s.n < 549755813888) : ∀ i, i < 549755813888 → (itx ok s i).n ≤ s.n + i
 | 0, _ => Nat.le_refl _
 | i + 1, h => by
   have h1 := Aor ok s hn i Aa
   have h2 := (Aop ok (itx ok s i) Aa).1.2
   show (Ao7 ok (itx ok s i)).n ≤ _
   omega
theorem Apg (ok : OkT M) (s : SM) (hn : s.n < 549755813888) (i : Nat) (hi : i < 549755813888) : S7 M (itx ok s i) (itx ok s (i + 1)) :=
 (Aop ok _ (by have := Aor ok s hn i hi; omega)).1
theorem Aot (ok : OkT M) (s : SM) (hn : s.n < 549755813888) (hp : JT s.w.pres) : ∀ i, i < 549755813888 → JT (itx ok s i).w.pres
 | 0, _ => hp
 | i + 1, h => (Aop ok _ (by have := Aor ok s hn i Aa; omega)).2.2 (Aot ok s hn hp i Aa)
theorem Ao6 (okT : OkT M) (okR : OkRH M) (w : WS) (rl : List (Dg × Pr)) (met : Bool) (hrl : rl.length < 2147483648) (f : Nat → BitVec 64) (rs : List (BitVec 64)) (k : Int) {x : Ctx} (hx : x.k = 0) {A : List V} {H : Hp} {N : Nat}
 (hw : Aj M x A H N (fr 84 [(1, Bn rs), (3, .int .i64 k), (11, .ptr 0 []), (12, .ptr 10 []), (13, .ptr 5 []), (15, .ptr 7 []), (44, .int .i64 (min rs.length 16 : Nat)), (45, .int .i64 (0 : Nat))]) (Nh (Ta w f rs 0) ++ dN (SE rl met f rs 0)) 14) :
 Gz M x (Aq M x [RVr.tmp 8, RVr.tmp 9, RVr.tmp 10] fun r H' k' => r = BD (.ptr 5 []) (.ptr 0 []) (.ptr 7 []) ∧ H' = atH (itx okT (Ta w f rs (min rs.length 16)) (Ya k)) (Ha okR (SE rl met f rs (min rs.length 16)) (Ya k)).m ∧ k' = 14) atG [.blk 0, .code atR] A H N := by
 have hv : ∀ m : Mc, m.v = mach m.f m.g m.pc m.hl m.xt := fun _ => rfl
 refine Ag (σ := Nat) (fun i => i ≤ min rs.length 16) (fun i => fr 84 [(1, Bn rs), (3, .int .i64 k), (11, .ptr 0 []), (12, .ptr 10 []), (13, .ptr 5 []), (15, .ptr 7 []), (44, .int .i64 (min rs.length 16 : Nat)), (45, .int .i64 i)]) (fun i => Nh (Ta w f rs i) ++ dN (SE rl met f rs i)) (fun _ => 14) (fun i => min rs.length 16 - i) 0 Aa hw ?_
 intro i hi
 by_cases hin : i = min rs.length 16
 ·subst hin
  have hlp := @Apa M (itx okT (Ta w f rs (min rs.length 16))) (Ha okR (SE rl met f rs (min rs.length 16))) (Ya k) (by have := RL k; omega) rfl rfl (fun i hi => Apg okT _ (by show 0 < _; omega) i (by have := RL k; omega)) (fun i hi => Ah1 okR _ (by show 0 < _; omega) hrl i (by have := RL k; omega)) x hx
  generalize min rs.length 16 = K at *
  have d0 : ((K : Int) < (K : Int)) = False := eq_false Aa
  have w0 : IntKind.i64.wrap (Ya k : Int) = (Ya k : Int) := by have := RL k; rw [AI Aa]
  have e1 : ∀ s, itx okT s 0 = s := fun _ => rfl
  have e2 : ∀ s, Ha okR s 0 = s := fun _ => rfl
  rw [e1, e2] at hlp
  generalize hS : Ta w f rs K = s at *
  generalize hD : SE rl met f rs K = t at *
  refine es 2000 ?_
  (simp only [atG, atR, d0, Qg, hv, dN, dm, Fj, Zo, w0, seval])
  refine hlp ?_
  refine Aj.fr [0, 1, 2, 3, 4, 5, 6, 7, 8, 9, 10, 11, 12, 13] [] hx Ax Ak ?_ ?_
  ·simp only [LY, seval]
  ·simp only [SB, hv, Ik, dN, At, seval]
 ·have d0 : ((i : Int) < ((min rs.length 16 : Nat) : Int)) = True := eq_true Aa
  have w0 : IntKind.i64.wrap ((i : Int) + 1) = ((i + 1 : Nat) : Int) := A9
  have g1 : ∀ j, gI rs (i + 1) j = if j = i then rs.getD i 0 else gI rs i j := fun j => by
   unfold gI
   by_cases h : j = i
   ·subst h; rw [if_pos Aa, if_pos rfl]
   ·rw [if_neg h]
    by_cases h2 : j < i
    ·rw [if_pos h2, if_pos Aa]
    ·rw [if_neg h2, if_neg Aa]
  have hi1 : i < rs.length := Aa
  have hi2 : i < 16 := Aa
  refine es 2000 ?_
  (simp only [atG, d0, w0, Qg, hv, Ta, SE, dN, dm, Fj, Bn, ws, seval])
  repeat refine sd ?_
  refine ⟨i + 1, by omega, by omega, ?_⟩
  refine Aj.fr [0, 1, 2, 3, 4, 5, 6, 7, 8, 9, 10, 11, 12, 13] [] hx Ax Ak ?_ ?_
  ·simp only [Bn, ws, LY, seval]
  ·simp only [g1, JZ, SB, hv, Ta, SE, Ik, dN, At, seval]
noncomputable def Ao1 (R : List (Dg × Pr) × Bool) (p : Pr) : List (Dg × Pr) × Bool := if Gq R.1 (CE p) = R.1.length then (R.1 ++ [(CE p, p)], R.2) else (P4 R.1 p, Xk R.1 R.2 p)
noncomputable def Aoe (R : List (Dg × Pr) × Bool) (pf : Nat → Pr) : Nat → List (Dg × Pr) × Bool
 | 0 => R
 | n + 1 => Ao1 (Aoe R pf n) (pf n)
def Aog (w : WS) (pf : Nat → Pr) : Nat → WS
 | 0 => w
 | n + 1 => (Aog w pf n).add (pf n)
theorem Ao5 (R : List (Dg × Pr) × Bool) (p : Pr) : (Ao1 R p).1.length ≤ R.1.length + 1 := by
 rw [Ao1]; split
 ·simp only [Lc4]; omega
 ·simp only [P4, List.length_set]; omega
theorem Aol (R : List (Dg × Pr) × Bool) (pf : Nat → Pr) : ∀ n, (Aoe R pf n).1.length ≤ R.1.length + n
 | 0 => Nat.le_refl _
 | n + 1 => by
   have h := Aol R pf n
   have h2 := Ao5 (Aoe R pf n) (pf n)
   rw [Aoe]; omega
theorem Aoo {M : Seat} (okA : OkM M) (okS : OkS M) (okB : OkB M) (ok : OkR M) (n : Nat) (hn : n < 9223372036854775808) (pf : Nat → Pr) :
 Af M 73 [.lst 64 n fun i => At (pf i)] [] 0 (Q3 (Ao (.ptr 0 []) (.ptr 5 [])) (AF (Aog (FK 16) pf (min n 50)) .nils [] ++ RO (Aoe (BL 16) pf (min n 50)).1 (Aoe (BL 16) pf (min n 50)).2) 8) := by
 have hw0 : Aog (FK 16) pf 0 = FK 16 := rfl
 have hr0 : Aoe (BL 16) pf 0 = BL 16 := rfl
 have hws : ∀ i, Aog (FK 16) pf (i + 1) = (Aog (FK 16) pf i).add (pf i) := fun _ => rfl
 have hrs : ∀ i, Aoe (BL 16) pf (i + 1) = Ao1 (Aoe (BL 16) pf i) (pf i) := fun _ => rfl
 have hrl : ∀ i, (Aoe (BL 16) pf i).1.length ≤ 16 + i := fun i => by have := Aol (BL 16) pf i; have := Ku 16; omega
 have hN := PC okA okS
 have hR := Um okB ok
 generalize Aog (FK 16) pf = T at *
 generalize Aoe (BL 16) pf = U at *
 generalize FK 16 = w at *
 generalize BL 16 = R at *
 subst hw0 hr0
 refine Ac ok.k73 rfl fun x hx => ?_
 refine es 2000 ?_; (simp only [f73, c73, LZ, seval])
 have zz := aq4 @AF.eq_1 Nw @C6 @BV; refine El (hN) ?_
 (simp only [AF, Nw, AR, BA, seval])
 have zz := aq3 @GT.eq_1 Ft @C6; refine El (hR) ?_
 (simp only [AF, Nw, AR, GT, Ft, BA, seval])
 refine Ag (σ := Nat) (fun i => i ≤ min n 50) (fun i => fr 31 [(4, .ptr 0 []), (5, .ptr 5 []), (13, .lst 64 n fun i => At (pf i)), (14, .int .i64 n), (15, .int .i64 i)]) (fun i => AF (T i) .nils [] ++ RO (U i).1 (U i).2) (fun _ => 8) (fun i => min n 50 - i) 0 Aa ?_ ?_
 ·refine Aj.fr [32, 33, 34, 35, 36, 48, 49, 50] [] hx Ax Ak ?_ ?_
  ·simp only [CF, seval]
  ·simp only [G0, RO, BJ, Ik, seval]
 ·intro i hi
  have w0 : IntKind.i64.wrap ((i : Int) + 1) = ((i + 1 : Nat) : Int) := A9
  refine es 2000 ?_
  by_cases hin : i = n
  ·have d0 : ((i : Int) < (n : Int)) = False := eq_false Aa
   have e : min n 50 = i := Aa
   rw [e]
   (simp only [d0, G0, RO, Ft, LZ, seval])
   refine ID hx [0, 1, 2, 3, 4, 5, 6, 7] (Ao (.ptr 0 []) (.ptr 5 [])) (AF (T i) .nils [] ++ RO (U i).1 (U i).2) 8 ?_
   all_goals simp only [G0, RO, BJ, Ik, Ao, IY, LM, seval]
  have d0 : ((i : Int) < (n : Int)) = True := eq_true Aa
  by_cases h50 : i = 50
  ·have d1 : ((50 : Int) ≤ (i : Int)) = True := eq_true Aa
   have e : min n 50 = i := Aa
   rw [e]
   (simp only [d0, d1, G0, RO, Ft, BA, seval])
   repeat refine sd ?_
   refine ID hx [0, 1, 2, 3, 4, 5, 6, 7] (Ao (.ptr 0 []) (.ptr 5 [])) (AF (T i) .nils [] ++ RO (U i).1 (U i).2) 8 ?_
   all_goals simp only [G0, RO, BJ, Ik, Ao, IY, LM, seval]
  have d1 : ((50 : Int) ≤ (i : Int)) = False := eq_false Aa
  have hl := hrl i
  have hA0 := Mx okA okS (T i) (pf i)
  have hTs := hws i
  have hUs := hrs i
  generalize hT1 : T (i + 1) = T1 at *
  generalize hU1 : U (i + 1) = U1 at *
  generalize T i = T0 at *
  generalize U i = U0 at *
  obtain ⟨l, met⟩ := U0
  dsimp only at hl
  by_cases hk : Gq l (CE (pf i)) = l.length
  ·have hA := JW okB ok (pf i) met l Aa hk
   rw [Ao1, if_pos hk] at hUs
   (simp only [d0, d1, AF, RO, BA, Vl, seval])
   repeat refine sd ?_
   have zz := aq3 @C6 @Fo.eq_1 Nw; refine JO [0, 1, 2, 3, 4] [0, 1, 2, 3] (hA0) ?_
   (simp only [Gw, Fo, AR, seval])
   have zz := aq4 Ft @GT.eq_1 @RX.eq_1 @C6; refine Fl [5, 6, 7] (hA) ?_
   (simp only [Nw, Ft, RX, BA, w0, seval])
   refine ⟨i + 1, by omega, by omega, ?_⟩
   rw [hT1, hU1, hTs, hUs]
   refine Aj.fr [0, 1, 2, 3, 4, 5, 232, 233] [] hx Ax Ak ?_ ?_
   ·simp only [CF, seval]
   ·simp only [G0, RO, BJ, Ik, seval]
  ·have hA := Kr okB ok (pf i) met l Aa hk
   rw [Ao1, if_neg hk] at hUs
   (simp only [d0, d1, AF, RO, BA, Vl, seval])
   repeat refine sd ?_
   have zz := aq3 @C6 @Fo.eq_1 Nw; refine JO [0, 1, 2, 3, 4] [0, 1, 2, 3] (hA0) ?_
   (simp only [Gw, Fo, AR, seval])
   have zz := aq3 Ft @GT.eq_1 @C6; refine Fl [5, 6, 7] (hA) ?_
   (simp only [Nw, Ft, GT, BA, w0, seval])
   refine ⟨i + 1, by omega, by omega, ?_⟩
   rw [hT1, hU1, hTs, hUs]
   refine Aj.fr [0, 1, 2, 3, 4, 5, 6, 7] [] hx Ax Ak ?_ ?_
   ·simp only [CF, seval]
   ·simp only [G0, RO, BJ, Ik, seval]
variable {M : Seat}
theorem Aoq (ok : OkAt M) (w : WS) (R : List (Dg × Pr) × Bool) (hrn : R.1.length < 2147483648) (pv : V) (hpv : ∀ H m z, Bd H m z pv pv) (hSt : Af M 73 [pv] [] 0 (Q3 (Ao (.ptr 0 []) (.ptr 5 [])) (AF w .nils [] ++ RO R.1 R.2) 8)) (l : List In) (v : V) (hv : Aer l v) (hl : l.length < 9223372036854775808) (rs : List (BitVec 64)) (rv : V) (hr : rv = Bn rs ∨ (rv = .nils ∧ rs = [])) (hrl : rs.length < 9223372036854775808) (k : Int) :
 Af M 95 [v, rv, pv, .int .i64 k] [] 0 (Q3 (BD (.ptr 5 []) (.ptr 0 []) (.ptr 7 [])) (atH (itx ok.t (Ta w (ldM l).f rs (min rs.length 16)) (Ya k)) (Ha ok.r (SE R.1 R.2 (ldM l).f rs (min rs.length 16)) (Ya k)).m) 14) := by
 have okA := ok.t.okA
 have okW := ok.t.ok.toOkW
 have okI := okW.toOkI
 have okS := okI.toOkV.toOkS
 have okB := ok.r.b
 have okR := ok.r.g.r
 have hLN : l = [] → Af M 74 [.nils] [] 0 (Q3 (Ao (.ptr 0 []) .nili) [(0, (ldM l).v)] 1) := fun h => by subst h; exact Me okA
 have hRN : l = [] → Af M 196 [.nils] [] 0 (Q3 (.ptr 0 []) (Fx (ldM l)) 3) := fun h => by subst h; exact O1 ok.k196
 have hWN : l = [] → Af M 75 [Hl l] [] 0 (Q3 .nils [] 0) := fun h => by subst h; exact C4 okI ok.kx _ (.inr rfl)
 have hv' : (v = .nils ∧ l = []) ∨ (v = Hl l ∧ l = []) ∨ (v = Hl l ∧ 0 < l.length) := by
  rcases hv with h | h
  ·by_cases h0 : l = []
   ·exact .inr (.inl ⟨h, h0⟩)
   ·exact .inr (.inr ⟨h, List.length_pos_iff.2 h0⟩)
  ·exact .inl h
 have hlp := @Ao6 M ok.t ok.r w R.1 R.2 hrn (ldM l).f rs k
 have hW := Rb okI ok.kx l
 have hLL : Af M 74 _ [] 0 (Q3 (Ao (.ptr 0 []) .nili) [(0, (ldM l).v)] 1) := RC okA (min l.length 8192) (Nat.min_le_right _ _) (fun j => G7 (l.getD j default))
 have hRL : Af M 196 _ [] 0 (Q3 (.ptr 0 []) (Fx (ldM l)) 3) := OB ok.k196 (min l.length 8192) (Nat.min_le_right _ _) (fun j => G7 (l.getD j default))
 have hm : ∃ f, ldM l = ⟨f, fun _ => 0#64, 0#64, false, 0#64⟩ := ⟨_, rfl⟩
 obtain ⟨rl, met⟩ := R
 generalize ldM l = m at *
 obtain ⟨f, rfl⟩ := hm
 have hNv : ∀ m : Mc, AD m.v := fun m => by simp only [Mc.v, mach, AD, Ru, implies_true, and_self]
 have hSv : ∀ (m : Mc) H a z, Aw H a z m.v m.v := fun m H a z => by simp only [Mc.v, mach, LY, seval]
 have hFv : ∀ m : Mc, m.v = mach m.f m.g m.pc m.hl m.xt := fun _ => rfl
 have hg0 : ∀ j, gI rs 0 j = 0#64 := fun j => if_neg Aa
 have hrv : rv = .nils → rs = [] := fun h => by
  rcases hr with h1 | h1
  ·rw [h] at h1; cases h1
  ·exact h1.2
 have mz : ((min (0 : Nat) 16 : Nat) : Int) = 0 := rfl
 refine Ac ok.k95 rfl fun x hx => ?_
 have hlp := @hlp x hx
 have hr' : rv = Bn rs ∨ rv = .nils := hr.imp id (fun h => h.1)
 clear hr hv
 rcases hr' with rfl | rfl
 case' inr => obtain rfl := hrv rfl
 all_goals rcases hv' with ⟨rfl, h0⟩ | ⟨rfl, h0⟩ | ⟨rfl, h0⟩
 all_goals
  refine es 2000 ?_; (simp only [f95, c95, Bn, LZ, seval])
  have zz := aq6 PR G0 @RO.eq_1 Ft @BV hpv; refine El (hSt) ?_
  (simp only [Sq, RO, Ft, seval])
  first
  | (refine Ah (C4 okI ok.kx .nils (.inl rfl)) ?_
     (simp only [LZ, seval])
     have zz := aq4 hFv @mach.eq_1 hNv hSv; refine El (hLN h0) ?_
     (simp only [Cb, hFv, mach, seval])
     refine Ah (C4 okI ok.kx .nils (.inl rfl)) ?_
     (simp only [LZ, seval])
     (have zz := aq5 @Fx.eq_1 @Cc.eq_1 @Ba.eq_1 hNv hSv; refine El (hRN h0) ?_))
  | ((have zz := MK; refine CI (hWN h0) ?_)
     (simp only [LZ, seval])
     have zz := aq4 hFv @mach.eq_1 hNv hSv; refine El (hLN h0) ?_
     (simp only [Cb, hFv, mach, seval])
     have zz := MK; refine CI (hWN h0) ?_
     (simp only [LZ, seval])
     (have zz := aq5 @Fx.eq_1 @Cc.eq_1 @Ba.eq_1 hNv hSv; refine El (hRN h0) ?_))
  | ((have zz := MK; refine El (hW h0 hl) ?_)
     (simp only [LZ, seval])
     have zz := aq4 hFv @mach.eq_1 hNv hSv; refine El (hLL) ?_
     (simp only [Cb, hFv, mach, seval])
     have zz := MK; refine El (hW h0 hl) ?_
     (simp only [LZ, seval])
     (have zz := aq5 @Fx.eq_1 @Cc.eq_1 @Ba.eq_1 hNv hSv; refine El (hRL) ?_))
  (simp only [Fx, Cc, Fj, Bn, seval])
  refine hlp ?_
  refine Aj.fr [64, 65, 66, 67, 68, 192, 1, 320, 321, 322, 69, 70, 71, 2] [] hx Ax Ak ?_ ?_
  ·simp only [Bn, LY, seval]
   first | omega | (simp only [List.length_nil]; decide) | (simp; decide) | (simp; rfl)
  ·simp only [hg0, SB, hFv, mach, Ta, SE, Ik, dN, At, seval]
def Ao9 (n : Nat) (pf : Nat → Pr) (pv : V) : Prop := pv = (.lst 64 n fun i => At (pf i)) ∨ (pv = .nils ∧ n = 0)
noncomputable def Aox (ok : OkAt M) (l : List In) (rs : List (BitVec 64)) (n : Nat) (pf : Nat → Pr) (k : Int) : SM := itx ok.t (Ta (Aog (FK 16) pf (min n 50)) (ldM l).f rs (min rs.length 16)) (Ya k)
noncomputable def Apd (ok : OkAt M) (l : List In) (rs : List (BitVec 64)) (n : Nat) (pf : Nat → Pr) (k : Int) : RD := Ha ok.r (SE (Aoe (BL 16) pf (min n 50)).1 (Aoe (BL 16) pf (min n 50)).2 (ldM l).f rs (min rs.length 16)) (Ya k)
theorem Ao3 (ok : OkAt M) (l : List In) (v : V) (hv : Aer l v) (hl : l.length < 9223372036854775808) (rs : List (BitVec 64)) (rv : V) (hr : rv = Bn rs ∨ (rv = .nils ∧ rs = [])) (hrl : rs.length < 9223372036854775808) (n : Nat) (hn : n < 9223372036854775808) (pf : Nat → Pr) (pv : V) (hpv : Ao9 n pf pv) (k : Int) :
 Af M 95 [v, rv, pv, .int .i64 k] [] 0 (Q3 (BD (.ptr 5 []) (.ptr 0 []) (.ptr 7 [])) (atH (Aox ok l rs n pf k) (Apd ok l rs n pf k).m) 14) := by
 have okS := ok.t.ok.toOkW.toOkI.toOkV.toOkS
 have hL := Aoo ok.t.okA okS ok.r.b ok.r.g.r n hn pf
 have hN := NV ok.t.okA okS ok.r.b ok.r.g.r
 have hrn : (Aoe (BL 16) pf (min n 50)).1.length < 2147483648 := by
  have := Aol (BL 16) pf (min n 50); have := Ku 16; omega
 have e0 : n = 0 → Aog (FK 16) pf (min n 50) = FK 16 ∧ Aoe (BL 16) pf (min n 50) = BL 16 := fun h => by subst h; exact ⟨rfl, rfl⟩
 unfold Aox Apd
 generalize Aog (FK 16) pf (min n 50) = w at *
 generalize Aoe (BL 16) pf (min n 50) = R at *
 rcases hpv with rfl | ⟨rfl, h0⟩
 ·exact Aoq ok w R hrn _ (fun H m z => by simp only [CF, seval]) hL l v hv hl rs rv hr hrl k
 ·obtain ⟨e1, e2⟩ := e0 h0
  generalize FK 16 = w0 at *
  generalize BL 16 = R0 at *
  subst e1 e2
  exact Aoq ok w R hrn _ (fun H m z => by simp only [LY, seval]) hN l v hv hl rs rv hr hrl k
def Mc.com (m : Mc) : Dg := Yo m.f m.g m.pc m.hl m.xt
def Ei (pres : List (Dg × Pr)) (m : Mc) : Option Int × List Pf × Pr :=
 if m.hl = true then (none, [], Pr.zero) else if 8192#64 ≤ m.pc then (none, [], Pr.zero)
 else ((nx (Fc pres) m.h ⟨m.f, [], Pr.zero⟩).2.1, (nx (Fc pres) m.h ⟨m.f, [], Pr.zero⟩).2.2.l, (nx (Fc pres) m.h ⟨m.f, [], Pr.zero⟩).2.2.pre)
theorem Mz {M : Seat} (ok : OkOs M) (m : Mc) (pres : List (Dg × Pr)) (q : Nat) :
 Af M 97 [.ptr 0 [], .ptr 1 []] [(0, m.v), (1, EA (.nils)), (2, Bv At Pr.zero pres)] 5
  (Q3 (TO m (Ei pres m).1 (Ei pres m).2.1 (Ei pres m).2.2) [(0, m.v), (1, EA (.nils)), (2, Bv At Pr.zero pres)] 5) := by
 obtain ⟨f, g, pc, hl, xt⟩ := m
 unfold Ei
 cases hl with
 | true => rw [if_pos rfl]; exact Qy ok f g pc xt pres q
 | false =>
   rw [if_neg Bu]
   by_cases hpc : 8192#64 ≤ pc
   ·rw [if_pos hpc]; exact O9 ok f g pc xt hpc pres q
   ·rw [if_neg hpc]
    generalize hq : nx (Fc pres) (⟨f, g, pc, false, xt⟩ : Mc).h ⟨f, [], Pr.zero⟩ = r
    obtain ⟨h1, e, s1⟩ := r
    exact U6 ok f g pc xt hpc pres q h1 e s1 hq
theorem UY {M : Seat} (ok : OkOs M) (m : Mc) (pres : List (Dg × Pr)) (q : Nat) :
 Af M 97 [.ptr 0 [], .ptr 1 []] [(0, m.v), (1, EA (.sl 5 [] 0 q 32)), (2, Bv At Pr.zero pres)] 6
  (Q3 (TO m (Ei pres m).1 (Ei pres m).2.1 (Ei pres m).2.2) [(0, m.v), (1, EA (.sl 5 [] 0 q 32)), (2, Bv At Pr.zero pres)] 6) := by
 obtain ⟨f, g, pc, hl, xt⟩ := m
 unfold Ei
 cases hl with
 | true => rw [if_pos rfl]; exact QZ ok f g pc xt pres q
 | false =>
   rw [if_neg Bu]
   by_cases hpc : 8192#64 ≤ pc
   ·rw [if_pos hpc]; exact OX ok f g pc xt hpc pres q
   ·rw [if_neg hpc]
    generalize hq : nx (Fc pres) (⟨f, g, pc, false, xt⟩ : Mc).h ⟨f, [], Pr.zero⟩ = r
    obtain ⟨h1, e, s1⟩ := r
    exact Uq ok f g pc xt hpc pres q h1 e s1 hq
theorem Ajg (pres : List (Dg × Pr)) (hp : JT pres) (m : Mc) (h : (Ei pres m).1 = none) : vfy m.com (Bm m.f 13 0) m.h (Ei pres m).2.1 (Ei pres m).2.2 = ((Tr pres m).com, none) := by
 obtain ⟨f, g, pc, hl, xt⟩ := m
 have hc : B2 (Bm f 13 0) (DV g pc hl xt) = (⟨f, g, pc, hl, xt⟩ : Mc).com := rfl
 unfold vfy
 rw [if_neg (fun h => h hc)]
 unfold Ei at h ⊢
 unfold Tr
 dsimp only [Mc.h] at h ⊢
 cases hl with
 | true => simp only [if_true, YJ]; rfl
 | false =>
   simp only [TJ] at h ⊢
   by_cases hpc : 8192#64 ≤ pc
   ·simp only [hpc, if_true, YJ]; rfl
   ·simp only [hpc, if_false] at h ⊢
    generalize hq : nx (Fc pres) ⟨g, pc, false, xt⟩ ⟨f, [], Pr.zero⟩ = r at *
    obtain ⟨h1, e, s1⟩ := r
    have h : e = none := h
    subst h
    have hF := Aat pres hp ⟨g, pc, false, xt⟩ rfl hpc f Pr.zero h1 s1 hq []
    rw [List.append_nil] at hF
    dsimp only
    rw [hF]
    show YJ _ _ = _
    rw [YJ, if_pos rfl]
    rfl
def c96 : LC := (sr [A1 0 (.mv (.c (.bool false)))]
 (sr [kl 12 74 [(.c .nils)],
  mt 11 12,
  A1 13 (.ext (.t 11) 0),
  A1 14 (.ext (.t 11) 1),
  mt 1 13,
  mt 2 14]
 (sr [kl 15 68 [],
  mt 3 15]
 (.seq (sr [mt 16 2,
  A1 17 (.eq true true (.iface [74]) (.t 16) (.c .nili)),
  mt 18 17,
  A2 19 18 false (.mv (.t 1)),
  A2 20 18 false (.eq false true .ptr (.t 19) (.c .nilp)),
  A1 21 (.pick (.t 18) (.c (.bool true)) (.t 20)),
  mt 22 21,
  A2 23 22 false (.mv (.t 3)),
  A2 24 22 false (.eq false true .ptr (.t 23) (.c .nilp)),
  A1 25 (.pick (.t 22) (.c (.bool true)) (.t 24))]
 (.cond (.t 25) (sr [A1 0 (.mv (.c (.bool false)))]
 (.ret)) (.skip)))
 (sr [mt 27 1,
  mt 28 3,
  kl 29 97 [(.t 27), (.t 28)],
  mt 26 29,
  A1 30 (.ext (.t 26) 0),
  A1 31 (.ext (.t 26) 1),
  A1 4 (.alloc (.st (.cons (.ar 32 (.int .u8)) (.cons (.st (.cons (.ar 16 (.int .u64)) (.cons (.int .u64) (.cons .bool (.cons (.int .u64) .nil))))) (.cons .slice (.cons (.ar 64 (.int .u8)) .nil)))))),
  A0 (.store 116 (.t 4) (.t 30)),
  mt 2 31]
 (sr [mt 33 1,
  kl 34 54 [(.t 33)],
  mt 32 34,
  A1 35 (.ext (.t 32) 0),
  A1 36 (.ext (.t 32) 1),
  A1 5 (.alloc (.ar 32 (.int .u8))),
  A0 (.store 32 (.t 5) (.t 35)),
  mt 6 36]
 (sr [A1 38 (.load true 32 (.t 5)),
  A1 39 (.load true 116 (.t 4)),
  kl 40 98 [(.t 38), (.t 39)],
  mt 37 40,
  A1 41 (.ext (.t 37) 0),
  A1 42 (.ext (.t 37) 1),
  A1 7 (.alloc (.ar 32 (.int .u8))),
  A0 (.store 32 (.t 7) (.t 41)),
  mt 8 42]
 (sr [mt 43 1,
  mt 44 3,
  kl 45 70 [(.t 43), (.t 44)]]
 (sr [mt 47 1,
  kl 48 54 [(.t 47)],
  mt 46 48,
  A1 49 (.ext (.t 46) 0),
  A1 50 (.ext (.t 46) 1),
  A1 9 (.alloc (.ar 32 (.int .u8))),
  A0 (.store 32 (.t 9) (.t 49)),
  mt 10 50]
 (sr [mt 51 2,
  A1 52 (.eq false true (.iface [74]) (.t 51) (.c .nili)),
  mt 53 52,
  A2 54 53 true (.mv (.t 6)),
  A2 55 53 true (.eq false true (.iface [74]) (.t 54) (.c .nili)),
  A1 56 (.pick (.t 53) (.t 55) (.c (.bool false))),
  mt 57 56,
  A2 58 57 true (.mv (.t 8)),
  A2 59 57 true (.eq false true (.iface [74]) (.t 58) (.c .nili)),
  A1 60 (.pick (.t 57) (.t 59) (.c (.bool false))),
  mt 61 60,
  A2 62 61 true (.mv (.t 10)),
  A2 63 61 true (.eq false true (.iface [74]) (.t 62) (.c .nili)),
  A1 64 (.pick (.t 61) (.t 63) (.c (.bool false))),
  mt 65 64,
  A2 66 65 true (.fadr 51 (.t 4)),
  A2 67 65 true (.load false 1 (.t 66)),
  A2 68 65 true (.len 0 (.t 67)),
  A2 69 65 true (.ari .eql (.t 68) (cI 1)),
  A1 70 (.pick (.t 65) (.t 69) (.c (.bool false))),
  mt 71 70,
  A2 72 71 true (.load true 32 (.t 7)),
  A2 73 71 true (.load true 32 (.t 9)),
  A2 74 71 true (.eq false false (.ar 32 1 false .int) (.t 72) (.t 73)),
  A1 75 (.pick (.t 71) (.t 74) (.c (.bool false))),
  mt 76 75,
  A2 77 76 true (.load true 32 (.t 7)),
  A2 78 76 true (.load true 32 (.t 5)),
  A2 79 76 true (.eq true false (.ar 32 1 false .int) (.t 77) (.t 78)),
  A1 80 (.pick (.t 76) (.t 79) (.c (.bool false))),
  mt 0 80]
 (.ret)))))))))))
def f96 : LF := ⟨c96, 0, 0, 81, [.tmp 0]⟩
end Mv
