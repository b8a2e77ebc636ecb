/- A part. -/
import Derived.Test.YtncipgmjhaiagaaGreatDoorBT
set_option linter.all false
set_option maxRecDepth 20000
set_option maxHeartbeats 64000000
namespace Mv
open Go
structure RD where
 l : List (Dg × Pr)
 met : Bool
 n : Nat
 q : Nat → Dg
 m : Mc
def Fx (m : Mc) : Hp := Cc m.f m.g m.pc m.hl m.xt
def rN (s : RD) : Hp := Fx s.m ++ YI s.l s.met
def rNG (s : RD) : Hp := Fx s.m ++ NL s.l s.met
def rS (s : RD) : Hp := Fx s.m ++ Qj s.n s.q s.l s.met
def rSG (s : RD) : Hp := Fx s.m ++ NW s.n s.q s.l s.met
def rST (s : RD) : Hp := Fx s.m ++ Jn s.n s.q s.l s.met
inductive TrD (M : Seat) (s s' : RD) : Prop
 | plain (h : Af M 240 [.ptr 0 [], .ptr 3 []] (Fx s.m) 4 (Q3 (.tup .fnil) (Fx s'.m) 4)) (hl : s'.l = s.l) (hm : s'.met = s.met) (hn : s'.n = s.n) (hq : s'.q = s.q)
 | NO (h0 : s.n = 0) (h1 : s'.n = 0) (h : Af M 240 [.ptr 0 [], .ptr 3 []] (rN s) 6 (Q3 (.tup .fnil) (rN s') 6))
 | NG (h0 : s.n = 0) (h1 : s'.n = 0) (h : Af M 240 [.ptr 0 [], .ptr 3 []] (rN s) 6 (Q3 (.tup .fnil) (rNG s') 8))
 | NS (h0 : s.n = 0) (h1 : 0 < s'.n) (h : Af M 240 [.ptr 0 [], .ptr 3 []] (rN s) 6 (Q3 (.tup .fnil) (rS s') 7))
 | SO (h0 : 0 < s.n) (h1 : 0 < s'.n) (h : Af M 240 [.ptr 0 [], .ptr 3 []] (rS s) 7 (Q3 (.tup .fnil) (rS s') 7))
 | SG (h0 : 0 < s.n) (h1 : 0 < s'.n) (h : Af M 240 [.ptr 0 [], .ptr 3 []] (rS s) 7 (Q3 (.tup .fnil) (rSG s') 9))
 | ST (h0 : 0 < s.n) (h1 : 0 < s'.n) (h : Af M 240 [.ptr 0 [], .ptr 3 []] (rS s) 7 (Q3 (.tup .fnil) (rST s') 8))
theorem Pb (l : List (Dg × Pr)) (p : Pr) : (P4 l p).length = l.length := by simp [P4]
theorem TW {M : Seat} (ok : OkRM M) (m : Mc) (h : ¬ Aaj m) : ∃ m' : Mc, Af M 240 [.ptr 0 [], .ptr 3 []] (Fx m) 4 (Q3 (.tup .fnil) (Fx m') 4) := by
 obtain ⟨f, g, pc, hl, xt⟩ := m
 unfold Fx
 cases hl with
 | true => exact ⟨⟨f, g, pc, true, xt⟩, ML ok f g pc xt⟩
 | false =>
   dsimp only
   by_cases hpc : 8192#64 ≤ pc
   ·exact ⟨⟨f, g, pc, true, Ap⟩, Ug ok f g pc xt hpc⟩
   cases hi : Co (f pc.toNat) with
   | false => exact ⟨⟨f, g, pc, true, Ap⟩, Ut ok f g pc xt hpc _ rfl hi⟩
   | true =>
     have hi' := hi
     simp only [Co, decide_eq_true_eq] at hi'
     have h35 := hi'.1
     have h2 := hi'.2
     by_cases q0 : AT (f pc.toNat) = 0
     ·exact ⟨⟨f, g, pc, true, _⟩, RE ok f g pc xt hpc _ rfl q0 hi⟩
     by_cases q1 : AT (f pc.toNat) ≤ 25
     ·exact ⟨⟨f, _, _, false, xt⟩, PU ok f g pc xt hpc _ rfl (AT (f pc.toNat)) Aa q1 rfl hi⟩
     by_cases q2 : AT (f pc.toNat) = 26
     ·exact ⟨⟨f, _, _, false, xt⟩, Vt ok f g pc xt hpc _ rfl q2 hi⟩
     by_cases q3 : AT (f pc.toNat) = 27
     ·by_cases hwh : 8192#64 ≤ g (pF (f pc.toNat) 48) + BitVec.ofInt 64 (pN (f pc.toNat))
      ·exact ⟨⟨f, g, pc, true, Ap⟩, Jv ok f g pc xt hpc _ rfl q3 hi hwh⟩
      ·exact ⟨⟨f, _, _, false, xt⟩, QS ok f g pc xt hpc _ rfl q3 hi hwh⟩
     by_cases q4 : AT (f pc.toNat) = 28
     ·by_cases hwh : 8192#64 ≤ g (pF (f pc.toNat) 48) + BitVec.ofInt 64 (pN (f pc.toNat))
      ·exact ⟨⟨f, g, pc, true, Ap⟩, IE ok f g pc xt hpc _ rfl q4 hi hwh⟩
      ·exact ⟨⟨_, g, _, false, xt⟩, Oj ok f g pc xt hpc _ rfl q4 hi hwh⟩
     obtain ⟨ga, hga⟩ : ∃ ga, g (pF (f pc.toNat) 48) = ga := ⟨_, rfl⟩
     obtain ⟨to, hto⟩ : ∃ to, BitVec.ofInt 64 (pN (f pc.toNat)) = to := ⟨_, rfl⟩
     by_cases q5 : AT (f pc.toNat) = 29
     ·by_cases ht : 8192#64 ≤ to
      ·exact ⟨⟨f, g, pc, true, Ap⟩, Dr ok f g pc xt hpc _ rfl hi to ga hto hga (.inl ⟨q5, ht⟩)⟩
      ·exact ⟨⟨f, g, to, false, xt⟩, EH ok f g pc xt hpc _ rfl hi to ga to hto hga ht (.inl ⟨q5, rfl⟩)⟩
     by_cases q6 : AT (f pc.toNat) = 30
     ·by_cases h0 : ga = 0#64
      ·by_cases ht : 8192#64 ≤ to
       ·exact ⟨⟨f, g, pc, true, Ap⟩, Dr ok f g pc xt hpc _ rfl hi to ga hto hga (.inr (.inl ⟨q6, h0, ht⟩))⟩
       ·exact ⟨⟨f, g, to, false, xt⟩, EH ok f g pc xt hpc _ rfl hi to ga to hto hga ht (.inr (.inl ⟨q6, h0, rfl⟩))⟩
      ·exact ⟨⟨f, g, _, false, xt⟩, KK ok f g pc xt hpc _ rfl hi ga hga (.inl ⟨q6, h0⟩)⟩
     by_cases q7 : AT (f pc.toNat) = 31
     ·by_cases h0 : ga = 0#64
      ·exact ⟨⟨f, g, _, false, xt⟩, KK ok f g pc xt hpc _ rfl hi ga hga (.inr ⟨q7, h0⟩)⟩
      ·by_cases ht : 8192#64 ≤ to
       ·exact ⟨⟨f, g, pc, true, Ap⟩, Dr ok f g pc xt hpc _ rfl hi to ga hto hga (.inr (.inr (.inl ⟨q7, h0, ht⟩)))⟩
       ·exact ⟨⟨f, g, to, false, xt⟩, EH ok f g pc xt hpc _ rfl hi to ga to hto hga ht (.inr (.inr (.inl ⟨q7, h0, rfl⟩)))⟩
     by_cases q8 : AT (f pc.toNat) = 32
     ·by_cases ht : 8192#64 ≤ to
      ·exact ⟨⟨f, g, pc, true, Ap⟩, Dr ok f g pc xt hpc _ rfl hi to ga hto hga (.inr (.inr (.inr (.inl ⟨q8, ht⟩))))⟩
      ·exact ⟨⟨f, _, to, false, xt⟩, TE ok f g pc xt hpc _ rfl hi to hto ht q8⟩
     by_cases q9 : AT (f pc.toNat) = 33
     ·by_cases ht : 8192#64 ≤ ga
      ·exact ⟨⟨f, g, pc, true, Ap⟩, Dr ok f g pc xt hpc _ rfl hi to ga hto hga (.inr (.inr (.inr (.inr ⟨q9, ht⟩))))⟩
      ·exact ⟨⟨f, g, ga, false, xt⟩, EH ok f g pc xt hpc _ rfl hi to ga ga hto hga ht (.inr (.inr (.inr ⟨q9, rfl⟩)))⟩
     by_cases q10 : AT (f pc.toNat) = 34
     ·cases hb : wi (g (pF (f pc.toNat) 48)) 8#64 && wi (g (pF (f pc.toNat) 44)) 4#64 with
      | false => exact ⟨⟨f, g, pc, true, Ap⟩, Nb ok f g pc xt hpc _ rfl q10 hi hb⟩
      | true => exact absurd ⟨rfl, hpc, h2, .inl ⟨q10, hb⟩⟩ h
     have q11 : AT (f pc.toNat) = 35 := Aa
     cases hb : wi (g (pF (f pc.toNat) 48)) 4#64 && wi (g (pF (f pc.toNat) 44)) 8#64 with
     | false => exact ⟨⟨f, g, pc, true, Ap⟩, Nz ok f g pc xt hpc _ rfl q11 hi hb⟩
     | true => exact absurd ⟨rfl, hpc, h2, .inr ⟨q11, hb⟩⟩ h
theorem MD (l : List (Dg × Pr)) (d : Dg) (h : Gq l d = l.length) : Ol l d = Ao (At Pr.zero) (.int .i64 14) := by simp [Ol, h]
theorem K0 (l : List (Dg × Pr)) (d : Dg) (h : ¬ Gq l d = l.length) : Ol l d = Ao (At (rp l (Gq l d))) (.int .i64 0) := by simp [Ol, h]
theorem Wi {M : Seat} (ok : OkRH M) (s : RD) (hs : s.n < 4294967296) (hl : s.l.length < 4294967296) : ∃ s', TrD M s s' ∧ s'.n ≤ s.n + 1 ∧ s'.l.length ≤ s.l.length + 1 := by
 obtain ⟨l, met, n, q, m⟩ := s
 by_cases ha : Aaj m
 ·obtain ⟨f, g, pc, hl', xt⟩ := m
  obtain ⟨h1, hpc, h2, ho⟩ := ha
  dsimp only at h1 hpc h2 ho hs hl
  subst h1
  rcases ho with ⟨hop, hw⟩ | ⟨hop, hw⟩
  ·simp only [Bool.and_eq_true] at hw
   have hi : Co (f pc.toNat) = true := by simp only [Co, decide_eq_true_eq]; exact ⟨by omega, h2⟩
   by_cases hk : Gq l (CE (Pr.mk' (A6 fun j => f ((g (pF (f pc.toNat) 48)).toNat + j)))) = l.length
   ·cases n with
    | zero => exact ⟨⟨_, met, 0, q, ⟨_, g, _, false, xt⟩⟩, .NG rfl rfl (No ok f g pc xt hpc _ rfl hop hi _ _ rfl rfl hw.1 hw.2 l _ met met _ (JW ok.b ok.g.r _ met l hl hk)), by simp, by simp⟩
    | succ n => exact ⟨⟨_, met, n + 1, q, ⟨_, g, _, false, xt⟩⟩, .SG (Nat.succ_pos _) (Nat.succ_pos _) (NZ (n + 1) q ok f g pc xt hpc _ rfl hop hi _ _ rfl rfl hw.1 hw.2 l _ met met _ (PO (n + 1) q ok.b ok.g.r _ met l hl hk)), by simp, by simp⟩
   ·cases n with
    | zero => exact ⟨⟨_, _, 0, q, ⟨_, g, _, false, xt⟩⟩, .NO rfl rfl (Nj ok f g pc xt hpc _ rfl hop hi _ _ rfl rfl hw.1 hw.2 l _ met _ _ (Kr ok.b ok.g.r _ met l hl hk)), by simp, by simp [Pb]⟩
    | succ n => exact ⟨⟨_, _, n + 1, q, ⟨_, g, _, false, xt⟩⟩, .SO (Nat.succ_pos _) (Nat.succ_pos _) (NC (n + 1) q ok f g pc xt hpc _ rfl hop hi _ _ rfl rfl hw.1 hw.2 l _ met _ _ (PV (n + 1) q ok.b ok.g.r _ met l hl hk)), by simp, by simp [Pb]⟩
  ·simp only [Bool.and_eq_true] at hw
   have hi : Co (f pc.toNat) = true := by simp only [Co, decide_eq_true_eq]; exact ⟨by omega, h2⟩
   obtain ⟨D, hD⟩ : ∃ D, Dg.mk' (A6 fun j => f ((g (pF (f pc.toNat) 48)).toNat + j)) = D := ⟨_, rfl⟩
   cases n with
   | zero =>
     have hG := R1 ok.g D met l hl
     by_cases hk : Gq l D = l.length
     ·rw [MD l D hk] at hG
      exact ⟨⟨l, met, 1, fun _ => D, ⟨f, g, pc, true, _⟩⟩, .NS rfl Nat.one_pos (Ow ok f g pc xt hpc _ rfl hop hi _ _ rfl rfl hw.1 hw.2 l met D hD _ hG), by simp, by simp⟩
     ·rw [K0 l D hk] at hG
      exact ⟨⟨l, met, 1, fun _ => D, ⟨_, g, _, false, xt⟩⟩, .NS rfl Nat.one_pos (Ou ok f g pc xt hpc _ rfl hop hi _ _ rfl rfl hw.1 hw.2 l met D hD _ hG), by simp, by simp⟩
   | succ n =>
     have hG := RI ok.g (n + 1) hs q D met l hl
     cases hf : Zj q D (n + 1) with
     | true =>
       simp only [hf, if_true] at hG
       by_cases hk : Gq l D = l.length
       ·rw [MD l D hk] at hG
        exact ⟨⟨l, met, n + 1, q, ⟨f, g, pc, true, _⟩⟩, .SO (Nat.succ_pos _) (Nat.succ_pos _) (P9 (n + 1) q ok f g pc xt hpc _ rfl hop hi _ _ rfl rfl hw.1 hw.2 l met D hD _ hG), by simp, by simp⟩
       ·rw [K0 l D hk] at hG
        exact ⟨⟨l, met, n + 1, q, ⟨_, g, _, false, xt⟩⟩, .SO (Nat.succ_pos _) (Nat.succ_pos _) (PY (n + 1) q ok f g pc xt hpc _ rfl hop hi _ _ rfl rfl hw.1 hw.2 l met D hD _ hG), by simp, by simp⟩
     | false =>
       simp only [hf, TJ] at hG
       by_cases hk : Gq l D = l.length
       ·rw [MD l D hk] at hG
        exact ⟨⟨l, met, n + 1 + 1, _, ⟨f, g, pc, true, _⟩⟩, .ST (Nat.succ_pos _) (Nat.succ_pos _) (PG (n + 1) q _ ok f g pc xt hpc _ rfl hop hi _ _ rfl rfl hw.1 hw.2 l met D hD _ hG), by simp, by simp⟩
       ·rw [K0 l D hk] at hG
        exact ⟨⟨l, met, n + 1 + 1, _, ⟨_, g, _, false, xt⟩⟩, .ST (Nat.succ_pos _) (Nat.succ_pos _) (Po (n + 1) q _ ok f g pc xt hpc _ rfl hop hi _ _ rfl rfl hw.1 hw.2 l met D hD _ hG), by simp, by simp⟩
 ·obtain ⟨m', hm⟩ := TW ok.m m ha
  exact ⟨⟨l, met, n, q, m'⟩, .plain hm rfl rfl rfl rfl, Nat.le_succ _, Nat.le_succ _⟩
variable {M : Seat}
theorem O1 (k196 : Al M 196 Qz = true) :
 Af M 196 [.nils] [] 0 (Q3 (.ptr 0 []) (Fx ⟨fun _ => 0#64, fun _ => 0#64, 0#64, false, 0#64⟩) 3) := by
 refine Ac k196 rfl fun x hx => ?_
 refine es 2000 ?_; (simp only [Qz, Aem, LZ, seval])
 repeat refine sd ?_
 refine Aq.mk hx [64, 16, 32] [] (.ptr 0 []) (Fx ⟨fun _ => 0#64, fun _ => 0#64, 0#64, false, 0#64⟩) 3 Ak (by simp only [Fk, seval]) (by simp only [IT, seval]) ?_ ⟨rfl, rfl, rfl⟩
 simp only [Fx, Cc, Ba, LY, seval]
theorem OB (k196 : Al M 196 Qz = true) (n : Nat) (hn : n ≤ 8192) (u : Nat → BitVec 64) :
 Af M 196 [.lst 1 n (fun j => W (u j))] [] 0 (Q3 (.ptr 0 []) (Fx ⟨TX n u, fun _ => 0#64, 0#64, false, 0#64⟩) 3) := by
 refine Ac k196 rfl fun x hx => ?_
 have m1 : min n 8192 = n := Aa
 have m2 : ∀ i : Nat, (0 ≤ i) = True := fun i => eq_true (Nat.zero_le i)
 refine es 2000 ?_; (simp only [Qz, Aem, m1, m2, LZ, seval])
 refine Aq.mk hx [64, 16, 32] [] (.ptr 0 []) (Fx ⟨TX n u, fun _ => 0#64, 0#64, false, 0#64⟩) 3 Ak (by simp only [Fk, seval]) (by simp only [IT, seval]) ?_ ⟨rfl, rfl, rfl⟩
 simp only [Fx, Cc, Ba, TX, LY, seval]
 intro j hj
 by_cases h : j < n
 ·simp only [h, true_and, if_true, LY, seval]
 ·simp only [h, and_false, if_false, LY, seval]
def Aer (l : List In) (v : V) : Prop := v = Hl l ∨ (v = .nils ∧ l = [])
def ldM (l : List In) : Mc := ⟨TX (min l.length 8192) (fun j => G7 (l.getD j default)), fun _ => 0#64, 0#64, false, 0#64⟩
theorem Gf (ok : OkRH M) (s : RD) : ∃ s', s.n < 4294967296 → s.l.length < 4294967296 → TrD M s s' ∧ s'.n ≤ s.n + 1 ∧ s'.l.length ≤ s.l.length + 1 := by
 by_cases h : s.n < 4294967296 ∧ s.l.length < 4294967296
 ·obtain ⟨s', hs⟩ := Wi ok s h.1 h.2
  exact ⟨s', fun _ _ => hs⟩
 ·exact ⟨s, fun h1 h2 => absurd ⟨h1, h2⟩ h⟩
noncomputable def Anq (ok : OkRH M) (s : RD) : RD := Classical.choose (Gf ok s)
noncomputable def Ha (ok : OkRH M) (s : RD) : Nat → RD
 | 0 => s
 | i + 1 => Anq ok (Ha ok s i)
theorem Yy (ok : OkRH M) (s : RD) (hn : s.n < 2147483648) (hl : s.l.length < 2147483648) : ∀ i, i < 2147483648 → (Ha ok s i).n ≤ s.n + i ∧ (Ha ok s i).l.length ≤ s.l.length + i
 | 0, _ => ⟨Nat.le_refl _, Nat.le_refl _⟩
 | i + 1, h => by
   have h1 := Yy ok s hn hl i Aa
   have h2 := Classical.choose_spec (Gf ok (Ha ok s i)) Aa Aa
   have h3 : Ha ok s (i + 1) = Classical.choose (Gf ok (Ha ok s i)) := rfl
   rw [h3]
   omega
theorem Ah1 (ok : OkRH M) (s : RD) (hn : s.n < 2147483648) (hl : s.l.length < 2147483648) (i : Nat) (hi : i < 2147483648) : TrD M (Ha ok s i) (Ha ok s (i + 1)) := by
 have h1 := Yy ok s hn hl i hi
 exact (Classical.choose_spec (Gf ok (Ha ok s i)) Aa Aa).1
noncomputable def ZJ (s : SM) : Hp := if s.n = 0 then Nh s else Sh 6 s
def c95 : LC := (sr [A1 8 (.mv (.c .nilp)),
 A1 9 (.mv (.c .nilp)),
 A1 10 (.mv (.c .nilp))]
 (sr [mt 18 2,
  kl 19 73 [(.t 18)],
  mt 17 19,
  A1 20 (.ext (.t 17) 0),
  A1 21 (.ext (.t 17) 1),
  mt 11 20,
  mt 12 21]
 (sr [mt 23 0,
  kl 24 75 [(.t 23)],
  kl 25 74 [(.t 24)],
  mt 22 25,
  A1 26 (.ext (.t 22) 0),
  A1 27 (.ext (.t 22) 1),
  mt 13 26,
  mt 14 27]
 (sr [mt 28 0,
  kl 29 75 [(.t 28)],
  kl 30 196 [(.t 29)],
  mt 15 30]
 (.seq (sr [mt 31 11,
  A1 32 (.eq false true .ptr (.t 31) (.c .nilp)),
  mt 33 32,
  A2 34 33 false (.mv (.t 14)),
  A2 35 33 false (.eq true true (.iface [74]) (.t 34) (.c .nili)),
  A1 36 (.pick (.t 33) (.c (.bool true)) (.t 35)),
  mt 37 36,
  A2 38 37 false (.mv (.t 13)),
  A2 39 37 false (.eq false true .ptr (.t 38) (.c .nilp)),
  A1 40 (.pick (.t 37) (.c (.bool true)) (.t 39))]
 (.cond (.t 40) (sr [mt 41 15,
  A1 8 (.mv (.c .nilp)),
  A1 9 (.mv (.c .nilp)),
  mt 10 41]
 (.ret)) (.skip)))
 (.seq (sr [mt 42 1,
  A1 43 (.len 0 (.t 42)),
  A1 44 (.mm false (.t 43) (cI 16)),
  A1 45 (.mv (cI 0))]
 (.block 0 (.loop (sr [A1 46 (.ari .lss (.t 45) (.t 44))]
 (.seq (.cond (.t 46) (.skip) (.exit 0))
 (.seq (.block 1 (sr [mt 47 45,
  mt 16 47]
 (.regd [⟨0, 0, mt 48 13⟩,
  ⟨1, 0, mt 49 16⟩,
  ⟨2, 0, mt 50 15⟩,
  ⟨3, 4, A1 51 (.nilc (.t 50))⟩,
  ⟨4, 12, A1 52 (.fadr 1 (.t 51))⟩,
  ⟨5, 28, A1 53 (.load false 1 (.t 52))⟩,
  ⟨7, 0, mt 55 1⟩,
  ⟨8, 0, mt 56 16⟩,
  ⟨9, 192, A1 57 (.isl 1 (.t 55) (.t 56))⟩,
  ⟨10, 448, A1 58 (.load false 1 (.t 57))⟩,
  ⟨11, 0, mt 59 1⟩,
  ⟨12, 0, mt 60 16⟩,
  ⟨13, 3072, A1 61 (.isl 1 (.t 59) (.t 60))⟩,
  ⟨14, 7168, A1 62 (.load false 1 (.t 61))⟩,
  ⟨15, 1, A1 63 (.nilc (.t 48))⟩,
  ⟨16, 16385, A1 64 (.fadr 8192 (.t 63))⟩,
  ⟨17, 65535, A1 65 (.iarr 16 1 (.t 64) (.t 49))⟩,
  ⟨18, 131071, A0 (.store 1 (.t 65) (.t 58))⟩,
  ⟨6, 0, mt 54 16⟩,
  ⟨19, 524287, A1 66 (.isl 1 (.t 53) (.t 54))⟩,
  ⟨20, 1048575, A0 (.store 1 (.t 66) (.t 62))⟩])))
 (.reg [A1 67 (.ari .add (.t 45) (cI 1)),
  mt 45 67])))))))
 (.seq (sr [mt 68 3,
  A1 69 (.conv .u64 (.t 68)),
  A1 70 (.ari .rem (.t 69) (cU 60)),
  A1 71 (.conv .i64 (.t 70)),
  A1 72 (.mv (cI 0))]
 (.block 2 (.loop (sr [A1 73 (.ari .lss (.t 72) (.t 71))]
 (.seq (.cond (.t 73) (.skip) (.exit 2))
 (.seq (.block 3 (sr [mt 74 13,
  mt 75 11,
  kl 76 70 [(.t 74), (.t 75)]]
 (.reg [mt 77 15,
  mt 78 12,
  kl 79 240 [(.t 77), (.t 78)]])))
 (.reg [A1 80 (.ari .add (.t 72) (cI 1)),
  mt 72 80])))))))
 (sr [mt 81 13,
  mt 82 11,
  mt 83 15,
  mt 8 81,
  mt 9 82,
  mt 10 83]
 (.ret)))))))))
def f95 : LF := ⟨c95, 4, 0, 84, [.tmp 8, .tmp 9, .tmp 10]⟩
def dm (m : Mc) : Hp := [(7, Ba 8 9 m.pc m.hl m.xt), (8, .ar 1 8192 fun j => W (m.f j)), (9, .ar 1 16 fun j => W (m.g j))]
def SB := (aq3 @Qg @dm.eq_1 @Ba.eq_1)
def dN (t : RD) : Hp := dm t.m ++ [(10, .st 4 (.fcons 0 (.sl 11 [] 0 t.l.length 32) (.fcons 1 (.sl 12 [] 0 t.l.length 64) (.fcons 2 .nils (.fcons 3 (.bool t.met) .fnil))))), (11, .ar 32 t.l.length fun i => dg (rh t.l i)), (12, .ar 64 t.l.length fun i => At (rp t.l i))]
def dS (t : RD) : Hp := dm t.m ++ [(10, .st 4 (.fcons 0 (.sl 11 [] 0 t.l.length 32) (.fcons 1 (.sl 12 [] 0 t.l.length 64) (.fcons 2 (.sl 13 [] 0 t.n 32) (.fcons 3 (.bool t.met) .fnil))))), (11, .ar 32 t.l.length fun i => dg (rh t.l i)), (12, .ar 64 t.l.length fun i => At (rp t.l i)), (13, .ar 32 t.n fun i => dg (t.q i))]
noncomputable def dH (t : RD) : Hp := if t.n = 0 then dN t else dS t
def atL : LC := (sr [A1 73 (.ari .lss (.t 72) (.t 71))]
 (.seq (.cond (.t 73) (.skip) (.exit 2))
 (.seq (.block 3 (sr [mt 74 13,
  mt 75 11,
  kl 76 70 [(.t 74), (.t 75)]]
 (.reg [mt 77 15,
  mt 78 12,
  kl 79 240 [(.t 77), (.t 78)]])))
 (.reg [A1 80 (.ari .add (.t 72) (cI 1)),
  mt 72 80]))))
def atT : LC := (sr [mt 81 13,
 mt 82 11,
 mt 83 15,
 mt 8 81,
 mt 9 82,
 mt 10 83]
 (.ret))
noncomputable def atH (s : SM) (m : Mc) : Hp := ZJ s ++ dm m
theorem Aai {M : Seat} (okT : OkT M) (okR : OkRH M) (s : SM) (hs : s.n = 0) (t : RD) (ht : t.n = 0) (htl : t.l.length < 2147483648) (n : Nat) (hn : n < 300) {x : Ctx} (hx : x.k = 0) {A : List V} {H : Hp} {N : Nat}
 (hw : Aj M x A H N (fr 84 [(11, .ptr 0 []), (12, .ptr 10 []), (13, .ptr 5 []), (15, .ptr 7 []), (71, .int .i64 n), (72, .int .i64 (0 : Nat))]) (Nh s ++ dN t) 14) :
 Gz M x (Aq M x [RVr.tmp 8, RVr.tmp 9, RVr.tmp 10] fun r H' k' => r = BD (.ptr 5 []) (.ptr 0 []) (.ptr 7 []) ∧ H' = atH (Vi okT s n) (Ha okR t n).m ∧ k' = 14) atL [.blk 2, .code atT] A H N := by
 have hv : ∀ m : Mc, m.v = mach m.f m.g m.pc m.hl m.xt := fun _ => rfl
 have hs0 : s.n < 549755813888 := Aa
 have hst := fun i (hi : i < 549755813888) => Ak8 okT s hs0 i hi
 have htt := fun i (hi : i < 2147483648) => Ah1 okR t Aa htl i hi
 have hT0 : Vi okT s 0 = s := rfl
 have hU0 : Ha okR t 0 = t := rfl
 generalize Vi okT s = T at *
 generalize Ha okR t = U at *
 refine Ag (σ := Nat) (fun i => i ≤ n) (fun i => fr 84 [(11, .ptr 0 []), (12, .ptr 10 []), (13, .ptr 5 []), (15, .ptr 7 []), (71, .int .i64 n), (72, .int .i64 i)]) (fun i => ZJ (T i) ++ dH (U i)) (fun _ => 14) (fun i => n - i) 0 Aa ?_ ?_
 ·rw [show ZJ (T 0) = Nh s by rw [hT0]; exact if_pos hs, show dH (U 0) = dN t by rw [hU0]; exact if_pos ht]
  exact hw
 ·intro i hi
  have w0 : IntKind.i64.wrap ((i : Int) + 1) = ((i + 1 : Nat) : Int) := A9
  have hst := hst i Aa
  have htt := htt i Aa
  by_cases hin : i = n
  ·subst hin
   have d0 : ((i : Int) < (i : Int)) = False := eq_false Aa
   rw [atH]
   by_cases hz : (T i).n = 0 <;> by_cases hy : (U i).n = 0
   all_goals
    simp only [ZJ, dH, hz, hy, CD]
    refine es 2000 ?_
    (simp only [atL, atT, d0, Qg, hv, dN, dS, dm, Fj, seval])
    refine Aq.mk hx [0, 1, 2, 3, 4, 5, 6, 7, 8, 9, 10, 11, 12, 13] [] (BD (.ptr 5 []) (.ptr 0 []) (.ptr 7 [])) _ 14 Ak (by simp only [Fk, BD, IY, seval]) (by simp only [IT, BD, IY, seval]) ?_ ⟨rfl, rfl, rfl⟩
    simp only [SB, hv, Ik, dN, dS, seval]
  ·have d0 : ((i : Int) < (n : Int)) = True := eq_true Aa
   refine es 2000 ?_
   have hi1 : i + 1 ≤ n := Aa
   generalize hσ' : T (i + 1) = σ' at *
   generalize hσ : T i = σ at *
   generalize hτ' : U (i + 1) = τ' at *
   generalize hτ : U i = τ at *
   by_cases hz : σ.n = 0 <;> by_cases hy : τ.n = 0
   all_goals
    first | rw [show ZJ σ = Nh σ from if_pos hz] | rw [show ZJ σ = Sh 6 σ from if_neg hz]
    first | rw [show dH τ = dN τ from if_pos hy] | rw [show dH τ = dS τ from if_neg hy]
    (simp only [atL, d0, Qg, hv, dN, dS, dm, Fj, Vl, seval])
    rcases hst.1 with ⟨h, hw⟩ | ⟨h0, h1', h6⟩ | ⟨h0, h1', h62⟩ | ⟨h0, h1', h6⟩ | ⟨h0, h1', h62⟩
    all_goals try (exact absurd h0 Aa)
    all_goals first
     | (have w1 : σ'.w = σ.w := by rw [hw]
        have w2 : σ'.l = σ.l := by rw [hw]
        have w3 : σ'.n = σ.n := by rw [hw]
        have w4 : σ'.q = σ.q := by rw [hw]
        have hm : Af M 70 [.ptr 0 [], .ptr 1 []] [(0, σ.m.v)] 2 _ := h
        rw [hv σ.m] at hm
        clear hw
        (have zz := aq2 @mach.eq_1 hv; refine JO [5, 0] [5] (hm) ?_))
     | (have w1 := hv
        have w2 := hv
        have w3 := hv
        have w4 := hv
        first | have hm := h6 | have hm := h62
        simp only [Nh, Sh, hv σ.m] at hm
        first
        | (have hm : Af M 70 [.ptr 5 [], .ptr 0 []] _ 6 _ := hm
           (have zz := aq3 @Qg hv GM; refine Fl [0, 1, 2, 3, 4, 5] (hm) ?_))
        | (have hm : Af M 70 [.ptr 5 [], .ptr 0 []] _ 7 _ := hm
           (have zz := aq3 @Qg hv GM; refine Fl [0, 1, 2, 3, 4, 5, 6] (hm) ?_)))
    all_goals
     (simp only [Qg, hv, AR, BA, seval])
     rcases htt with ⟨hd, u1, u2, u3, u4⟩ | ⟨k0, h1'', hd0⟩ | ⟨k0, h1'', hd1⟩ | ⟨k0, h1'', hd2⟩ | ⟨k0, h1'', hd0⟩ | ⟨k0, h1'', hd1⟩ | ⟨k0, h1'', hd2⟩
     all_goals try (exact absurd k0 Aa)
     all_goals first
      | (have hd : Af M _ _ _ 4 _ := hd
         rw [Fx, Cc] at hd
         (have zz := aq3 @Fx.eq_1 @Cc.eq_1 @Ba.eq_1; refine JO [7, 8, 9, 10] [7, 8, 9] (hd) ?_))
      | (have u1 := hv
         have u2 := hv
         have u3 := hv
         have u4 := hv
         first | have hd := hd0 | have hd := hd1 | have hd := hd2
         first
         | (have hd : Af M _ _ _ 6 _ := hd
            (have zz := Apk @rN.eq_1 @rNG.eq_1 @rS.eq_1 @rSG.eq_1 @rST.eq_1 @Fx.eq_1 @Cc.eq_1 @YI.eq_1 @NL.eq_1 @Qj.eq_1 @NW.eq_1 @Jn.eq_1 UW @CO.eq_1 Vl; refine Fl [7, 8, 9, 10, 11, 12] (hd) ?_))
         | (have hd : Af M _ _ _ 7 _ := hd
            (have zz := Apk @rN.eq_1 @rNG.eq_1 @rS.eq_1 @rSG.eq_1 @rST.eq_1 @Fx.eq_1 @Cc.eq_1 @YI.eq_1 @NL.eq_1 @Qj.eq_1 @NW.eq_1 @Jn.eq_1 UW @CO.eq_1 Vl; refine Fl [7, 8, 9, 10, 11, 12, 13] (hd) ?_)))
     all_goals
      (simp only [rN, rNG, rS, rSG, rST, Fx, Cc, YI, NL, Qj, NW, Jn, Qm, CO, Fq, Vl, LM, w0, seval])
      refine ⟨i + 1, hi1, by omega, ?_⟩
      rw [hσ', hτ']
      first | rw [show ZJ σ' = Nh σ' from if_pos Aa] | rw [show ZJ σ' = Sh 6 σ' from if_neg Aa]
      first | rw [show dH τ' = dN τ' from if_pos Aa] | rw [show dH τ' = dS τ' from if_neg Aa]
      first
      | (clear h62
         first
         | (clear hd1; refine Aj.fr [0, 1, 2, 3, 4, 5, 62, 7, 8, 9, 10, 110, 111, 13] [] hx Ax Ak ?_ ?_)
         | (clear hd2; refine Aj.fr [0, 1, 2, 3, 4, 5, 62, 7, 8, 9, 10, 11, 12, 110] [] hx Ax Ak ?_ ?_)
         | refine Aj.fr [0, 1, 2, 3, 4, 5, 62, 7, 8, 9, 10, 11, 12, 13] [] hx Ax Ak ?_ ?_)
      | (clear hd1; refine Aj.fr [0, 1, 2, 3, 4, 5, 6, 7, 8, 9, 10, 110, 111, 13] [] hx Ax Ak ?_ ?_)
      | (clear hd2; refine Aj.fr [0, 1, 2, 3, 4, 5, 6, 7, 8, 9, 10, 11, 12, 110] [] hx Ax Ak ?_ ?_)
      | refine Aj.fr [0, 1, 2, 3, 4, 5, 6, 7, 8, 9, 10, 11, 12, 13] [] hx Ax Ak ?_ ?_
      ·simp only [LY, seval]
      ·simp only [w1, w2, w3, w4, u1, u2, u3, u4, SB, hv, Ik, dN, dS, At, seval]
def Ya (n : Int) : Nat := (BitVec.ofInt 64 n % 60#64).toNat
theorem RL (n : Int) : Ya n < 60 := by rw [Ya, BitVec.toNat_umod]; exact Nat.mod_lt _ Ak
theorem Zo (n : Int) : (BitVec.ofInt 64 n % 60#64).toInt = (Ya n : Int) := by
 have := RL n
 rw [BitVec.toInt_eq_toNat_cond, if_pos (by unfold Ya at this; omega)]; rfl
def gI (rs : List (BitVec 64)) (i j : Nat) : BitVec 64 := if j < i then rs.getD j 0 else 0#64
def Ta (w : WS) (f : Nat → BitVec 64) (rs : List (BitVec 64)) (i : Nat) : SM := ⟨w, [], 0, fun _ => Dg.zero, ⟨f, gI rs i, 0#64, false, 0#64⟩⟩
def SE (rl : List (Dg × Pr)) (met : Bool) (f : Nat → BitVec 64) (rs : List (BitVec 64)) (i : Nat) : RD := ⟨rl, met, 0, fun _ => Dg.zero, ⟨f, gI rs i, 0#64, false, 0#64⟩⟩
def atG : LC := (sr [A1 46 (.ari .lss (.t 45) (.t 44))]
 (.seq (.cond (.t 46) (.skip) (.exit 0))
 (.seq (.block 1 (sr [mt 47 45,
  mt 16 47]
 (.regd [⟨0, 0, mt 48 13⟩,
  ⟨1, 0, mt 49 16⟩,
  ⟨2, 0, mt 50 15⟩,
  ⟨3, 4, A1 51 (.nilc (.t 50))⟩,
  ⟨4, 12, A1 52 (.fadr 1 (.t 51))⟩,
  ⟨5, 28, A1 53 (.load false 1 (.t 52))⟩,
  ⟨7, 0, mt 55 1⟩,
  ⟨8, 0, mt 56 16⟩,
  ⟨9, 192, A1 57 (.isl 1 (.t 55) (.t 56))⟩,
  ⟨10, 448, A1 58 (.load false 1 (.t 57))⟩,
  ⟨11, 0, mt 59 1⟩,
  ⟨12, 0, mt 60 16⟩,
  ⟨13, 3072, A1 61 (.isl 1 (.t 59) (.t 60))⟩,
  ⟨14, 7168, A1 62 (.load false 1 (.t 61))⟩,
  ⟨15, 1, A1 63 (.nilc (.t 48))⟩,
  ⟨16, 16385, A1 64 (.fadr 8192 (.t 63))⟩,
  ⟨17, 65535, A1 65 (.iarr 16 1 (.t 64) (.t 49))⟩,
  ⟨18, 131071, A0 (.store 1 (.t 65) (.t 58))⟩,
  ⟨6, 0, mt 54 16⟩,
  ⟨19, 524287, A1 66 (.isl 1 (.t 53) (.t 54))⟩,
  ⟨20, 1048575, A0 (.store 1 (.t 66) (.t 62))⟩])))
 (.reg [A1 67 (.ari .add (.t 45) (cI 1)),
  mt 45 67]))))
def atR : LC := (.seq (sr [mt 68 3,
 A1 69 (.conv .u64 (.t 68)),
 A1 70 (.ari .rem (.t 69) (cU 60)),
 A1 71 (.conv .i64 (.t 70)),
 A1 72 (.mv (cI 0))]
 (.block 2 (.loop (sr [A1 73 (.ari .lss (.t 72) (.t 71))]
 (.seq (.cond (.t 73) (.skip) (.exit 2))
 (.seq (.block 3 (sr [mt 74 13,
  mt 75 11,
  kl 76 70 [(.t 74), (.t 75)]]
 (.reg [mt 77 15,
  mt 78 12,
  kl 79 240 [(.t 77), (.t 78)]])))
 (.reg [A1 80 (.ari .add (.t 72) (cI 1)),
  mt 72 80])))))))
 (sr [mt 81 13,
  mt 82 11,
  mt 83 15,
  mt 8 81,
  mt 9 82,
  mt 10 83]
 (.ret)))
theorem ZE {M : Seat} (okT : OkT M) (okR : OkRH M) (w : WS) (rl : List (Dg × Pr)) (met : Bool) (hrl : rl.length < 2147483648) (f : Nat → BitVec 64) (rs : List (BitVec 64)) (k : Int) {x : Ctx} (hx : x.k = 0) {A : List V} {H : Hp} {N : Nat}
 (hw : Aj M x A H N (fr 84 [(1, Bn rs), (3, .int .i64 k), (11, .ptr 0 []), (12, .ptr 10 []), (13, .ptr 5 []), (15, .ptr 7 []), (44, .int .i64 (min rs.length 16 : Nat)), (45, .int .i64 (0 : Nat))]) (Nh (Ta w f rs 0) ++ dN (SE rl met f rs 0)) 14) :
 Gz M x (Aq M x [RVr.tmp 8, RVr.tmp 9, RVr.tmp 10] fun r H' k' => r = BD (.ptr 5 []) (.ptr 0 []) (.ptr 7 []) ∧ H' = atH (Vi okT (Ta w f rs (min rs.length 16)) (Ya k)) (Ha okR (SE rl met f rs (min rs.length 16)) (Ya k)).m ∧ k' = 14) atG [.blk 0, .code atR] A H N := by
 have hv : ∀ m : Mc, m.v = mach m.f m.g m.pc m.hl m.xt := fun _ => rfl
 refine Ag (σ := Nat) (fun i => i ≤ min rs.length 16) (fun i => fr 84 [(1, Bn rs), (3, .int .i64 k), (11, .ptr 0 []), (12, .ptr 10 []), (13, .ptr 5 []), (15, .ptr 7 []), (44, .int .i64 (min rs.length 16 : Nat)), (45, .int .i64 i)]) (fun i => Nh (Ta w f rs i) ++ dN (SE rl met f rs i)) (fun _ => 14) (fun i => min rs.length 16 - i) 0 Aa hw ?_
 intro i hi
 by_cases hin : i = min rs.length 16
 ·subst hin
  have hlp := @Aai M okT okR (Ta w f rs (min rs.length 16)) rfl (SE rl met f rs (min rs.length 16)) rfl hrl (Ya k) (by have := RL k; omega) x hx
  generalize min rs.length 16 = K at *
  have d0 : ((K : Int) < (K : Int)) = False := eq_false Aa
  have w0 : IntKind.i64.wrap (Ya k : Int) = (Ya k : Int) := by have := RL k; rw [AI Aa]
  generalize hS : Ta w f rs K = s at *
  generalize hD : SE rl met f rs K = t at *
  refine es 2000 ?_
  (simp only [atG, atR, d0, Qg, hv, dN, dm, Fj, Zo, w0, seval])
  refine hlp ?_
  refine Aj.fr [0, 1, 2, 3, 4, 5, 6, 7, 8, 9, 10, 11, 12, 13] [] hx Ax Ak ?_ ?_
  ·simp only [LY, seval]
  ·simp only [SB, hv, Ik, dN, At, seval]
 ·have d0 : ((i : Int) < ((min rs.length 16 : Nat) : Int)) = True := eq_true Aa
  have w0 : IntKind.i64.wrap ((i : Int) + 1) = ((i + 1 : Nat) : Int) := A9
  have g1 : ∀ j, gI rs (i + 1) j = if j = i then rs.getD i 0 else gI rs i j := fun j => by
   unfold gI
   by_cases h : j = i
   ·subst h; rw [if_pos Aa, if_pos rfl]
   ·rw [if_neg h]
    by_cases h2 : j < i
    ·rw [if_pos h2, if_pos Aa]
    ·rw [if_neg h2, if_neg Aa]
  have hi1 : i < rs.length := Aa
  have hi2 : i < 16 := Aa
  refine es 2000 ?_
  (simp only [atG, d0, w0, Qg, hv, Ta, SE, dN, dm, Fj, Bn, ws, seval])
  repeat refine sd ?_
  refine ⟨i + 1, by omega, by omega, ?_⟩
  refine Aj.fr [0, 1, 2, 3, 4, 5, 6, 7, 8, 9, 10, 11, 12, 13] [] hx Ax Ak ?_ ?_
  ·simp only [Bn, ws, LY, seval]
  ·simp only [g1, JZ, SB, hv, Ta, SE, Ik, dN, At, seval]
end Mv
