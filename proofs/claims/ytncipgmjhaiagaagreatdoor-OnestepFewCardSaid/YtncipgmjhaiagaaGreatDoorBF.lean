/- A part. -/
import Derived.Test.YtncipgmjhaiagaaGreatDoorAZ
import Derived.Test.YtncipgmjhaiagaaGreatDoorBC
set_option linter.all false
set_option maxRecDepth 20000
set_option maxHeartbeats 4000000
namespace Mv
open Go
variable {M : Seat}
theorem Fh (ok : OkV M) (f g : Nat → BitVec 64) (pc xt : BitVec 64) :
 Af M 70 [.ptr 0 [], .ptr 1 []] [(0, mach f g pc true xt)] 2 (Q3 .nili [(0, mach f g pc true xt)] 2) := by
 refine Ac ok.k70 rfl fun x hx => ?_
 refine es 2000 ?_; (simp only [P3, Qh, Ga, seval])
 refine ID hx [0, 1] (.nili) ([(0, mach f g pc true xt)]) 2 ?_
 all_goals simp only [mach, LY, seval]
theorem MN (ok : OkV M) (f g : Nat → BitVec 64) (pc xt : BitVec 64) (hpc : 8192#64 ≤ pc) :
 Af M 70 [.ptr 0 [], .ptr 1 []] [(0, mach f g pc false xt)] 2 (Q3 .nili [(0, mach f g pc true Ap)] 2) := by
 refine Ac ok.k70 rfl fun x hx => ?_
 refine es 2000 ?_; (simp only [P3, Qh, Ga, eq_true hpc, seval])
 have zz := @mach.eq_1; refine Fl [0] (Bw ok f g pc false xt Ap) ?_
 (simp only [Ga, seval])
 refine ID hx [0, 1] (.nili) ([(0, mach f g pc true Ap)]) 2 ?_
 all_goals simp only [mach, LY, seval]
theorem NT (ok : OkV M) (f g : Nat → BitVec 64) (pc xt : BitVec 64) (hpc : ¬ 8192#64 ≤ pc) (w : BitVec 64) (hw : f pc.toNat = w) (h : ¬ (AT w ≤ 35 ∧ w >>> 32 &&& 255#64 = 0#64)) :
 Af M 70 [.ptr 0 [], .ptr 1 []] [(0, mach f g pc false xt)] 2 (Q3 .nili [(0, mach f g pc true Ap)] 2) := by
 refine Ac ok.k70 rfl fun x hx => ?_
 have hp : pc.toNat < 8192 := BM
 refine es 2000 ?_; (simp only [P3, Qh, Ga, hpc, hw, seval])
 repeat refine sd ?_
 refine BI (GZ ok w h) ?_
 (simp only [LZ, seval])
 have zz := @mach.eq_1; refine Fl [0] (Bw ok f g pc false xt Ap) ?_
 (simp only [Ga, seval])
 refine ID hx [0, 1] (.nili) ([(0, mach f g pc true Ap)]) 2 ?_
 all_goals simp only [mach, LY, seval]
def Sm (op : Nat) (f g : Nat → BitVec 64) (pc xt : BitVec 64) (d a : Nat) (to : BitVec 64) : V :=
 if (op = 30 ∧ ¬ g a = 0#64) ∨ (op = 31 ∧ g a = 0#64) then mach f g (pc + 1#64) false xt
 else if 8192#64 ≤ (if op = 33 then g a else to) then mach f g pc true Ap
 else mach f (if op = 32 then E9 g d (pc + 1#64) else g) (if op = 33 then g a else to) false xt
theorem T9 (ok : OkV M) (op : Nat) (ho : op = 29 ∨ op = 30 ∨ op = 31 ∨ op = 32 ∨ op = 33) (f g : Nat → BitVec 64) (pc xt : BitVec 64) (d a : Nat) (hd : d < 16) (ha : a < 16) (to : BitVec 64) :
 Af M 216 [.ptr 0 [], .int .i64 op, .int .i64 d, .int .i64 a, W to] [(0, mach f g pc false xt)] 1 (Q3 (.tup .fnil) [(0, Sm op f g pc xt d a to)] 1) := by
 refine Ac ok.k216 rfl fun x hx => ?_
 by_cases h0 : g a = 0#64 <;> by_cases h1 : 8192#64 ≤ to <;> by_cases h2 : 8192#64 ≤ g a <;> rcases ho with rfl | rfl | rfl | rfl | rfl
 all_goals simp only [Sm, h0, h1, h2, seval, Vj, true_and, false_and, or_false, not_false_eq_true, false_or]
 all_goals refine es 2000 ?_; (simp only [Afy, Amt, Ga, h0, h1, h2, Int.cast_ofNat_Int, seval])
 all_goals repeat refine sd ?_
 all_goals try ((have zz := aq2 @mach.eq_1 Og; exact Bg hx [0] ⟨rfl, rfl, rfl⟩))
 all_goals
  have zz := @mach.eq_1; refine Fl [0] (Bw ok f g pc false xt Ap) ?_
  (simp only [Ga, seval])
  have zz := aq2 @mach.eq_1 Og; exact Bg hx [0] ⟨rfl, rfl, rfl⟩
theorem Cz (ok : OkV M) (op : Nat) (ho : op = 29 ∨ op = 30 ∨ op = 31 ∨ op = 32 ∨ op = 33) (f g : Nat → BitVec 64) (pc xt : BitVec 64) (hpc : ¬ 8192#64 ≤ pc) (w : BitVec 64) (hw : f pc.toNat = w) (hop : AT w = op) (h2 : w >>> 32 &&& 255#64 = 0#64) :
 Af M 70 [.ptr 0 [], .ptr 1 []] [(0, mach f g pc false xt)] 2 (Q3 .nili [(0, Sm op f g pc xt (pF w 52) (pF w 48) (BitVec.ofInt 64 (pN w)))] 2) := by
 refine Ac ok.k70 rfl fun x hx => ?_
 have hp : pc.toNat < 8192 := BM
 have a1 := Ai w 52
 have a2 := Ai w 48
 have d1 : ((op : Int) = 0) = False := eq_false Aa
 have d2 : ((op : Int) < 26) = False := eq_false Aa
 have d3 : ((op : Int) = 26) = False := eq_false Aa
 have d4 : ((op : Int) = 27) = False := eq_false Aa
 have d5 : ((op : Int) = 28) = False := eq_false Aa
 have d6 : ((op : Int) < 34) = True := eq_true Aa
 refine es 2000 ?_; (simp only [P3, Qh, Ga, hpc, hw, seval])
 repeat refine sd ?_
 have zz := @Bb.eq_1; refine Gy (Az ok w Aa h2) ?_
 (simp only [Hi, hop, d1, d2, d3, d4, d5, d6, seval])
 repeat refine sd ?_
 have hS : ∀ H m z, Aw H m z (Sm op f g pc xt (pF w 52) (pF w 48) (BitVec.ofInt 64 (pN w))) (Sm op f g pc xt (pF w 52) (pF w 48) (BitVec.ofInt 64 (pN w))) := by
  intro H m z
  unfold Sm
  repeat' split
  all_goals simp only [mach, LY, seval]
 have hN : AD (Sm op f g pc xt (pF w 52) (pF w 48) (BitVec.ofInt 64 (pN w))) := by
  unfold Sm
  repeat' split
  all_goals simp only [mach, AD, Ru, implies_true, and_self]
 have hR : ∀ m, (Sm op f g pc xt (pF w 52) (pF w 48) (BitVec.ofInt 64 (pN w))).ren m = Sm op f g pc xt (pF w 52) (pF w 48) (BitVec.ofInt 64 (pN w)) := by
  intro m
  unfold Sm
  repeat' split
  all_goals rfl
 have zz := aq2 @mach.eq_1 hN; refine Fl [0] (T9 ok op ho f g pc xt (pF w 52) (pF w 48) Aa Aa (BitVec.ofInt 64 (pN w))) ?_
 (simp only [hR, LZ, seval])
 have zz := hS; exact Bg hx [0, 1] ⟨rfl, rfl, rfl⟩
variable {M : Seat}
structure OkO (M : Seat) : Prop extends OkW M where
 k308 : Al M 308 Aia = true
 k327 : Al M 327 ZF = true
 k326 : Al M 326 Ad2 = true
 k217 : Al M 217 Li = true
theorem AY (ok : OkO M) (a b : BitVec 64) : Af M 326 [W a, W b] [] 0 (Q3 (.bool (decide (a ≤ 8192#64) && decide (b ≤ 8192#64 - a))) [] 0) := by
 refine Ac ok.k326 rfl fun x hx => ?_
 rcases Classical.propComplete (a ≤ 8192#64) with h | h
 all_goals refine es 2000 ?_; (simp only [Ad2, Ajw, h, LZ, seval])
 all_goals try simp only [h, decide_true, decide_false, Bool.true_and, Bool.false_and]
 all_goals exact Aq.mkZ hx [] ⟨rfl, rfl, rfl⟩
def Jp (p : Nat → BitVec 8) : Nat → BitVec 64
 | 0 => 0
 | k + 1 => (Jp p k <<< (8#64).toNat) ||| (p k).setWidth 64
theorem Dh (ok : OkO M) (n : Nat) (hn : 8 ≤ n) (p : Nat → BitVec 8) : Af M 308 [.lst 1 n (fun j => B (p j))] [] 0 (Q3 (W (Jp p 8)) [] 0) := by
 refine Ac ok.k308 rfl fun x hx => ?_
 refine es 2000 ?_; (simp only [Aia, Alj, BA, seval])
 repeat refine sd ?_
 refine Ag (σ := Nat) (fun i => i ≤ 8) (fun i => fr 20 [(7, .lst 1 8 fun j => B (p j)), (8, .int .i64 8), (9, .int .i64 i), (3, W (Jp p i))]) (fun _ => []) (fun _ => 0) (fun i => 8 - i) 0 Aa ?_ ?_
 ·refine Aj.fr [] [] hx Ax Ak ?_ ?_
  ·simp only [Jp, LY, seval]
  ·trivial
 ·intro i hi
  refine es 2000 ?_
  by_cases h8 : i = 8
  ·subst h8
   (simp only [LZ, seval])
   exact Aq.mkZ hx [] ⟨rfl, rfl, rfl⟩
  ·have d0 : ((i : Int) < 8) = True := eq_true Aa
   have w0 : IntKind.i64.wrap ((i : Int) + 1) = ((i + 1 : Nat) : Int) := A9
   (simp only [d0, w0, LZ, seval])
   repeat refine sd ?_
   refine ⟨i + 1, by omega, by omega, ?_⟩
   refine Aj.fr [] [] hx Ax Ak ?_ ?_
   ·simp only [Jp, LY, seval]
   ·trivial
def V7 (w : BitVec 64) (j : Nat) : BitVec 8 := (w >>> (56 - 8 * j)).setWidth 8
theorem Md (hc : Al M 312 UJ = true) (w : BitVec 64) :
 Af M 312 [.sl 0 [] 0 8 1, W w] [(0, .ar 1 8 fun _ => B 0#8)] 1 (Q3 (.tup .fnil) [(0, .ar 1 8 fun j => B (if j < 8 then V7 w j else 0#8))] 1) := by
 have h := JU hc 8 0 8 (fun _ => 0) (w.toNat : Int) Aa Aa Aa
 have e : (fun j => V.int .u8 (if 0 ≤ j ∧ j < 0 + 8 then Zl (w.toNat : Int) (j - 0) else 0)) = (fun j => B (if j < 8 then V7 w j else 0#8)) := by
  funext j
  by_cases hj : j < 8
  ·rw [if_pos hj, if_pos Aa]; exact XM w j
  ·rw [if_neg hj, if_neg Aa]; rfl
 rw [e] at h
 exact h
theorem CX (okA : OkM M) (ok : OkO M) (w : BitVec 64) :
 Af M 327 [.nils, W w] [] 0 (Q3 (.sl 0 [] 0 8 1) [(0, .ar 1 8 fun j => B (V7 w j))] 1) := by
 refine Ac ok.k327 rfl fun x hx => ?_
 refine es 2000 ?_; (simp only [ZF, Ah3, BA, seval])
 repeat refine sd ?_
 refine Tc [16] (Md okA.k312 w) ?_
 (simp only [LZ, seval])
 repeat refine sd ?_
 refine ID hx [112] (.sl 0 [] 0 8 1) ([(0, .ar 1 8 fun j => B (V7 w j))]) 1 ?_
 simp only [LY, seval]
 intro i hi
 rw [if_pos hi]
theorem CZ (okA : OkM M) (ok : OkO M) (n : Nat) (hn : n ≤ 64) (p : Nat → BitVec 8) (w : BitVec 64) :
 Af M 327 [.sl 0 [] 0 n 1, W w] [(0, .ar 1 n (fun j => B (p j)))] 1 (Q3 (.sl 1 [] 0 (n + 8) 1) [(1, .ar 1 (n + 8) fun j => B (if j < n then p j else V7 w (j - n)))] 2) := by
 refine Ac ok.k327 rfl fun x hx => ?_
 refine es 2000 ?_; (simp only [ZF, Ah3, BA, seval])
 repeat refine sd ?_
 refine Tc [17] (Md okA.k312 w) ?_
 (simp only [LZ, seval])
 repeat refine sd ?_
 refine ID hx [0, 113] (.sl 1 [] 0 (n + 8) 1) ([(1, .ar 1 (n + 8) fun j => B (if j < n then p j else V7 w (j - n)))]) 2 ?_
 simp only [LY, seval]
 intro i hi
 by_cases h : i < n
 ·rw [if_pos h, if_pos h]; simp only [B, LY, seval]
 ·rw [if_neg h, if_neg h, if_pos Aa]; simp only [B, LY, seval]
def A6 (f : Nat → BitVec 64) (j : Nat) : BitVec 8 := V7 (f (j / 8)) (j % 8)
theorem N9 {M : Seat} (okA : OkM M) (ok : OkO M) (w : WS) (l : List (Dg × Bool)) (f g : Nat → BitVec 64) (pc xt : BitVec 64) (a b : BitVec 64) (ha : a.toNat + 8 ≤ 8192) (hb : b.toNat + 4 ≤ 8192) :
 Af M 217 [.ptr 5 [], .ptr 0 [], .int .i64 34, W a, W b] (AF w .nils l ++ [(5, mach f g pc false xt)]) 6
  (Q3 (.bool true) (AF (w.add (Pr.mk' (A6 fun j => f (a.toNat + j)))) .nils l ++ [(5, mach (fun j => if b.toNat ≤ j ∧ j < b.toNat + 4 then Jp (fun i => (B9 (Pr.mk' (A6 fun j => f (a.toNat + j))).at).at (8 * (j - b.toNat) + i)) 8 else f j) g pc false xt)]) 6) := by
 refine Ac ok.k217 rfl fun x hx => ?_
 have h1 : (decide (a ≤ 8192#64) && decide (8#64 ≤ 8192#64 - a)) = true := by
  have : a.toNat ≤ 8192 := Aa
  simp only [Lao, decide_eq_true_eq]; omega
 have h2 : (decide (b ≤ 8192#64) && decide (4#64 ≤ 8192#64 - b)) = true := by
  have : b.toNat ≤ 8192 := Aa
  simp only [Lao, decide_eq_true_eq]; omega
 refine es 2000 ?_; (simp only [Li, Nc, Gl, seval])
 refine Ah (AY ok a 8#64) ?_
 (simp only [h1, LZ, seval])
 refine Ah (AY ok b 4#64) ?_
 (simp only [h2, LZ, seval])
 have e8 : (a + 8#64).toNat = a.toNat + 8 := Ajs
 rw [e8, Nat.add_sub_cancel_left]
 repeat refine sd ?_
 refine AZ ?_
 refine es 2000 ?_
 (simp only [BA, seval])
 repeat refine sd ?_
 refine Gh (CX okA ok (f (a.toNat + 0))) ?_
 (simp only [BA, seval])
 repeat refine sd ?_
 have w1 : IntKind.i64.wrap 1 = 1 := Ak
 rw [w1]
 refine Ag (σ := Nat) (fun i => 1 ≤ i ∧ i ≤ 8) (fun i => fr 94 [(0, .ptr 5 []), (1, .ptr 0 []), (2, .int .i64 34), (4, W b), (12, W 4#64), (13, .sl 6 [] 0 (8 * i) 1), (43, .sl 5 [Stp.f 0] a.toNat 8 1), (44, .int .i64 8), (45, .int .i64 i)])
  (fun i => AF w .nils l ++ [(5, mach f g pc false xt), (6, .ar 1 (8 * i) fun j => B (A6 (fun j => f (a.toNat + j)) j))]) (fun _ => 7) (fun i => 8 - i) 1 Aa ?_ ?_
 ·refine Aj.fr [0, 1, 2, 3, 4, 5, 518] [] hx Ax Ak ?_ ?_
  ·simp only [LY, seval]
  ·simp only [IK, Bo, CF, seval]
   intro i hi
   have q1 : i / 8 = 0 := Aa
   have q2 : i % 8 = i := Aa
   simp only [A6, q1, q2, Nat.add_zero]
 ·rintro i ⟨hi1, hi⟩
  refine es 2000 ?_
  by_cases h8 : i = 8
  ·subst h8
   (simp only [Gl, seval])
   repeat refine sd ?_
   have hP : ∀ j, j < 64 → (Pr.mk' (A6 fun j => f (a.toNat + j))).at j = A6 (fun j => f (a.toNat + j)) j := fun j hj => Pr.at_mk' _ _ hj
   generalize Pr.mk' (A6 fun j => f (a.toNat + j)) = P at *
   have hA : Af M 212 [.ptr 0 [], At P] _ _ _ := Mx okA ok.toOkS w P
   generalize hw' : w.add P = w' at *
   clear hw'
   generalize B9 P.at = D at *
   refine Xi [0, 1, 2, 3, 4] [0, 1, 2, 3] (hA) (by constructor <;> (try simp only [Fo, Nw, At, CF, seval]) <;> first | exact q1 | (exact fun j hj => (hP j hj).symm)) (by simp only [Fo, Nw, At, C6, LX]) ?_
   (simp only [Gw, Fo, Nw, AR, seval])
   refine Ag (σ := Nat) (fun i => i ≤ 4) (fun i => fr 94 [(0, .ptr 5 []), (4, W b), (16, .sl 7 [] 0 32 1), (77, W 4#64), (78, W (BitVec.ofNat 64 i))])
    (fun i => AF w' .nils l ++ [(5, mach (fun j => if b.toNat ≤ j ∧ j < b.toNat + i then Jp (fun i => D.at (8 * (j - b.toNat) + i)) 8 else f j) g pc false xt), (7, dg D)]) (fun _ => 8) (fun i => 4 - i) 0 Aa ?_ ?_
   ·refine Aj.fr [0, 1, 2, 3, 4, 5, 6, 199] [] hx Ax Ak ?_ ?_
    ·simp only [LY, seval]
    ·simp only [IK, Bo, CF, seval]
     exact fun i _ => (if_neg Aa).symm
   ·intro i hi
    refine es 2000 ?_
    by_cases h4 : i = 4
    ·subst h4
     (simp only [Gl, seval])
     have zz := aq2 @Bo @C6; exact Bg hx [0, 1, 2, 3, 4, 5] ⟨rfl, rfl, rfl⟩
    ·have t1 : (BitVec.ofNat 64 i).toNat = i := HG
     have d0 : (BitVec.ofNat 64 i < 4#64) = True := eq_true (by rw [BitVec.lt_def, t1]; show i < 4; omega)
     have t2 : (8#64 * BitVec.ofNat 64 i).toNat = 8 * i := Q1
     have t3 : (b + BitVec.ofNat 64 i).toNat = b.toNat + i := U9
     have t4 : BitVec.ofNat 64 i + 1#64 = BitVec.ofNat 64 (i + 1) := TC
     (simp only [d0, t2, t3, t4, Gl, seval])
     repeat refine sd ?_
     refine Y9 (Dh ok (32 - 8 * i) Aa (fun j => D.at (8 * i + j))) (by (try simp only [dg, CF, seval]) <;> first | exact q1 | ((show 8 * i + (32 - 8 * i) ≤ 32; omega))) (by simp only [dg, C6, LX]) ?_
     (simp only [t2, t3, t4, BA, seval])
     repeat refine sd ?_
     refine ⟨i + 1, by omega, by omega, ?_⟩
     refine Aj.fr [0, 1, 2, 3, 4, 5, 6, 7] [] hx Ax Ak ?_ ?_
     ·simp only [LY, seval]
     ·simp only [Bo, CF, seval]
      intro q hq
      by_cases e : q = b.toNat + i
      ·subst e
       rw [if_pos rfl, if_pos Aa, Nat.add_sub_cancel_left]; simp only [W, LY, seval]
      ·rw [if_neg e]
       by_cases e2 : b.toNat ≤ q ∧ q < b.toNat + i
       ·rw [if_pos Aa, if_pos e2]; simp only [W, LY, seval]
       ·rw [if_neg Aa, if_neg e2]; simp only [W, LY, seval]
  ·have d0 : ((i : Int) < 8) = True := eq_true Aa
   have w0 : IntKind.i64.wrap ((i : Int) + 1) = ((i + 1 : Nat) : Int) := A9
   have n0 : (0 : Int) ≤ (i : Int) := Aa
   (simp only [d0, w0, Gl, seval])
   repeat refine sd ?_
   have zz := @C6; refine Fl [6] (CZ okA ok (8 * i) Aa (A6 fun j => f (a.toNat + j)) (f (a.toNat + i))) ?_
   (simp only [BA, w0, seval])
   repeat refine sd ?_
   refine ⟨i + 1, by omega, by omega, by omega, ?_⟩
   have e88 : 8 * (i + 1) = 8 * i + 8 := Aa
   rw [e88]
   refine Aj.fr [0, 1, 2, 3, 4, 5, 103] [] hx Ax Ak ?_ ?_
   ·simp only [LY, seval]
   ·simp only [Bo, CF, seval]
    intro q hq
    by_cases e : q < 8 * i
    ·rw [if_pos e]
    ·have e1 : q / 8 = i := Aa
     have e2 : q % 8 = q - 8 * i := Aa
     rw [if_neg e, A6, e1, e2]
variable {M : Seat}
theorem Kl (ok : OkV M) (okP : OkP M) (f g : Nat → BitVec 64) (pc xt : BitVec 64) (hpc : ¬ 8192#64 ≤ pc) (w : BitVec 64) (hw : f pc.toNat = w) (op : Nat) (h1 : 1 ≤ op) (h25 : op ≤ 25) (hop : AT w = op) (h2 : w >>> 32 &&& 255#64 = 0#64) :
 ∃ v, Af M 70 [.ptr 0 [], .ptr 1 []] [(0, mach f g pc false xt)] 2 (Q3 .nili [(0, mach f (E9 g (pF w 52) v) (pc + 1#64) false xt)] 2) := by
 obtain ⟨v, hv⟩ := V2 okP op h1 h25 (g (pF w 48)) (g (pF w 44)) (g (pF w 40))
 refine ⟨v, Ac ok.k70 rfl fun x hx => ?_⟩
 have hp : pc.toNat < 8192 := BM
 have a1 := Ai w 52
 have a2 := Ai w 48
 have a3 := Ai w 44
 have a4 := Ai w 40
 have d1 : ((op : Int) = 0) = False := eq_false Aa
 have d2 : ((op : Int) < 26) = True := eq_true Aa
 refine es 2000 ?_; (simp only [Lcb, hpc, hw, seval])
 repeat refine sd ?_
 have zz := @Bb.eq_1; refine Gy (Az ok w Aa h2) ?_
 (simp only [Hi, hop, d1, d2, seval])
 repeat refine sd ?_
 refine BI (hv) ?_
 (simp only [Cb, seval])
 repeat refine sd ?_
 have zz := aq2 @mach.eq_1 Og; exact Bg hx [0, 1] ⟨rfl, rfl, rfl⟩
def wi (a n : BitVec 64) : Bool := decide (a ≤ 8192#64) && decide (n ≤ 8192#64 - a)
theorem Kk (ok : OkO M) (f g : Nat → BitVec 64) (pc xt : BitVec 64) (a b : BitVec 64) (h : (wi a 8#64 && wi b 4#64) = false) :
 Af M 217 [.ptr 0 [], .ptr 1 [], .int .i64 34, W a, W b] [(0, mach f g pc false xt)] 2 (Q3 (.bool false) [(0, mach f g pc true Ap)] 2) := by
 refine Ac ok.k217 rfl fun x hx => ?_
 cases h1 : wi a 8#64 with
 | false =>
   unfold wi at h1
   refine es 2000 ?_; (simp only [Li, Nc, Ga, seval])
   refine Ah (AY ok a 8#64) ?_
   (simp only [h1, LZ, seval])
   have zz := @mach.eq_1; refine Fl [0] (Bw ok.toOkV f g pc false xt Ap) ?_
   (simp only [Ga, seval])
   have zz := @mach.eq_1; exact Bg hx [0, 1] ⟨rfl, rfl, rfl⟩
 | true =>
   rw [h1, Bool.true_and] at h
   unfold wi at h1 h
   refine es 2000 ?_; (simp only [Li, Nc, Ga, seval])
   refine Ah (AY ok a 8#64) ?_
   (simp only [h1, LZ, seval])
   refine Ah (AY ok b 4#64) ?_
   (simp only [h, LZ, seval])
   have zz := @mach.eq_1; refine Fl [0] (Bw ok.toOkV f g pc false xt Ap) ?_
   (simp only [Ga, seval])
   have zz := @mach.eq_1; exact Bg hx [0, 1] ⟨rfl, rfl, rfl⟩
theorem Ju (ok : OkO M) (f g : Nat → BitVec 64) (pc xt : BitVec 64) (hpc : ¬ 8192#64 ≤ pc) (w : BitVec 64) (hw : f pc.toNat = w) (hop : AT w = 34) (h2 : w >>> 32 &&& 255#64 = 0#64) (h : (wi (g (pF w 48)) 8#64 && wi (g (pF w 44)) 4#64) = false) :
 Af M 70 [.ptr 0 [], .ptr 1 []] [(0, mach f g pc false xt)] 2 (Q3 .nili [(0, mach f g pc true Ap)] 2) := by
 refine Ac ok.k70 rfl fun x hx => ?_
 have hp : pc.toNat < 8192 := BM
 have a1 := Ai w 52
 have a2 := Ai w 48
 have a3 := Ai w 44
 refine es 2000 ?_; (simp only [Lcb, hpc, hw, seval])
 repeat refine sd ?_
 have zz := @Bb.eq_1; refine Gy (Az ok.toOkV w Aa h2) ?_
 (simp only [Hi, hop, seval])
 repeat refine sd ?_
 have zz := @mach.eq_1; refine obY [0, 1] [0] (Kk ok f g pc xt _ _ h) ?_
 (simp only [Ga, seval])
 repeat refine sd ?_
 have zz := @mach.eq_1; exact Bg hx [0, 1] ⟨rfl, rfl, rfl⟩
theorem K3 (ok : OkO M) (f g : Nat → BitVec 64) (pc xt : BitVec 64) (a b : BitVec 64) (h : (wi a 4#64 && wi b 8#64) = false) :
 Af M 217 [.ptr 0 [], .ptr 1 [], .int .i64 35, W a, W b] [(0, mach f g pc false xt)] 2 (Q3 (.bool false) [(0, mach f g pc true Ap)] 2) := by
 refine Ac ok.k217 rfl fun x hx => ?_
 cases h1 : wi a 4#64 with
 | false =>
   unfold wi at h1
   refine es 2000 ?_; (simp only [Li, Nc, Ga, seval])
   refine Ah (AY ok a 4#64) ?_
   (simp only [h1, LZ, seval])
   have zz := @mach.eq_1; refine Fl [0] (Bw ok.toOkV f g pc false xt Ap) ?_
   (simp only [Ga, seval])
   have zz := @mach.eq_1; exact Bg hx [0, 1] ⟨rfl, rfl, rfl⟩
 | true =>
   rw [h1, Bool.true_and] at h
   unfold wi at h1 h
   refine es 2000 ?_; (simp only [Li, Nc, Ga, seval])
   refine Ah (AY ok a 4#64) ?_
   (simp only [h1, LZ, seval])
   refine Ah (AY ok b 8#64) ?_
   (simp only [h, LZ, seval])
   have zz := @mach.eq_1; refine Fl [0] (Bw ok.toOkV f g pc false xt Ap) ?_
   (simp only [Ga, seval])
   have zz := @mach.eq_1; exact Bg hx [0, 1] ⟨rfl, rfl, rfl⟩
theorem Jh (ok : OkO M) (f g : Nat → BitVec 64) (pc xt : BitVec 64) (hpc : ¬ 8192#64 ≤ pc) (w : BitVec 64) (hw : f pc.toNat = w) (hop : AT w = 35) (h2 : w >>> 32 &&& 255#64 = 0#64) (h : (wi (g (pF w 48)) 4#64 && wi (g (pF w 44)) 8#64) = false) :
 Af M 70 [.ptr 0 [], .ptr 1 []] [(0, mach f g pc false xt)] 2 (Q3 .nili [(0, mach f g pc true Ap)] 2) := by
 refine Ac ok.k70 rfl fun x hx => ?_
 have hp : pc.toNat < 8192 := BM
 have a1 := Ai w 52
 have a2 := Ai w 48
 have a3 := Ai w 44
 refine es 2000 ?_; (simp only [Lcb, hpc, hw, seval])
 repeat refine sd ?_
 have zz := @Bb.eq_1; refine Gy (Az ok.toOkV w Aa h2) ?_
 (simp only [Hi, hop, seval])
 repeat refine sd ?_
 have zz := @mach.eq_1; refine obY [0, 1] [0] (K3 ok f g pc xt _ _ h) ?_
 (simp only [Ga, seval])
 repeat refine sd ?_
 have zz := @mach.eq_1; exact Bg hx [0, 1] ⟨rfl, rfl, rfl⟩
def Aaj (m : Mc) : Prop := m.hl = false ∧ ¬ 8192#64 ≤ m.pc ∧ m.f m.pc.toNat >>> 32 &&& 255#64 = 0#64 ∧
 ((AT (m.f m.pc.toNat) = 34 ∧ (wi (m.g (pF (m.f m.pc.toNat) 48)) 8#64 && wi (m.g (pF (m.f m.pc.toNat) 44)) 4#64) = true) ∨ (AT (m.f m.pc.toNat) = 35 ∧ (wi (m.g (pF (m.f m.pc.toNat) 48)) 4#64 && wi (m.g (pF (m.f m.pc.toNat) 44)) 8#64) = true))
theorem Ahr (op : Nat) (f g : Nat → BitVec 64) (pc xt : BitVec 64) (d a : Nat) (to : BitVec 64) : ∃ m : Mc, Sm op f g pc xt d a to = m.v := by
 unfold Sm
 repeat' split
 all_goals exact ⟨⟨_, _, _, _, _⟩, rfl⟩
theorem X2 (ok : OkO M) (okP : OkP M) (m : Mc) (h : ¬ Aaj m) : ∃ m', Y1 M m m' := by
 obtain ⟨f, g, pc, hl, xt⟩ := m
 unfold Y1
 cases hl with
 | true => exact ⟨⟨f, g, pc, true, xt⟩, Fh ok.toOkV f g pc xt⟩
 | false =>
   show ∃ m' : Mc, Af M 70 [.ptr 0 [], .ptr 1 []] [(0, mach f g pc false xt)] 2 (Q3 .nili [(0, m'.v)] 2)
   by_cases hpc : 8192#64 ≤ pc
   ·exact ⟨⟨f, g, pc, true, Ap⟩, MN ok.toOkV f g pc xt hpc⟩
   ·by_cases hn : AT (f pc.toNat) ≤ 35 ∧ f pc.toNat >>> 32 &&& 255#64 = 0#64
    ·obtain ⟨h35, h2⟩ := hn
     have hj : ∀ op, (Af M 70 [.ptr 0 [], .ptr 1 []] [(0, mach f g pc false xt)] 2 (Q3 .nili [(0, Sm op f g pc xt (pF (f pc.toNat) 52) (pF (f pc.toNat) 48) (BitVec.ofInt 64 (pN (f pc.toNat))))] 2)) →
      ∃ m' : Mc, Af M 70 [.ptr 0 [], .ptr 1 []] [(0, mach f g pc false xt)] 2 (Q3 .nili [(0, m'.v)] 2) := fun op hr => by
      obtain ⟨m', hm⟩ := Ahr op f g pc xt (pF (f pc.toNat) 52) (pF (f pc.toNat) 48) (BitVec.ofInt 64 (pN (f pc.toNat)))
      rw [hm] at hr
      exact ⟨m', hr⟩
     by_cases q0 : AT (f pc.toNat) = 0
     ·exact ⟨⟨f, g, pc, true, _⟩, Gu ok.toOkV f g pc xt hpc _ rfl q0 h2⟩
     by_cases q1 : AT (f pc.toNat) ≤ 25
     ·obtain ⟨v, hv⟩ := Kl ok.toOkV okP f g pc xt hpc _ rfl (AT (f pc.toNat)) Aa q1 rfl h2
      exact ⟨⟨f, _, _, false, xt⟩, hv⟩
     by_cases q2 : AT (f pc.toNat) = 26
     ·exact ⟨⟨f, _, _, false, xt⟩, PM ok.toOkV f g pc xt hpc _ rfl q2 h2⟩
     by_cases q3 : AT (f pc.toNat) = 27
     ·by_cases hwh : 8192#64 ≤ g (pF (f pc.toNat) 48) + BitVec.ofInt 64 (pN (f pc.toNat))
      ·exact ⟨⟨f, g, pc, true, Ap⟩, GG ok.toOkV f g pc xt hpc _ rfl q3 h2 _ rfl hwh⟩
      ·exact ⟨⟨f, _, _, false, xt⟩, L2 ok.toOkV f g pc xt hpc _ rfl q3 h2 _ rfl hwh⟩
     by_cases q4 : AT (f pc.toNat) = 28
     ·by_cases hwh : 8192#64 ≤ g (pF (f pc.toNat) 48) + BitVec.ofInt 64 (pN (f pc.toNat))
      ·exact ⟨⟨f, g, pc, true, Ap⟩, Gt ok.toOkV f g pc xt hpc _ rfl q4 h2 _ rfl hwh⟩
      ·exact ⟨⟨_, g, _, false, xt⟩, K5 ok.toOkV f g pc xt hpc _ rfl q4 h2 _ rfl hwh⟩
     by_cases q5 : AT (f pc.toNat) = 29
     ·exact hj 29 (Cz ok.toOkV 29 Ak f g pc xt hpc _ rfl q5 h2)
     by_cases q6 : AT (f pc.toNat) = 30
     ·exact hj 30 (Cz ok.toOkV 30 Ak f g pc xt hpc _ rfl q6 h2)
     by_cases q7 : AT (f pc.toNat) = 31
     ·exact hj 31 (Cz ok.toOkV 31 Ak f g pc xt hpc _ rfl q7 h2)
     by_cases q8 : AT (f pc.toNat) = 32
     ·exact hj 32 (Cz ok.toOkV 32 Ak f g pc xt hpc _ rfl q8 h2)
     by_cases q9 : AT (f pc.toNat) = 33
     ·exact hj 33 (Cz ok.toOkV 33 Ak f g pc xt hpc _ rfl q9 h2)
     by_cases q10 : AT (f pc.toNat) = 34
     ·exact ⟨⟨f, g, pc, true, Ap⟩, Ju ok f g pc xt hpc _ rfl q10 h2 (by
       cases hb : (wi (g (pF (f pc.toNat) 48)) 8#64 && wi (g (pF (f pc.toNat) 44)) 4#64) with
       | false => rfl
       | true => exact absurd ⟨rfl, hpc, h2, .inl ⟨q10, hb⟩⟩ h)⟩
     have q11 : AT (f pc.toNat) = 35 := Aa
     exact ⟨⟨f, g, pc, true, Ap⟩, Jh ok f g pc xt hpc _ rfl q11 h2 (by
      cases hb : (wi (g (pF (f pc.toNat) 48)) 4#64 && wi (g (pF (f pc.toNat) 44)) 8#64) with
      | false => rfl
      | true => exact absurd ⟨rfl, hpc, h2, .inr ⟨q11, hb⟩⟩ h)⟩
    ·exact ⟨⟨f, g, pc, true, Ap⟩, NT ok.toOkV f g pc xt hpc _ rfl hn⟩
end Mv
