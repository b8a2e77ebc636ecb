/- A part. -/
import Derived.Test.YtncipgmjhaiagaaGreatDoorDQ
import Derived.KernelRfl
import Derived.Carry
import Derived.Lib.LaidTab
import Derived.Deep.SlicePairs
import Derived.Test.YtncipgmjhaiagaaGreatDoorRows
set_option linter.all false
set_option maxRecDepth 200000
set_option maxHeartbeats 64000000
namespace Mv
open Go
def D2 : Mc := ⟨fun _ => 0#64, fun _ => 0#64, 0#64, false, 0#64⟩
def LE : Mc := ⟨fun _ => 0#64, fun _ => 0#64, 0#64, true, 0#64⟩
theorem Anu : isI 0#64 = true := Ak
theorem Ale : AT 0#64 = 0 := Ak
theorem nx0 (pres : List (Dg × Pr)) : nx (Fc pres) D2.h ⟨D2.f, [], Pr.zero⟩ = (LE.h, none, ⟨D2.f, [Bf D2.f 0#64], Pr.zero⟩) := by
 show Of (Fc pres) D2.h 0#64 ⟨D2.f, [Bf D2.f 0#64], Pr.zero⟩ = _
 rw [Of, if_neg (by rw [Anu]; simp), if_pos Ale]
 rfl
theorem Yj (pres : List (Dg × Pr)) : Ei pres D2 = (none, [Bf D2.f 0#64], Pr.zero) := by
 rw [Ei, if_neg (by simp [D2]), if_neg Ak, nx0]
theorem Ag7 (pres : List (Dg × Pr)) : Tr pres D2 = LE := by
 rw [Tr, if_neg (by simp [D2]), if_neg Ak, nx0]; rfl
theorem Kc : ∀ n, JT (FK n).pres
 | 0 => fun h p hk => by simp [FK, Dv] at hk
 | n + 1 => by rw [FK]; exact QY _ _ (Kc n)
structure OkF15 (M : Seat) : Prop where
 o : OkOs M
 k96 : Al M 96 f96 = true
theorem HW {M : Seat} (ok : OkF15 M) (hne : ¬ LE.com = D2.com) : Af M 96 [] [] 0 (Q3 (.bool true) [] 0) := by
 have hP := Mz ok.o D2 (FK 16).pres 0
 rw [Yj] at hP
 have hV := OT ok.o D2.com (Bm D2.f 13 0) D2.h [Bf D2.f 0#64] Pr.zero
 have hv := Ajg (FK 16).pres (Kc 16) D2 (by rw [Yj])
 rw [Yj, Ag7] at hv
 rw [hv] at hV
 have hS := Gu ok.o.q.ok.toOkV D2.f D2.g D2.pc D2.xt Ak 0#64 rfl Ale Ak
 have hO0 := Sv ok.o.q.okA ok.o.d D2.f D2.g D2.pc false D2.xt
 have hO1 := Sv ok.o.q.okA ok.o.d LE.f LE.g LE.pc true LE.xt
 have e0 : Yo D2.f D2.g D2.pc false D2.xt = D2.com := rfl
 have e1 : Yo LE.f LE.g LE.pc true LE.xt = LE.com := rfl
 rw [e0] at hO0
 rw [e1] at hO1
 have hpv : TO D2 none [Bf D2.f 0#64] Pr.zero = Ao (Vf (Bm D2.f 13 0) D2.h [Bf D2.f 0#64] Pr.zero) .nili := rfl
 have hm0 : D2.v = mach (fun _ => 0#64) (fun _ => 0#64) 0#64 false 0#64 := rfl
 have hm1 : LE.v = mach (fun _ => 0#64) (fun _ => 0#64) 0#64 true 0#64 := rfl
 dsimp only at hP
 rw [hpv, hm0] at hP
 have hS : Af M 70 [.ptr 0 [], .ptr 1 []] [(0, mach (fun _ => 0#64) (fun _ => 0#64) 0#64 false 0#64)] 2 (Q3 .nili [(0, mach (fun _ => 0#64) (fun _ => 0#64) 0#64 true 0#64)] 2) := hS
 have hO0 : Af M 54 [.imm (mach (fun _ => 0#64) (fun _ => 0#64) 0#64 false 0#64)] [] 0 (Q3 (Ao (dg D2.com) .nili) [] 0) := hO0
 have hO1 : Af M 54 [.imm (mach (fun _ => 0#64) (fun _ => 0#64) 0#64 true 0#64)] [] 0 (Q3 (Ao (dg LE.com) .nili) [] 0) := hO1
 have hlen : ([Bf D2.f 0#64] : List Pf).length = 1 := rfl
 generalize D2.com = C0 at *
 generalize LE.com = C1 at *
 generalize Bm D2.f 13 0 = R0 at *
 generalize hL : [Bf D2.f 0#64] = L0 at *
 have hsp : Vf R0 D2.h L0 Pr.zero = .st 116 (.fcons 0 (dg R0) (.fcons 32 (.st 19 (.fcons 0 (.ar 1 16 (fun _ => W 0#64)) (.fcons 16 (W 0#64) (.fcons 17 (.bool false) (.fcons 18 (W 0#64) .fnil))))) (.fcons 51 (.lst 2 L0.length (Dz L0)) (.fcons 52 (At Pr.zero) .fnil)))) := rfl
 rw [hsp, hlen] at hP hV
 clear hsp hpv hv hL hlen e0 e1
 refine Ac ok.k96 rfl fun x hx => ?_
 refine es 2000 ?_; (simp only [f96, c96, LZ, seval])
 have zz := @mach.eq_1; refine El (Me ok.o.q.okA) ?_
 (simp only [Cb, Bp, seval])
 have zz := aq5 @AF.eq_1 Nw @Bo @BV @C6; refine El (PC ok.o.q.okA ok.o.q.ok.toOkS) ?_
 (simp only [AF, Nw, AR, Bp, BA, seval])
 have zz := aq3 @EA.eq_1 @mach.eq_1 @C6; refine IJ [16, 112, 113, 114, 116] [16, 112, 113] (hP) ?_
 (simp only [LW, EA, Bp, seval])
 have zz := aq2 @mach.eq_1 @dg.eq_1; refine CI (hO0) ?_
 (simp only [Cb, seval])
 have zz := aq3 @dg.eq_1 Mt @Bz; refine CI (hV) ?_
 (simp only [Cb, Bz, seval])
 have zz := @mach.eq_1; refine JO [16, 112] [16] (hS) ?_
 (simp only [Bp, LZ, seval])
 have zz := aq2 @mach.eq_1 @dg.eq_1; refine CI (hO1) ?_
 (simp only [Gw, hne, seval])
 exact Aq.mkZ hx [] ⟨rfl, rfl, rfl⟩
def c20 : LC := (sr [A1 10 (.mv (.c (.bool false)))]
 (sr [mt 24 0,
  mt 25 1,
  mt 26 2,
  mt 27 3,
  kl 28 95 [(.t 24), (.t 25), (.t 26), (.t 27)],
  mt 23 28,
  A1 29 (.ext (.t 23) 0),
  A1 30 (.ext (.t 23) 1),
  A1 31 (.ext (.t 23) 2),
  mt 11 29,
  mt 12 30,
  mt 13 31]
 (.seq (sr [mt 32 11,
  A1 33 (.eq false true .ptr (.t 32) (.c .nilp)),
  mt 34 33,
  ⟨(some 35), .call 96 [], (some (34, false))⟩,
  A2 36 34 false (.un .not (.t 35)),
  A1 37 (.pick (.t 34) (.c (.bool true)) (.t 36))]
 (.cond (.t 37) (sr [A1 10 (.mv (.c (.bool false)))]
 (.ret)) (.skip)))
 (sr [mt 39 11,
  kl 40 54 [(.t 39)],
  mt 38 40,
  A1 41 (.ext (.t 38) 0),
  A1 42 (.ext (.t 38) 1),
  A1 14 (.alloc (.ar 32 (.int .u8))),
  A0 (.store 32 (.t 14) (.t 41)),
  mt 15 42]
 (.seq (sr [mt 43 15,
  A1 44 (.eq true true (.iface [74]) (.t 43) (.c .nili))]
 (.cond (.t 44) (sr [A1 10 (.mv (.c (.bool false)))]
 (.ret)) (.skip)))
 (.seq (sr [mt 45 4,
  A1 46 (.conv .u64 (.t 45)),
  A1 47 (.ari .rem (.t 46) (cU 4)),
  A1 48 (.conv .i64 (.t 47)),
  A1 49 (.ari .add (cI 1) (.t 48)),
  A1 50 (.mv (cI 0))]
 (.block 0 (.loop (sr [A1 51 (.ari .lss (.t 50) (.t 49))]
 (.seq (.cond (.t 51) (.skip) (.exit 0))
 (.seq (.block 1 (sr [mt 53 11,
  mt 54 12,
  kl 55 97 [(.t 53), (.t 54)],
  mt 52 55,
  A1 56 (.ext (.t 52) 0),
  A1 57 (.ext (.t 52) 1),
  A1 16 (.alloc (.st (.cons (.ar 32 (.int .u8)) (.cons (.st (.cons (.ar 16 (.int .u64)) (.cons (.int .u64) (.cons .bool (.cons (.int .u64) .nil))))) (.cons .slice (.cons (.ar 64 (.int .u8)) .nil)))))),
  A0 (.store 116 (.t 16) (.t 56)),
  mt 17 57]
 (.seq (sr [mt 58 17,
  A1 59 (.eq true true (.iface [74]) (.t 58) (.c .nili))]
 (.cond (.t 59) (sr [A1 10 (.mv (.c (.bool true)))]
 (.ret)) (.skip)))
 (sr [A1 61 (.load true 32 (.t 14)),
  A1 62 (.load true 116 (.t 16)),
  kl 63 98 [(.t 61), (.t 62)],
  mt 60 63,
  A1 64 (.ext (.t 60) 0),
  A1 65 (.ext (.t 60) 1),
  A1 18 (.alloc (.ar 32 (.int .u8))),
  A0 (.store 32 (.t 18) (.t 64)),
  mt 17 65]
 (sr [mt 66 11,
  mt 67 12,
  kl 68 70 [(.t 66), (.t 67)]]
 (.seq (sr [mt 70 11,
  kl 71 54 [(.t 70)],
  mt 69 71,
  A1 72 (.ext (.t 69) 0),
  A1 73 (.ext (.t 69) 1),
  A1 19 (.alloc (.ar 32 (.int .u8))),
  A0 (.store 32 (.t 19) (.t 72)),
  mt 20 73]
 (sr [mt 74 17,
  A1 75 (.eq true true (.iface [74]) (.t 74) (.c .nili)),
  mt 76 75,
  A2 77 76 false (.mv (.t 20)),
  A2 78 76 false (.eq true true (.iface [74]) (.t 77) (.c .nili)),
  A1 79 (.pick (.t 76) (.c (.bool true)) (.t 78)),
  mt 80 79,
  A2 81 80 false (.load true 32 (.t 18)),
  A2 82 80 false (.load true 32 (.t 19)),
  A2 83 80 false (.eq true false (.ar 32 1 false .int) (.t 81) (.t 82)),
  A1 84 (.pick (.t 80) (.c (.bool true)) (.t 83))]
 (.cond (.t 84) (sr [A1 10 (.mv (.c (.bool false)))]
 (.ret)) (.skip))))
 (.seq (sr [A1 86 (.load true 32 (.t 18)),
  A1 87 (.load true 116 (.t 16)),
  kl 88 98 [(.t 86), (.t 87)],
  mt 85 88,
  A1 89 (.ext (.t 85) 0),
  A1 90 (.ext (.t 85) 1),
  A1 21 (.alloc (.ar 32 (.int .u8))),
  A0 (.store 32 (.t 21) (.t 89)),
  mt 22 90]
 (.seq (.regd [⟨0, 0, mt 91 22⟩,
  ⟨1, 1, A1 92 (.eq false true (.iface [74]) (.t 91) (.c .nili))⟩,
  ⟨2, 0, A1 93 (.load true 32 (.t 18))⟩,
  ⟨3, 0, A1 94 (.load true 32 (.t 14))⟩,
  ⟨4, 12, A1 95 (.eq false false (.ar 32 1 false .int) (.t 93) (.t 94))⟩,
  ⟨5, 31, A1 96 (.eq true false .bool (.t 92) (.t 95))⟩])
 (.cond (.t 96) (sr [A1 10 (.mv (.c (.bool false)))]
 (.ret)) (.skip))))
 (.reg [A1 97 (.load true 32 (.t 18)),
  A0 (.store 32 (.t 14) (.t 97))]))))))))
 (.reg [A1 98 (.ari .add (.t 50) (cI 1)),
  mt 50 98])))))))
 (sr [A1 10 (.mv (.c (.bool true)))]
 (.ret))))))))
def f20 : LF := ⟨c20, 5, 0, 99, [.tmp 10]⟩
structure OkCh (M : Seat) : Prop where
 at_ : OkAt M
 f : OkF15 M
 k20 : Al M 20 f20 = true
def m4 (n : Int) : Nat := (BitVec.ofInt 64 n % 4#64).toNat
theorem Apc (n : Int) : m4 n < 4 := by rw [m4, BitVec.toNat_umod]; exact Nat.mod_lt _ Ak
theorem Ape (n : Int) : (BitVec.ofInt 64 n % 4#64).toInt = (m4 n : Int) := by
 have := Apc n
 rw [BitVec.toInt_eq_toNat_cond, if_pos (by unfold m4 at this; omega)]; rfl
theorem Aoh (w : WS) (h : JT w.pres) (pf : Nat → Pr) : ∀ n, JT (Aog w pf n).pres
 | 0 => h
 | n + 1 => by rw [Aog]; exact QY _ _ (Aoh w h pf n)
def chL : LC := (sr [A1 51 (.ari .lss (.t 50) (.t 49))]
 (.seq (.cond (.t 51) (.skip) (.exit 0))
 (.seq (.block 1 (sr [mt 53 11,
  mt 54 12,
  kl 55 97 [(.t 53), (.t 54)],
  mt 52 55,
  A1 56 (.ext (.t 52) 0),
  A1 57 (.ext (.t 52) 1),
  A1 16 (.alloc (.st (.cons (.ar 32 (.int .u8)) (.cons (.st (.cons (.ar 16 (.int .u64)) (.cons (.int .u64) (.cons .bool (.cons (.int .u64) .nil))))) (.cons .slice (.cons (.ar 64 (.int .u8)) .nil)))))),
  A0 (.store 116 (.t 16) (.t 56)),
  mt 17 57]
 (.seq (sr [mt 58 17,
  A1 59 (.eq true true (.iface [74]) (.t 58) (.c .nili))]
 (.cond (.t 59) (sr [A1 10 (.mv (.c (.bool true)))]
 (.ret)) (.skip)))
 (sr [A1 61 (.load true 32 (.t 14)),
  A1 62 (.load true 116 (.t 16)),
  kl 63 98 [(.t 61), (.t 62)],
  mt 60 63,
  A1 64 (.ext (.t 60) 0),
  A1 65 (.ext (.t 60) 1),
  A1 18 (.alloc (.ar 32 (.int .u8))),
  A0 (.store 32 (.t 18) (.t 64)),
  mt 17 65]
 (sr [mt 66 11,
  mt 67 12,
  kl 68 70 [(.t 66), (.t 67)]]
 (.seq (sr [mt 70 11,
  kl 71 54 [(.t 70)],
  mt 69 71,
  A1 72 (.ext (.t 69) 0),
  A1 73 (.ext (.t 69) 1),
  A1 19 (.alloc (.ar 32 (.int .u8))),
  A0 (.store 32 (.t 19) (.t 72)),
  mt 20 73]
 (sr [mt 74 17,
  A1 75 (.eq true true (.iface [74]) (.t 74) (.c .nili)),
  mt 76 75,
  A2 77 76 false (.mv (.t 20)),
  A2 78 76 false (.eq true true (.iface [74]) (.t 77) (.c .nili)),
  A1 79 (.pick (.t 76) (.c (.bool true)) (.t 78)),
  mt 80 79,
  A2 81 80 false (.load true 32 (.t 18)),
  A2 82 80 false (.load true 32 (.t 19)),
  A2 83 80 false (.eq true false (.ar 32 1 false .int) (.t 81) (.t 82)),
  A1 84 (.pick (.t 80) (.c (.bool true)) (.t 83))]
 (.cond (.t 84) (sr [A1 10 (.mv (.c (.bool false)))]
 (.ret)) (.skip))))
 (.seq (sr [A1 86 (.load true 32 (.t 18)),
  A1 87 (.load true 116 (.t 16)),
  kl 88 98 [(.t 86), (.t 87)],
  mt 85 88,
  A1 89 (.ext (.t 85) 0),
  A1 90 (.ext (.t 85) 1),
  A1 21 (.alloc (.ar 32 (.int .u8))),
  A0 (.store 32 (.t 21) (.t 89)),
  mt 22 90]
 (.seq (.regd [⟨0, 0, mt 91 22⟩,
  ⟨1, 1, A1 92 (.eq false true (.iface [74]) (.t 91) (.c .nili))⟩,
  ⟨2, 0, A1 93 (.load true 32 (.t 18))⟩,
  ⟨3, 0, A1 94 (.load true 32 (.t 14))⟩,
  ⟨4, 12, A1 95 (.eq false false (.ar 32 1 false .int) (.t 93) (.t 94))⟩,
  ⟨5, 31, A1 96 (.eq true false .bool (.t 92) (.t 95))⟩])
 (.cond (.t 96) (sr [A1 10 (.mv (.c (.bool false)))]
 (.ret)) (.skip))))
 (.reg [A1 97 (.load true 32 (.t 18)),
  A0 (.store 32 (.t 14) (.t 97))]))))))))
 (.reg [A1 98 (.ari .add (.t 50) (cI 1)),
  mt 50 98]))))
def chT : LC := (sr [A1 10 (.mv (.c (.bool true)))] .ret)
theorem Aos {M : Seat} (ok : OkCh M) (T : Nat → SM) (hT : ∀ i, i < 5 → S7 M (T i) (T (i + 1)) ∧ (T (i + 1)).m = Tr (T i).w.pres (T i).m ∧ JT (T i).w.pres) (n : Nat) (hn : n < 5) {x : Ctx} (hx : x.k = 0) {A : List V} {H : Hp} {N : Nat}
 (hw : Aj M x A H N (fr 99 [(11, .ptr 5 []), (12, .ptr 0 []), (14, .ptr 7 []), (49, .int .i64 n), (50, .int .i64 (0 : Nat))]) (ZJ (T 0) ++ [(7, dg (T 0).m.com)]) 8) :
 Gz M x (Aq M x [RVr.tmp 10] fun r H' k' => r = .bool true ∧ H' = [] ∧ k' = 0) chL [.blk 0, .code chT] A H N := by
 have hFv : ∀ m : Mc, m.v = mach m.f m.g m.pc m.hl m.xt := fun _ => rfl
 refine Ag (σ := Nat) (fun i => i ≤ n) (fun i => fr 99 [(11, .ptr 5 []), (12, .ptr 0 []), (14, .ptr 7 []), (49, .int .i64 n), (50, .int .i64 i)]) (fun i => ZJ (T i) ++ [(7, dg (T i).m.com)]) (fun _ => 8) (fun i => n - i) 0 Aa hw ?_
 intro i hi
 refine es 2000 ?_
 by_cases hin : i = n
 ·subst hin
  have d0 : ((i : Int) < (i : Int)) = False := eq_false Aa
  by_cases hz : (T i).n = 0
  all_goals
   first | rw [show ZJ (T i) = Nh (T i) from if_pos hz] | rw [show ZJ (T i) = Sh 6 (T i) from if_neg hz]
   (simp only [chL, chT, d0, Qg, hFv, LZ, seval, reduceCtorEq])
   exact Aq.mkZ hx [] ⟨rfl, rfl, rfl⟩
 have d0 : ((i : Int) < (n : Int)) = True := eq_true Aa
 have w0 : IntKind.i64.wrap ((i : Int) + 1) = ((i + 1 : Nat) : Int) := A9
 obtain ⟨hst, hm', hpk⟩ := hT i Aa
 have hO' := Sv ok.f.o.q.okA ok.f.o.d (T (i + 1)).m.f (T (i + 1)).m.g (T (i + 1)).m.pc (T (i + 1)).m.hl (T (i + 1)).m.xt
 have hO' : Af M 54 [.imm (mach (T (i + 1)).m.f (T (i + 1)).m.g (T (i + 1)).m.pc (T (i + 1)).m.hl (T (i + 1)).m.xt)] [] 0 (Q3 (Ao (dg (T (i + 1)).m.com) .nili) [] 0) := hO'
 have hv := Ajg (T i).w.pres hpk (T i).m
 have hPN := Mz ok.f.o (T i).m (T i).w.pres 0
 have hPS := UY ok.f.o (T i).m (T i).w.pres (T i).n
 have hV := fun C => OT ok.f.o C (Bm (T i).m.f 13 0) (T i).m.h (Ei (T i).w.pres (T i).m).2.1 (Ei (T i).w.pres (T i).m).2.2
 have hbad : ¬ (T i).m.com = (T (i + 1)).m.com → vfy (T (i + 1)).m.com (Bm (T i).m.f 13 0) (T i).m.h (Ei (T i).w.pres (T i).m).2.1 (Ei (T i).w.pres (T i).m).2.2 = (Dg.zero, some 31) := fun h => by
  unfold vfy
  exact if_pos h
 rw [← hm'] at hv
 generalize Ei (T i).w.pres (T i).m = R at *
 obtain ⟨e, L, P⟩ := R
 clear hT hm' hpk
 generalize hσ' : T (i + 1) = σ' at *
 generalize hσ : T i = σ at *
 clear hσ
 obtain ⟨w, sl, nn, qq, ⟨f, g, pc, hl, xt⟩⟩ := σ
 dsimp only at hv hPN hPS hV hbad
 generalize hC : (⟨f, g, pc, hl, xt⟩ : Mc).com = C at *
 simp only [Vf, Mc.h, Hd.v, AU] at hV
 by_cases hz : nn = 0
 all_goals
  first | rw [show ZJ ⟨w, sl, nn, qq, ⟨f, g, pc, hl, xt⟩⟩ = Nh ⟨w, sl, nn, qq, ⟨f, g, pc, hl, xt⟩⟩ from if_pos hz] | rw [show ZJ ⟨w, sl, nn, qq, ⟨f, g, pc, hl, xt⟩⟩ = Sh 6 ⟨w, sl, nn, qq, ⟨f, g, pc, hl, xt⟩⟩ from if_neg hz]
  cases e with
  | some e =>
    simp only [Lbm] at hPN hPS
    (simp only [chL, chT, d0, Qg, hFv, LZ, seval, reduceCtorEq])
    first
    | (have zz := aq6 @EA.eq_1 hFv @mach.eq_1 @Ao.eq_1 Mt @Av; refine IJ [5, 0, 1, 2, 4] [5, 0, 1] (hPN) ?_)
    | (have zz := aq6 @EA.eq_1 hFv @mach.eq_1 @Ao.eq_1 Mt @Av; refine IJ [5, 0, 1, 2, 4, 6] [5, 0, 1] (hPS) ?_)
    (simp only [EA, hFv, mach, LW, Av, seval, reduceCtorEq])
    exact Aq.mkZ hx [] ⟨rfl, rfl, rfl⟩
  | none =>
    simp only [Lbm] at hPN hPS
    have hv : vfy C (Bm f 13 0) ⟨g, pc, hl, xt⟩ L P = (σ'.m.com, none) := hv rfl
    have hV1 := hV C
    have hV2 := hV σ'.m.com
    rw [hv] at hV1
    clear hV
    generalize Bm f 13 0 = R0 at *
    (simp only [chL, chT, d0, Qg, hFv, LZ, seval, reduceCtorEq])
    first
    | (have zz := aq6 @EA.eq_1 hFv @mach.eq_1 @Ao.eq_1 Mt @Bz; refine IJ [5, 0, 1, 2, 4] [5, 0, 1] (hPN) ?_)
    | (have zz := aq6 @EA.eq_1 hFv @mach.eq_1 @Ao.eq_1 Mt @Bz; refine IJ [5, 0, 1, 2, 4, 6] [5, 0, 1] (hPS) ?_)
    (simp only [EA, hFv, mach, LW, Bz, seval, reduceCtorEq])
    have zz := aq3 @dg.eq_1 Mt @Bz; refine CI (hV1) ?_
    (simp only [LW, Bz, seval, reduceCtorEq])
    have hV3 : (C = σ'.m.com ∧ Af M 98 [dg σ'.m.com, .st 116 (.fcons 0 (dg R0) (.fcons 32 (.st 19 (.fcons 0 (.ar 1 16 fun j => W (g j)) (.fcons 16 (W pc) (.fcons 17 (.bool hl) (.fcons 18 (W xt) .fnil))))) (.fcons 51 (.lst 2 L.length (Dz L)) (.fcons 52 (At P) .fnil))))] [] 0 (Q3 (Ao (dg σ'.m.com) .nili) [] 0))
     ∨ (¬ σ'.m.com = C ∧ Af M 98 [dg σ'.m.com, .st 116 (.fcons 0 (dg R0) (.fcons 32 (.st 19 (.fcons 0 (.ar 1 16 fun j => W (g j)) (.fcons 16 (W pc) (.fcons 17 (.bool hl) (.fcons 18 (W xt) .fnil))))) (.fcons 51 (.lst 2 L.length (Dz L)) (.fcons 52 (At P) .fnil))))] [] 0 (Q3 (Ao (dg Dg.zero) (.ifc 74 (.int .i64 31))) [] 0)) := by
     by_cases hq : C = σ'.m.com
     ·exact .inl ⟨hq, hq ▸ hV1⟩
     ·have hb : vfy σ'.m.com R0 ⟨g, pc, hl, xt⟩ L P = (Dg.zero, some 31) := hbad hq
      rw [hb] at hV2
      exact .inr ⟨fun h => hq h.symm, hV2⟩
    clear hPN hPS hV1 hv hV2 hbad hC
    rcases hst.1 with ⟨h, hw⟩ | ⟨h0, h1', h6⟩ | ⟨h0, h1', h62⟩ | ⟨h0, h1', h6⟩ | ⟨h0, h1', h62⟩
    all_goals try (dsimp only at h0; exact absurd h0 Aa)
    all_goals first
     | (have w1 : σ'.w = w := by rw [hw]
        have w2 : σ'.l = sl := by rw [hw]
        have w3 : σ'.n = nn := by rw [hw]
        have w4 : σ'.q = qq := by rw [hw]
        have hm : Af M 70 [.ptr 0 [], .ptr 1 []] [(0, (⟨f, g, pc, hl, xt⟩ : Mc).v)] 2 _ := h
        rw [hFv] at hm
        clear hw
        (have zz := aq2 @mach.eq_1 hFv; refine JO [5, 0] [5] (hm) ?_))
     | (have w1 := hFv
        have w2 := hFv
        have w3 := hFv
        have w4 := hFv
        first | have hm := h6 | have hm := h62
        simp only [Nh, Sh, hFv] at hm
        first
        | (have hm : Af M 70 [.ptr 5 [], .ptr 0 []] _ 6 _ := hm
           (have zz := aq3 @Qg hFv GM; refine Fl [0, 1, 2, 3, 4, 5] (hm) ?_))
        | (have hm : Af M 70 [.ptr 5 [], .ptr 0 []] _ 7 _ := hm
           (have zz := aq3 @Qg hFv GM; refine Fl [0, 1, 2, 3, 4, 5, 6] (hm) ?_)))
    all_goals
     (simp only [Qg, hFv, AR, BA, seval, reduceCtorEq])
     have zz := aq2 @mach.eq_1 @dg.eq_1; refine CI (hO') ?_
     (simp only [Gw, seval, reduceCtorEq])
     rcases hV3 with ⟨rfl, hV4⟩ | ⟨hq, hV4⟩
     case' inr => have hq := eq_false hq
     all_goals
      have zz := aq2 @dg.eq_1 Mt; refine CI (hV4) ?_
      first | (simp only [Gw, w0, hq, seval, reduceCtorEq]) | (simp only [Gw, w0, seval, reduceCtorEq])
      refine ⟨i + 1, by omega, by omega, ?_⟩
      rw [hσ']
      first | rw [show ZJ σ' = Nh σ' from if_pos Aa] | rw [show ZJ σ' = Sh 6 σ' from if_neg Aa]
      first
      | (clear h62; refine Aj.fr [0, 1, 2, 3, 4, 5, 376, 7] [] hx Ax Ak ?_ ?_)
      | refine Aj.fr [0, 1, 2, 3, 4, 5, 6, 7] [] hx Ax Ak ?_ ?_
      ·simp only [LY, seval, reduceCtorEq]
      ·simp only [w1, w2, w3, w4, Qg, hFv, Ik, Vl, seval, reduceCtorEq]
theorem Aof {M : Seat} (ok : OkCh M) (hne : ¬ LE.com = D2.com) (l : List In) (v : V) (hv : Aer l v) (hl : l.length < 9223372036854775808) (rs : List (BitVec 64)) (rv : V) (hr : rv = Bn rs ∨ (rv = .nils ∧ rs = [])) (hrl : rs.length < 9223372036854775808) (np : Nat) (hnp : np < 9223372036854775808) (pf : Nat → Pr) (pv : V) (hpv : Ao9 np pf pv) (k q : Int) :
 Af M 20 [v, rv, pv, .int .i64 k, .int .i64 q] [] 0 (Q3 (.bool true) [] 0) := by
 have hvv : ∀ H m z, Bd H m z v v := by
  intro H m z
  rcases hv with rfl | ⟨rfl, -⟩ <;> simp only [MK, LY, seval, reduceCtorEq]
 have hrr : ∀ H m z, Bd H m z rv rv := by
  intro H m z
  rcases hr with rfl | ⟨rfl, -⟩ <;> simp only [Bn, ws, LY, seval, reduceCtorEq]
 have hpp : ∀ H m z, Bd H m z pv pv := by
  intro H m z
  rcases hpv with rfl | ⟨rfl, -⟩ <;> simp only [CF, seval, reduceCtorEq]
 have hA := Ao3 ok.at_ l v hv hl rs rv hr hrl np hnp pf pv hpv k
 have hp0 : JT (Aog (FK 16) pf (min np 50)).pres := Aoh _ (Kc 16) pf _
 have h60 := RL k
 have hp1 : JT (Aox ok.at_ l rs np pf k).w.pres := Aot ok.at_.t _ (by show 0 < _; omega) hp0 _ Aa
 have hn1 : (Aox ok.at_ l rs np pf k).n ≤ 60 := by
  have := Aor ok.at_.t (Ta (Aog (FK 16) pf (min np 50)) (ldM l).f rs (min rs.length 16)) (by show 0 < _; omega) (Ya k) Aa
  unfold Aox
  have h0 : (Ta (Aog (FK 16) pf (min np 50)) (ldM l).f rs (min rs.length 16)).n = 0 := rfl
  rw [h0] at this
  omega
 clear hp0
 generalize (Apd ok.at_ l rs np pf k).m = dmm at hA
 generalize Aox ok.at_ l rs np pf k = s at hA hp1 hn1
 have hT : ∀ i, i < 5 → S7 M (itx ok.at_.t s i) (itx ok.at_.t s (i + 1)) ∧ (itx ok.at_.t s (i + 1)).m = Tr (itx ok.at_.t s i).w.pres (itx ok.at_.t s i).m ∧ JT (itx ok.at_.t s i).w.pres := fun i hi =>
  have h := Aop ok.at_.t (itx ok.at_.t s i) (by have := Aor ok.at_.t s Aa i Aa; omega)
  ⟨h.1, h.2.1, Aot ok.at_.t s Aa hp1 i Aa⟩
 have hT0 : itx ok.at_.t s 0 = s := rfl
 generalize itx ok.at_.t s = T at hT hT0
 subst hT0
 have hF := HW ok.f hne
 have hFv : ∀ m : Mc, m.v = mach m.f m.g m.pc m.hl m.xt := fun _ => rfl
 have hO : Af M 54 [.imm (mach (T 0).m.f (T 0).m.g (T 0).m.pc (T 0).m.hl (T 0).m.xt)] [] 0 (Q3 (Ao (dg (T 0).m.com) .nili) [] 0) := Sv ok.f.o.q.okA ok.f.o.d (T 0).m.f (T 0).m.g (T 0).m.pc (T 0).m.hl (T 0).m.xt
 have h4 := Apc q
 have w0 : IntKind.i64.wrap (1 + (m4 q : Int)) = ((m4 q + 1 : Nat) : Int) := A9
 have hL := fun x hx => @Aos M ok T hT (m4 q + 1) Aa x hx
 generalize T 0 = s at *
 clear hp1 hn1 hT hv hr hpv
 rw [atH] at hA
 refine Ac ok.k20 rfl fun x hx => ?_
 have hL := @hL x hx
 by_cases hz : s.n = 0
 all_goals
  first | rw [show ZJ s = Nh s from if_pos hz] at hA hL | rw [show ZJ s = Sh 6 s from if_neg hz] at hA hL
  refine es 2000 ?_; (simp only [f20, c20, LZ, seval, reduceCtorEq])
  have zz := aq7 SB hFv @BD.eq_1 GM hvv hrr hpp; refine El (hA) ?_
  (simp only [Qg, hFv, dm, Fj, BD, AR, LM, seval, reduceCtorEq])
  refine Ah (hF) ?_
  (simp only [Qg, hFv, dm, Fj, BD, LM, seval, reduceCtorEq])
  have zz := aq2 @mach.eq_1 @dg.eq_1; refine CI (hO) ?_
  (simp only [Cb, Ape, w0, seval, reduceCtorEq])
  refine hL ?_
  refine Aj.fr [80, 81, 82, 83, 84, 85, 86, 384] [] hx Ax Ak ?_ ?_
  ·simp only [LY, seval, reduceCtorEq]
  ·simp only [Qg, hFv, Ik, Vl, seval, reduceCtorEq]
theorem Gj : ∀ h q, Bm (fun _ => 0#64) h q = Am h
 | 0, q => by simp only [Bm, show B5 0#64 = Dg.zero from Sa, ite_self]; rfl
 | h + 1, q => by rw [Bm, Gj h, Gj h]; rfl
theorem Y2 (w : Nat → BitVec 64) (hw : ∀ j, j < 4 → w j = 0#64) : Kb (AP w) = 0 := by
 have h : Kb (AP w) = Cq 8 (fun _ => 0) 32 := Ce 8 32 (fun k hk => by
  rw [AP, Dg.at_mk' _ _ hk, A6, hw _ Aa]
  have : ∀ k, k < 32 → (V7 (0#64) (k % 8)).toNat = 0 := Ak
  exact this k hk)
 rw [h]; decide
theorem Ajx : Kb (AP (w4 0#64 1#64 0#64 0#64)) = 1 <<< 120 := by
 have h : Kb (AP (w4 0#64 1#64 0#64 0#64)) = Cq 8 (fun k => if k = 15 then 1 else 0) 32 := Ce 8 32 (fun k hk => by
  rw [AP, Dg.at_mk' _ _ hk]
  have : ∀ k, k < 32 → (A6 (w4 0#64 1#64 0#64 0#64) k).toNat = if k = 15 then 1 else 0 := Ak
  exact this k hk)
 rw [h]; decide
def Amv : Nat := II (II 0 0) (II 0 0)
def ZX (x : Nat) : Nat := II (Hz 13) (II Amv x)
theorem Ai4 : Kb D2.com = ZX 0 := by
 show Kb (B2 (Bm (fun _ => 0#64) 13 0) (B2 (B2 (B2 (AP fun _ => 0#64) (AP fun _ => 0#64)) (B2 (AP fun _ => 0#64) (AP fun _ => 0#64))) (AP (w4 0#64 0#64 0#64 0#64)))) = _
 rw [EO, Gj, KV, EO, EO, EO, Y2 _ (fun _ _ => rfl), Y2 _ Ak]; rfl
theorem Ag6 : Kb LE.com = ZX (1 <<< 120) := by
 show Kb (B2 (Bm (fun _ => 0#64) 13 0) (B2 (B2 (B2 (AP fun _ => 0#64) (AP fun _ => 0#64)) (B2 (AP fun _ => 0#64) (AP fun _ => 0#64))) (AP (w4 0#64 1#64 0#64 0#64)))) = _
 rw [EO, Gj, KV, EO, EO, EO, Y2 _ (fun _ _ => rfl), Ajx]; rfl
theorem RG : Nat.beq (ZX (1 <<< 120)) (ZX 0) = false := by kernel_rfl
theorem Agc : ¬ LE.com = D2.com := by
 intro h
 have h2 := RG
 rw [← Ag6, ← Ai4, h, Nat.beq_refl] at h2
 cases h2
def HB (M : Seat) (W : World) : Env where
 ρ := fun _ => 0
 D := fun _ => False
 im := fun b => ∃ cells el fz, W.heap[b]? = some (.cells cells el fz)
 w := W
 φ := M.φ
 τ := M.τ
theorem Inv.start (M : Seat) (W : World) (hg : GS M (HB M W)) : Inv M ⟨HB M W, fun b => ∃ id, Ae [] id = true ∧ (HB M W).ρ id = b, 0⟩ (HB M W) [] where
 ev := ⟨rfl, rfl, rfl, Nat.le_refl _, fun _ _ _ => rfl, fun _ => Nat.le_refl _⟩
 blk := fun id h => by simp [Ae] at h
 inj := fun i j h => by simp [Ae] at h
 imo := fun b h => .inl h
 imb := fun b h => h
 rb := fun id h => h.elim
 keep := fun b h => h
 low := fun id h => by simp at h
 gs := hg
 φ := rfl
 τ := rfl
theorem TP {M : Seat} {f : Nat} {us : List V} {vs : Array Value} {Q : V → Hp → Nat → Prop} (hr : Af M f us [] 0 Q) (W : World) (hg : GS M (HB M W)) (ha : Qb (HB M W) us vs) :
 Calls M.P (M.φ f) vs W fun en W' => ∃ x v H' k' e', en = .returned x ∧ RV e' v x ∧ Q v H' k' ∧ RowKit.Below W.heap.size W W' := by
 refine (hr (HB M W) vs (Inv.start M W hg) (fun id _ h => h) ha).mono ?_
 rintro en W' ⟨x, v, e', H', k', rfl, rfl, hI, hv, _, _, hQ⟩
 refine ⟨x, v, H', k', e', rfl, hv, hQ, hI.ev.os, hI.ev.tape, hI.ev.output, hI.ev.size, fun k hk => hI.ev.frame k hk ?_⟩
 rintro ⟨id, h, _⟩
 simp [Ae] at h
theorem Yx {M : Seat} {W : World} {name : String} {k : IntKind} {zs : List Int} {g : Nat} (h : Lib.TabIs M.P W name k zs) (hg : M.P.globalNamed name = some g) (hpos : 0 < zs.length) :
 R (HB M W) (.imm (.ar 1 zs.length (fun i => .int k (zs.getD i 0)))) [.pointer (some ⟨g, 0, none⟩)] := by
 have hc : ∀ i, i < zs.length → W.cell? ⟨g, i, none⟩ = some (.int k (zs.getD i 0)) := fun i hi => h.cell hg i hi
 have h0 := hc 0 hpos
 simp only [R]
 cases hb : W.heap[g]? with
 | none => simp [World.cell?, hb] at h0
 | some o =>
   cases o with
   | cells c el fz =>
     have hci : ∀ i, i < zs.length → c[i]? = some (.int k (zs.getD i 0)) := fun i hi => by simpa [World.cell?, hb] using hc i hi
     have hsz : zs.length ≤ c.size := by
      have := hci (zs.length - 1) Aa
      have := (Array.getElem?_eq_some_iff.1 this).1
      omega
     refine ⟨g, 0, c, el, fz, rfl, ⟨c, el, fz, hb⟩, hb, by simp only [V.size]; omega, by simp [V.size]; omega, fun i hi => ⟨⟨rfl, rfl⟩, ?_⟩⟩
     simp only [V.size, Nat.mul_one, List.drop_zero]
     have h1 := hci i hi
     have h2 : c.toList[i]? = some (.int k (zs.getD i 0)) := by simpa using h1
     apply List.ext_getElem?
     intro j
     cases j with
     | zero => simp [List.getElem?_take, List.getElem?_drop, hi, h1]
     | succ j => simp [List.getElem?_take]
   | _ => simp [World.cell?, hb] at h0
end Mv
namespace Go.Proofs.YtncipgmjhaiagaaGreatDoor
open Go Mv
noncomputable def st : Seat where
 P := Tryz.prog
 φ := fun i => match i with | 20 => 3 | 49 => 27 | 50 => 136 | 51 => 25 | 52 => 145 | 53 => 144 | 54 => 9 | 55 => 13 | 59 => 53 | 62 => 26 | 68 => 24 | 70 => 12 | 73 => 19 | 74 => 20 | 75 => 21 | 77 => 42 | 78 => 37 | 79 => 30 | 90 => 44 | 95 => 7 | 96 => 8 | 97 => 10 | 98 => 11 | 167 => 135 | 196 => 22 | 197 => 48 | 198 => 138 | 199 => 51 | 200 => 50 | 201 => 146 | 202 => 83 | 205 => 70 | 206 => 67 | 207 => 52 | 208 => 86 | 212 => 40 | 213 => 49 | 214 => 29 | 215 => 31 | 216 => 32 | 217 => 33 | 218 => 39 | 219 => 41 | 220 => 57 | 226 => 76 | 227 => 77 | 228 => 78 | 229 => 79 | 230 => 80 | 240 => 23 | 241 => 28 | 259 => 114 | 276 => 137 | 277 => 111 | 308 => 66 | 311 => 74 | 312 => 91 | 315 => 81 | 316 => 82 | 317 => 84 | 318 => 85 | 319 => 72 | 320 => 73 | 321 => 58 | 322 => 59 | 323 => 60 | 324 => 61 | 325 => 62 | 326 => 63 | 327 => 64 | 328 => 65 | 329 => 71 | 330 => 75 | 335 => 103 | 336 => 104 | 342 => 43 | 343 => 45 | 344 => 46 | 345 => 47 | 346 => 54 | 347 => 55 | 348 => 56 | 413 => 100 | 414 => 101 | 415 => 102 | 417 => 105 | 418 => 97 | 419 => 98 | 420 => 99 | 421 => 88 | 423 => 90 | 448 => 87 | 461 => 112 | 462 => 113 | 463 => 106 | 595 => 132 | 596 => 133 | 597 => 134 | 598 => 140 | 599 => 141 | 600 => 142 | 601 => 143 | _ => 0
 τ := fun i => match i with | 74 => 63 | 362 => 114 | 422 => 86 | 426 => 91 | n => n
 γ := fun i => match i with | 1 => 2 | 2 => 3 | 3 => 4 | n => n
 gl := [1, 2, 3]
theorem fn220 : Rz st 220 := ⟨by decide, Tryz.f57, Tryz.func57, by kernel_rfl, by kernel_rfl⟩
theorem mth426_0 : Cs st 426 0 599 := ⟨⟨by decide, Tryz.f141, Tryz.func141, by kernel_rfl, by kernel_rfl⟩, fun v w => by kernel_rfl⟩
theorem mth426_1 : Cs st 426 1 600 := ⟨⟨by decide, Tryz.f142, Tryz.func142, by kernel_rfl, by kernel_rfl⟩, fun v w => by kernel_rfl⟩
theorem mth426_2 : Cs st 426 2 598 := ⟨⟨by decide, Tryz.f140, Tryz.func140, by kernel_rfl, by kernel_rfl⟩, fun v w => by kernel_rfl⟩
theorem mth422_0 : Cs st 422 0 596 := ⟨⟨by decide, Tryz.f133, Tryz.func133, by kernel_rfl, by kernel_rfl⟩, fun v w => by kernel_rfl⟩
theorem mth422_1 : Cs st 422 1 597 := ⟨⟨by decide, Tryz.f134, Tryz.func134, by kernel_rfl, by kernel_rfl⟩, fun v w => by kernel_rfl⟩
theorem mth422_2 : Cs st 422 2 595 := ⟨⟨by decide, Tryz.f132, Tryz.func132, by kernel_rfl, by kernel_rfl⟩, fun v w => by kernel_rfl⟩
theorem okM : OkM st := by constructor <;> kernel_rfl
theorem okH : OkH st := by constructor <;> kernel_rfl
theorem okS : OkS st := ⟨okH, by kernel_rfl, by kernel_rfl, by kernel_rfl, by kernel_rfl, by kernel_rfl⟩
theorem okV : OkV st := ⟨okS, by kernel_rfl, by kernel_rfl, by kernel_rfl, by kernel_rfl, by kernel_rfl, fn220⟩
theorem okI : OkI st := ⟨okV⟩
theorem okW : OkW st := ⟨okI, by kernel_rfl⟩
theorem okO : OkO st := ⟨okW, by kernel_rfl, by kernel_rfl, by kernel_rfl, by kernel_rfl⟩
theorem okP : OkP st := by constructor <;> kernel_rfl
theorem okT : OkT st := ⟨okM, okO, okP⟩
theorem okRP : OkRP st := ⟨by kernel_rfl⟩
theorem okX : OkX st := by constructor <;> kernel_rfl
theorem okRM : OkRM st := ⟨by kernel_rfl, by kernel_rfl, by kernel_rfl, by kernel_rfl, okRP, okX⟩
theorem okR : OkR st := by constructor <;> kernel_rfl
theorem okRG : OkRG st := ⟨okR, by kernel_rfl⟩
theorem okB : OkB st := by constructor <;> kernel_rfl
theorem okRH : OkRH st := ⟨okRM, okRG, okB⟩
theorem okI7 : OkI7 st := ⟨by kernel_rfl⟩
theorem okI75 : OkI75 st := ⟨okI7, by kernel_rfl⟩
theorem okAt : OkAt st := ⟨okT, okRH, okI75, by kernel_rfl, by kernel_rfl⟩
theorem okNx : OkNx st := by constructor <;> kernel_rfl
theorem okQ : OkQ st := ⟨okM, okO, okP, okNx⟩
theorem okD : OkD st := by constructor <;> kernel_rfl
theorem okCk : OkCk st := ⟨by kernel_rfl, by kernel_rfl, by kernel_rfl, by kernel_rfl, mth426_0, mth426_1, mth426_2⟩
theorem okPr : OkPr st := ⟨by kernel_rfl, by kernel_rfl, by kernel_rfl, by kernel_rfl, by kernel_rfl, mth422_0, mth422_1, mth422_2⟩
theorem okOs : OkOs st := ⟨okQ, okD, okCk, okPr, by kernel_rfl, by kernel_rfl⟩
theorem okF15 : OkF15 st := ⟨okOs, by kernel_rfl⟩
theorem okCh : OkCh st := ⟨okAt, okF15, by kernel_rfl⟩
end Go.Proofs.YtncipgmjhaiagaaGreatDoor
namespace Mv
open Go Go.ChangeShapes Go.WideShapes
theorem NM {n : Int} (h : (Lit.int .u64 n).wf = true) : ∃ w : BitVec 64, n = (w.toNat : Int) := by
 have hb : 0 ≤ n ∧ n ≤ 18446744073709551615 := by simpa [Lit.wf, IntKind.min, IntKind.max, IntKind.signed, IntKind.bits] using h
 refine ⟨BitVec.ofNat 64 n.toNat, ?_⟩
 rw [BitVec.toNat_ofNat, Nat.mod_eq_of_lt Aa]
 omega
end Mv
namespace Mv
open Go Go.ChangeShapes Go.WideShapes
theorem Aan {H : Type} {enc : TypeId × Value → H} {M : Seat} {W : World} {t : TypeId} {k : IntKind} {v : Value} {d : DataW H} {ps : List MemPlace} (ht : M.P.underlying t = some (.int k))
 {base : Nat} (hok : Value.okWide M.P W .any base t v) (h : DataW.Trod enc M.P W 0 (fun _ => true) true t v d ps) : ∃ n : Int, (Lit.int k n).wf = true ∧ RV (HB M W) (.int k n) v := by
 obtain ⟨n, rfl⟩ := okWide_int ht hok
 obtain ⟨m, hm⟩ := h
 obtain ⟨z, e0, _, wz⟩ := DataW.trod_int ht hm
 simp only [Value.cells, Gp, Value.int.injEq, true_and] at e0
 subst e0
 exact ⟨n, wz, by simp [RV, RS, V.isAgg, R]⟩
theorem UG {H : Type} {enc : TypeId × Value → H} {M : Seat} {W : World} {t e : TypeId} {v : Value} {d : DataW H} {ps : List MemPlace} (ht : M.P.underlying t = some (.slice e)) (he : M.P.underlying e = some (.int .u64)) (ce : M.P.cellsOf e = 1)
 {base : Nat} (hok : Value.okWide M.P W .any base t v) (h : DataW.Trod enc M.P W 0 (fun _ => true) true t v d ps) : ∃ cs cv, (cv = Bn cs ∨ (cv = .nils ∧ cs = [])) ∧ cs.length < 9223372036854775808 ∧ RV (HB M W) cv v := by
 obtain ⟨a, len, cap, rfl⟩ := okWide_slice ht hok
 obtain ⟨n, hn⟩ := h
 rcases Deep.open_slice1 ht ce hn with ⟨h1, _⟩ | ⟨a, len, cap, m, n', V0, D0, P0, hcs, _, hlc, hcm, hm, _, hx⟩
 ·simp [Value.cells] at h1
  obtain ⟨rfl, rfl, rfl⟩ := h1
  exact ⟨[], .nils, .inr ⟨rfl, rfl⟩, by simp, by simp [RV, RS, V.isAgg, R]⟩
 ·simp [Value.cells] at hcs
  obtain ⟨rfl, rfl, rfl⟩ := hcs
  simp only [if_true] at hm
  subst hm
  have hz : ∀ i, i < m → ∃ c : BitVec 64, V0 i = .int .u64 (c.toNat : Int) := by
   intro i hi
   obtain ⟨_, g0⟩ := hx i hi
   obtain ⟨z0, e0, _, w0⟩ := DataW.trod_int he g0
   simp only [Gp] at e0
   obtain ⟨b0, rfl⟩ := NM w0
   exact ⟨b0, e0⟩
  obtain ⟨g, hg⟩ := Deep.choose_lt hz
  have hgl : ∀ j, j < len → ((List.range len).map g).getD j 0 = g j := fun j hj => by simp [List.getD, List.getElem?_map, List.getElem?_range hj]
  refine ⟨(List.range len).map g, _, .inl rfl, ?_, ?_⟩
  ·simp only [List.length_map, List.length_range]
   have : maxLen < 9223372036854775808 := Ak
   omega
  ·simp only [Bn, List.length_map, List.length_range]
   rw [AL rfl]
   simp only [RS, V.isAgg, R]
   refine ⟨_, _, rfl, hlc, fun hpos => ?_⟩
   have h0 := (hx 0 Aa).1
   obtain ⟨b, o, sp⟩ := a
   have ha0 : (⟨b, o, sp⟩ : Addr).add 0 = ⟨b, o, sp⟩ := by simp [Addr.add]
   rw [ha0] at h0
   cases hb : W.heap[b]? with
   | none => simp [World.cell?, hb] at h0
   | some ob =>
     cases ob with
     | cells c el fz =>
       cases sp with
       | some s => simp [World.cell?, hb] at h0
       | none =>
         have hadd : ∀ k, (⟨b, o, none⟩ : Addr).add k = ⟨b, o + k, none⟩ := by
          intro k
          unfold Addr.add
          split
          ·rename_i h; subst h; rfl
          ·rfl
         simp only [hadd] at hx
         have hc0 : ∀ i, i < m → c[o + i]? = some (V0 i) := fun i hi => by simpa [World.cell?, hb] using (hx i hi).1
         have hsz : o + len * 1 ≤ c.size := by
          have := (Array.getElem?_eq_some_iff.1 (hc0 (len - 1) Aa)).1
          omega
         refine ⟨b, o, c, el, fz, rfl, ⟨c, el, fz, hb⟩, hb, hsz, fun i hi => ⟨⟨rfl, rfl⟩, ?_⟩⟩
         rw [Jf, hgl i hi]
         have e2 : (c.toList.drop (o + i * 1)).take 1 = [V0 i] := by
          have a0 : c.toList[o + i]? = some (V0 i) := by simpa using hc0 i Aa
          apply List.ext_getElem?
          intro j
          match j with
          | 0 => simp [List.getElem?_take, List.getElem?_drop, hc0 i Aa]
          | j + 1 => simp [List.getElem?_take]
         rw [e2, hg i Aa]
         simp [Mv.W, R]
     | _ => simp [World.cell?, hb] at h0
end Mv
