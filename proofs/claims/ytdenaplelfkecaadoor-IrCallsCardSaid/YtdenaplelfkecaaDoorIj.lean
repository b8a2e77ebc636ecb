/- An error's number and place. -/
import Derived.Test.YtdenaplelfkecaaDoorT
import Derived.Test.YtdenaplelfkecaaDoorW1
import Derived.Test.YtdenaplelfkecaaDoorIf
import Derived.Test.YtdenaplelfkecaaDoorYo
import Derived.Test.YtdenaplelfkecaaDoorW3
set_option linter.unusedSimpArgs false
set_option linter.unusedVariables false
namespace Mv
open Go
/-- moot/mootlaw12.constant -/
def c84 : LC := (.seq (.reg [A1 2 (.alloc (.st (.cons (.int .i64) (.cons (.int .u64) (.cons .slice .nil)))))])
 ((.seq (.reg [A1 3 (.mv (.t 0)),
  A1 4 (.build (.st (.cons (.int .i64) (.cons (.int .u64) (.cons .slice .nil)))) [(.f 0, 1, (.c (.int .i64 26))), (.f 1, 1, (.t 3))]),
  A0 (.store 3 (.t 2) (.t 4))])
 (.ret))))
def f84 : LF := ⟨c84, 1, 0, 5, [.cell 2 true 3]⟩

/-- moot/mootlaw12.local -/
def c85 : LC := (.seq (.reg [A1 2 (.alloc (.st (.cons (.int .i64) (.cons (.int .u64) (.cons .slice .nil)))))])
 ((.seq (.reg [A1 3 (.mv (.t 0)),
  A1 4 (.build (.st (.cons (.int .i64) (.cons (.int .u64) (.cons .slice .nil)))) [(.f 0, 1, (.c (.int .i64 27))), (.f 1, 1, (.t 3))]),
  A0 (.store 3 (.t 2) (.t 4))])
 (.ret))))
def f85 : LF := ⟨c85, 1, 0, 5, [.cell 2 true 3]⟩

/-- moot/mootlaw12.op -/
def c86 : LC := (.seq (.reg [A1 4 (.alloc (.st (.cons (.int .i64) (.cons (.int .u64) (.cons .slice .nil)))))])
 ((.seq (.reg [A1 5 (.mv (.t 0)),
  A1 6 (.mv (.t 1)),
  A1 7 (.build (.st (.cons (.int .i64) (.cons (.int .u64) (.cons .slice .nil)))) [(.f 0, 1, (.t 5)), (.f 2, 1, (.t 6))]),
  A0 (.store 3 (.t 4) (.t 7))])
 (.ret))))
def f86 : LF := ⟨c86, 2, 0, 8, [.cell 4 true 3]⟩

/-- moot/mootlaw12.eval -/
def c87 : LC := (.seq (.reg [A1 4 (.alloc (.st (.cons (.int .u64) (.cons .slice (.cons (.int .i64) .nil))))),
  A1 5 (.mv (.c .nili))])
 ((.seq (.reg [⟨(some 9), .call 73 [(.c .nils)], none⟩,
  A1 8 (.mv (.t 9)),
  A1 10 (.ext (.t 8) 0),
  A1 11 (.ext (.t 8) 1),
  A1 6 (.mv (.t 10)),
  A1 7 (.mv (.t 11))])
 ((.seq (.reg [A1 12 (.mv (.t 0)),
  A1 13 (.mv (.t 1)),
  A1 14 (.mv (.t 6)),
  ⟨(some 15), .call 94 [(.t 12), (.t 13), (.t 14), (.c (.int .i64 100000))], none⟩,
  A1 16 (.ext (.t 15) 0),
  A1 17 (.ext (.t 15) 1),
  A0 (.store 3 (.t 4) (.t 16)),
  A1 5 (.mv (.t 17))])
 (.ret))))))
def f87 : LF := ⟨c87, 2, 0, 18, [.cell 4 true 3, .tmp 5]⟩

/-- moot/mootlaw12.fixed -/
def c88 : LC := (.seq (.reg [A1 0 (.mv (.c (.bool false)))])
 ((.seq (.reg [⟨(some 8), .call 84 [(.c (.int .u64 5))], none⟩,
  A1 9 (.build (.st (.cons (.int .i64) (.cons (.int .i64) (.cons (.st (.cons (.int .i64) (.cons (.int .u64) (.cons .slice .nil)))) (.cons (.st (.cons (.int .i64) (.cons (.int .u64) (.cons .slice .nil)))) (.cons .slice (.cons .slice .nil))))))) [(.f 0, 1, (.c (.int .i64 1))), (.f 1, 1, (.c (.int .i64 1))), (.f 2, 3, (.t 8))]),
  ⟨(some 10), .call 85 [(.c (.int .u64 1))], none⟩,
  ⟨(some 11), .call 85 [(.c (.int .u64 0))], none⟩,
  ⟨(some 12), .call 85 [(.c (.int .u64 1))], none⟩,
  A1 13 (.bsl 3 2 (.st (.cons (.int .i64) (.cons (.int .u64) (.cons .slice .nil)))) [(.i 3 0, 3, (.t 11)), (.i 3 1, 3, (.t 12))]),
  A1 14 (.build (.st (.cons (.int .i64) (.cons (.int .u64) (.cons .slice .nil)))) [(.f 0, 1, (.c (.int .i64 1))), (.f 2, 1, (.t 13))]),
  A1 15 (.build (.st (.cons (.int .i64) (.cons (.int .i64) (.cons (.st (.cons (.int .i64) (.cons (.int .u64) (.cons .slice .nil)))) (.cons (.st (.cons (.int .i64) (.cons (.int .u64) (.cons .slice .nil)))) (.cons .slice (.cons .slice .nil))))))) [(.f 0, 1, (.c (.int .i64 1))), (.f 1, 1, (.c (.int .i64 0))), (.f 2, 3, (.t 14))]),
  ⟨(some 16), .call 85 [(.c (.int .u64 1))], none⟩,
  ⟨(some 17), .call 84 [(.c (.int .u64 1))], none⟩,
  A1 18 (.bsl 3 2 (.st (.cons (.int .i64) (.cons (.int .u64) (.cons .slice .nil)))) [(.i 3 0, 3, (.t 16)), (.i 3 1, 3, (.t 17))]),
  A1 19 (.build (.st (.cons (.int .i64) (.cons (.int .u64) (.cons .slice .nil)))) [(.f 0, 1, (.c (.int .i64 2))), (.f 2, 1, (.t 18))]),
  A1 20 (.build (.st (.cons (.int .i64) (.cons (.int .i64) (.cons (.st (.cons (.int .i64) (.cons (.int .u64) (.cons .slice .nil)))) (.cons (.st (.cons (.int .i64) (.cons (.int .u64) (.cons .slice .nil)))) (.cons .slice (.cons .slice .nil))))))) [(.f 0, 1, (.c (.int .i64 1))), (.f 1, 1, (.c (.int .i64 1))), (.f 2, 3, (.t 19))]),
  A1 21 (.bsl 10 2 (.st (.cons (.int .i64) (.cons (.int .i64) (.cons (.st (.cons (.int .i64) (.cons (.int .u64) (.cons .slice .nil)))) (.cons (.st (.cons (.int .i64) (.cons (.int .u64) (.cons .slice .nil)))) (.cons .slice (.cons .slice .nil))))))) [(.i 10 0, 10, (.t 15)), (.i 10 1, 10, (.t 20))]),
  A1 22 (.build (.st (.cons (.int .i64) (.cons (.int .i64) (.cons (.st (.cons (.int .i64) (.cons (.int .u64) (.cons .slice .nil)))) (.cons (.st (.cons (.int .i64) (.cons (.int .u64) (.cons .slice .nil)))) (.cons .slice (.cons .slice .nil))))))) [(.f 0, 1, (.c (.int .i64 4))), (.f 2, 3, (.t 10)), (.f 8, 1, (.t 21))]),
  ⟨(some 23), .call 85 [(.c (.int .u64 0))], none⟩,
  A1 24 (.build (.st (.cons (.int .i64) (.cons (.int .i64) (.cons (.st (.cons (.int .i64) (.cons (.int .u64) (.cons .slice .nil)))) (.cons (.st (.cons (.int .i64) (.cons (.int .u64) (.cons .slice .nil)))) (.cons .slice (.cons .slice .nil))))))) [(.f 0, 1, (.c (.int .i64 5))), (.f 2, 3, (.t 23))]),
  A1 25 (.bsl 10 3 (.st (.cons (.int .i64) (.cons (.int .i64) (.cons (.st (.cons (.int .i64) (.cons (.int .u64) (.cons .slice .nil)))) (.cons (.st (.cons (.int .i64) (.cons (.int .u64) (.cons .slice .nil)))) (.cons .slice (.cons .slice .nil))))))) [(.i 10 0, 10, (.t 9)), (.i 10 1, 10, (.t 22)), (.i 10 2, 10, (.t 24))]),
  A1 26 (.build (.st (.cons (.int .i64) (.cons (.int .i64) (.cons .slice .nil)))) [(.f 1, 1, (.c (.int .i64 2))), (.f 2, 1, (.t 25))]),
  A1 27 (.bsl 3 1 (.st (.cons (.int .i64) (.cons (.int .i64) (.cons .slice .nil)))) [(.i 3 0, 3, (.t 26))]),
  A1 1 (.mv (.t 27))])
 ((.seq (.reg [⟨(some 29), .call 73 [(.c .nils)], none⟩,
  A1 28 (.mv (.t 29)),
  A1 30 (.ext (.t 28) 0),
  A1 31 (.ext (.t 28) 1),
  A1 2 (.mv (.t 30)),
  A1 3 (.mv (.t 31))])
 ((.seq (.reg [A1 33 (.mv (.t 1)),
  A1 34 (.mv (.t 2)),
  ⟨(some 35), .call 94 [(.t 33), (.c .nils), (.t 34), (.c (.int .i64 999))], none⟩,
  A1 32 (.mv (.t 35)),
  A1 36 (.ext (.t 32) 0),
  A1 37 (.ext (.t 32) 1),
  A1 4 (.alloc (.st (.cons (.int .u64) (.cons .slice (.cons (.int .i64) .nil))))),
  A0 (.store 3 (.t 4) (.t 36)),
  A1 5 (.mv (.t 37))])
 ((.seq (.reg [⟨(some 39), .call 84 [(.c (.int .u64 2048))], none⟩,
  A1 40 (.bsl 3 1 (.st (.cons (.int .i64) (.cons (.int .u64) (.cons .slice .nil)))) [(.i 3 0, 3, (.t 39))]),
  A1 41 (.build (.st (.cons (.int .i64) (.cons (.int .u64) (.cons .slice .nil)))) [(.f 0, 1, (.c (.int .i64 28))), (.f 2, 1, (.t 40))]),
  A1 42 (.build (.st (.cons (.int .i64) (.cons (.int .i64) (.cons (.st (.cons (.int .i64) (.cons (.int .u64) (.cons .slice .nil)))) (.cons (.st (.cons (.int .i64) (.cons (.int .u64) (.cons .slice .nil)))) (.cons .slice (.cons .slice .nil))))))) [(.f 0, 1, (.c (.int .i64 5))), (.f 2, 3, (.t 41))]),
  A1 43 (.bsl 10 1 (.st (.cons (.int .i64) (.cons (.int .i64) (.cons (.st (.cons (.int .i64) (.cons (.int .u64) (.cons .slice .nil)))) (.cons (.st (.cons (.int .i64) (.cons (.int .u64) (.cons .slice .nil)))) (.cons .slice (.cons .slice .nil))))))) [(.i 10 0, 10, (.t 42))]),
  A1 44 (.build (.st (.cons (.int .i64) (.cons (.int .i64) (.cons .slice .nil)))) [(.f 2, 1, (.t 43))]),
  A1 45 (.bsl 3 1 (.st (.cons (.int .i64) (.cons (.int .i64) (.cons .slice .nil)))) [(.i 3 0, 3, (.t 44))]),
  A1 46 (.mv (.t 2)),
  ⟨(some 47), .call 94 [(.t 45), (.c .nils), (.t 46), (.c (.int .i64 9))], none⟩,
  A1 38 (.mv (.t 47)),
  A1 48 (.ext (.t 38) 0),
  A1 49 (.ext (.t 38) 1),
  A1 6 (.alloc (.st (.cons (.int .u64) (.cons .slice (.cons (.int .i64) .nil))))),
  A0 (.store 3 (.t 6) (.t 48)),
  A1 7 (.mv (.t 49))])
 ((.seq (.reg [A1 50 (.mv (.t 1)),
  ⟨(some 51), .call 179 [(.t 50)], none⟩,
  A1 52 (.eq false true (.iface [74]) (.t 51) (.c .nili)),
  A1 53 (.mv (.t 52)),
  A2 54 53 true (.mv (.t 5)),
  A2 55 53 true (.eq false true (.iface [74]) (.t 54) (.c .nili)),
  A1 56 (.pick (.t 53) (.t 55) (.c (.bool false))),
  A1 57 (.mv (.t 56)),
  A2 58 57 true (.fadr 0 (.t 4)),
  A2 59 57 true (.load false 1 (.t 58)),
  A2 60 57 true (.ari .eql (.t 59) (.c (.int .u64 15))),
  A1 61 (.pick (.t 57) (.t 60) (.c (.bool false))),
  A1 62 (.mv (.t 61)),
  A2 63 62 true (.mv (.t 7)),
  A2 64 62 true (.eq false true (.iface [74]) (.t 63) (.c .nili)),
  A1 65 (.pick (.t 62) (.t 64) (.c (.bool false))),
  A1 66 (.mv (.t 65)),
  A2 67 66 true (.fadr 0 (.t 6)),
  A2 68 66 true (.load false 1 (.t 67)),
  A2 69 66 true (.ari .eql (.t 68) (.c (.int .u64 18446744073709551614))),
  A1 70 (.pick (.t 66) (.t 69) (.c (.bool false))),
  A1 71 (.mv (.t 70)),
  A2 72 71 true (.fadr 2 (.t 6)),
  A2 73 71 true (.load false 1 (.t 72)),
  A2 74 71 true (.ari .eql (.t 73) (.c (.int .i64 3))),
  A1 75 (.pick (.t 71) (.t 74) (.c (.bool false))),
  A1 76 (.mv (.t 75)),
  A1 77 (.pick (.t 76) (.c (.bool true)) (.c (.bool false))),
  A1 78 (.mv (.t 77)),
  ⟨(some 79), .call 179 [(.c .nils)], (some (78, true))⟩,
  A2 80 78 true (.mkif 74 (.c (.int .i64 3))),
  ⟨(some 81), .call 63 [(.t 79), (.t 80)], (some (78, true))⟩,
  A1 82 (.pick (.t 78) (.t 81) (.c (.bool false))),
  A1 0 (.mv (.t 82))])
 (.ret))))))))))))
def f88 : LF := ⟨c88, 0, 0, 83, [.tmp 0]⟩

end Mv
namespace Mv
open Go
end Mv
namespace Mv
open Go
set_option maxRecDepth 20000
set_option maxHeartbeats 4000000
set_option linter.unusedSimpArgs false

/-- An error of the program's: a number. -/
abbrev erN (a : Int) : V := .ifc 74 (.int .i64 a)
end Mv
namespace Mv
open Go
set_option maxRecDepth 20000
set_option maxHeartbeats 4000000
set_option linter.unusedSimpArgs false

structure OkIs (M : Seat) : Prop where
  is : ∀ a b : Int, Runs M 63 [erN a, erN b] [] 0 (fun r H' k' => r = .bool (decide (a = b)) ∧ H' = [] ∧ k' = 0)
structure OkJ (M : Seat) : Prop extends OkEv M where
  k84 : chkF M 84 f84 = true
  k85 : chkF M 85 f85 = true
  k86 : chkF M 86 f86 = true
  k87 : chkF M 87 f87 = true
  k88 : chkF M 88 f88 = true
  k215 : chkF M 215 f215 = true
  okA : OkM M
  okS : OkS M
  okB : OkB M
  okR : OkR M
  okIs : OkIs M

theorem bl1 (p : Nat → Prop) : (∀ i, i < 1 → p i) = p 0 := propext ⟨fun h => h 0 (by omega), fun h i hi => by
  have h0 : i = 0 := by omega
  subst h0
  exact h⟩
theorem bl2 (p : Nat → Prop) : (∀ i, i < 2 → p i) = (p 0 ∧ p 1) := propext ⟨fun h => ⟨h 0 (by omega), h 1 (by omega)⟩, fun h i hi => by
  have : i = 0 ∨ i = 1 := by omega
  rcases this with rfl | rfl
  · exact h.1
  · exact h.2⟩
theorem bl3 (p : Nat → Prop) : (∀ i, i < 3 → p i) = (p 0 ∧ p 1 ∧ p 2) := propext ⟨fun h => ⟨h 0 (by omega), h 1 (by omega), h 2 (by omega)⟩, fun h i hi => by
  have : i = 0 ∨ i = 1 ∨ i = 2 := by omega
  rcases this with rfl | rfl | rfl
  · exact h.1
  · exact h.2.1
  · exact h.2.2⟩

abbrev cE (n : BitVec 64) : Ex := .mk 26 n []
abbrev lE (n : BitVec 64) : Ex := .mk 27 n []
abbrev e0 : Ex := .mk 0 0#64 []
theorem runs_constant {M : Seat} (ok : OkJ M) (w : BitVec 64) : Runs M 84 [W w] [] 0 (fun r H' k' => r = .st 3 (.fcons 0 (.int .i64 26) (.fcons 1 (W w) (.fcons 2 .nils .fnil))) ∧ H' = [] ∧ k' = 0) := by
  refine runs_fr ok.k84 rfl fun x hx => ?_
  refine ex_sound 2000 _ _ _ _ ?_; (simp (maxSteps := 4000000) only [f84, c84, LZ, seval, reduceCtorEq, forall_const])
  exact RetS.mkZ hx [] ⟨rfl, rfl, rfl⟩
theorem runs_local {M : Seat} (ok : OkJ M) (w : BitVec 64) : Runs M 85 [W w] [] 0 (fun r H' k' => r = .st 3 (.fcons 0 (.int .i64 27) (.fcons 1 (W w) (.fcons 2 .nils .fnil))) ∧ H' = [] ∧ k' = 0) := by
  refine runs_fr ok.k85 rfl fun x hx => ?_
  refine ex_sound 2000 _ _ _ _ ?_; (simp (maxSteps := 4000000) only [f85, c85, LZ, seval, reduceCtorEq, forall_const])
  exact RetS.mkZ hx [] ⟨rfl, rfl, rfl⟩

/-- Addition and subtraction are what layer 1 has. -/
def ap2 (op : Int) (a b _ : BitVec 64) : Option (BitVec 64) := if op = 1 then some (a + b) else if op = 2 then some (a - b) else none
theorem ap2_ok {M : Seat} (h : chkF M 215 f215 = true) : ApOK M ap2 := by
  intro op a b c v hv
  unfold ap2 at hv
  split at hv
  · rename_i h1
    subst h1
    obtain rfl := Option.some.inj hv
    refine runs_fr h rfl fun x hx => ?_
    refine ex_sound 2000 _ _ _ _ ?_; (simp (maxSteps := 4000000) only [f215, c215, LZ, seval, reduceCtorEq, forall_const])
    exact RetS.mkZ hx [] ⟨rfl, rfl, rfl⟩
  · split at hv
    · rename_i h2
      subst h2
      obtain rfl := Option.some.inj hv
      refine runs_fr h rfl fun x hx => ?_
      refine ex_sound 2000 _ _ _ _ ?_; (simp (maxSteps := 4000000) only [f215, c215, LZ, seval, reduceCtorEq, forall_const])
      exact RetS.mkZ hx [] ⟨rfl, rfl, rfl⟩
    · cases hv

/-- The two programs. -/
def fxP : List Fu := [⟨0, 2, [.mk 1 1 (cE 5#64) e0 [] [], .mk 4 0 (lE 1#64) e0 [.mk 1 0 (.mk 1 0#64 [lE 0#64, lE 1#64]) e0 [] [], .mk 1 1 (.mk 2 0#64 [lE 1#64, cE 1#64]) e0 [] []] [], .mk 5 0 (lE 0#64) e0 [] []]⟩]
def fxQ : List Fu := [⟨0, 0, [.mk 5 0 (.mk 28 0#64 [cE 2048#64]) e0 [] []]⟩]

theorem re_con (P : List Fu) (i l : Nat) (n : BitVec 64) : RE P i (l + 1) (cE n) 1 := RE.mk l 26 n [] (fun _ => 0) (.con n) (by decide) (fun j hj => absurd hj (by simp))
theorem re_loc (P : List Fu) (i l : Nat) (n : BitVec 64) (h : (n.toNat : Int) < locI P i) (h2 : locI P i < 1000) : RE P i (l + 1) (lE n) 1 := RE.mk l 27 n [] (fun _ => 0) (.loc n h h2) (by decide) (fun j hj => absurd hj (by simp))
theorem re_2 (P : List Fu) (i l : Nat) (op : Int) (n : BitVec 64) (a b : Ex) (ca cb : Nat) (h : Nd P i (.mk op n [a, b])) (ha : RE P i l a ca) (hb : RE P i l b cb) : RE P i (l + 1) (.mk op n [a, b]) (1 + (ca + cb)) :=
  RE.mk l op n [a, b] (fun j => if j = 0 then ca else cb) h (by simp) (fun j hj => by
    have : j = 0 ∨ j = 1 := by simp at hj; omega
    rcases this with rfl | rfl
    · exact ha
    · exact hb)
theorem re_1 (P : List Fu) (i l : Nat) (op : Int) (n : BitVec 64) (a : Ex) (ca : Nat) (h : Nd P i (.mk op n [a])) (ha : RE P i l a ca) : RE P i (l + 1) (.mk op n [a]) (1 + ca) :=
  RE.mk l op n [a] (fun j => ca) h (by simp) (fun j hj => by
    have : j = 0 := by simp at hj; omega
    subst this
    exact ha)
theorem re_3 (P : List Fu) (i l : Nat) (op : Int) (n : BitVec 64) (a b c : Ex) (ca cb cc : Nat) (h : Nd P i (.mk op n [a, b, c])) (ha : RE P i l a ca) (hb : RE P i l b cb) (hc : RE P i l c cc) : RE P i (l + 1) (.mk op n [a, b, c]) (1 + (ca + (cb + cc))) :=
  RE.mk l op n [a, b, c] (fun j => if j = 0 then ca else if j = 1 then cb else cc) h (by simp) (fun j hj => by
    have : j = 0 ∨ j = 1 ∨ j = 2 := by simp at hj; omega
    rcases this with rfl | rfl | rfl
    · exact ha
    · exact hb
    · exact hc)
theorem rb_1 (P : List Fu) (i l : Nat) (a : IrSt) (ca : Nat) (ha : RgS P i l a ca) : RB P i (l + 1) [a] ca :=
  RB.mk l [a] (fun _ => ca) (by simp) (fun j hj => by
    have : j = 0 := by simp at hj; omega
    subst this
    exact ha)
theorem rb_2 (P : List Fu) (i l : Nat) (a b : IrSt) (ca cb : Nat) (ha : RgS P i l a ca) (hb : RgS P i l b cb) : RB P i (l + 1) [a, b] (ca + cb) :=
  RB.mk l [a, b] (fun j => if j = 0 then ca else cb) (by simp) (fun j hj => by
    have : j = 0 ∨ j = 1 := by simp at hj; omega
    rcases this with rfl | rfl
    · exact ha
    · exact hb)
theorem rb_3 (P : List Fu) (i l : Nat) (a b c : IrSt) (ca cb cc : Nat) (ha : RgS P i l a ca) (hb : RgS P i l b cb) (hc : RgS P i l c cc) : RB P i (l + 1) [a, b, c] (ca + (cb + cc)) :=
  RB.mk l [a, b, c] (fun j => if j = 0 then ca else if j = 1 then cb else cc) (by simp) (fun j hj => by
    have : j = 0 ∨ j = 1 ∨ j = 2 := by simp at hj; omega
    rcases this with rfl | rfl | rfl
    · exact ha
    · exact hb
    · exact hc)
theorem fxP_right : RgP fxP (fun _ => 14) := by
  have hl : locI fxP 0 = 2 := rfl
  refine ⟨by simp [fxP], by decide, fun i hi => ?_, rfl, fun i hi => ?_, by decide⟩
  · have : i = 0 := by simp [fxP] at hi; omega
    subst this
    exact ⟨by decide, by decide, by decide⟩
  · have : i = 0 := by simp [fxP] at hi; omega
    subst this
    exact rb_3 fxP 0 15 _ _ _ _ _ _ (.set _ _ _ _ _ _ _ (by decide) (by decide) (re_con _ _ _ _))
      (.loop _ _ _ _ _ _ _ _ (re_loc _ _ _ _ (by decide) (by decide)) (rb_2 _ _ _ _ _ _ _
        (.set _ _ _ _ _ _ _ (by decide) (by decide) (re_2 _ _ _ _ _ _ _ _ _ (.ar _ _ _ (by decide) (by decide) (by decide)) (re_loc _ _ _ _ (by decide) (by decide)) (re_loc _ _ _ _ (by decide) (by decide))))
        (.set _ _ _ _ _ _ _ (by decide) (by decide) (re_2 _ _ _ _ _ _ _ _ _ (.ar _ _ _ (by decide) (by decide) (by decide)) (re_loc _ _ _ _ (by decide) (by decide)) (re_con _ _ _ _)))))
      (.other _ 5 _ _ _ _ _ _ (by decide) (by decide) (re_loc _ _ _ _ (by decide) (by decide)))
theorem fxQ_right : RgP fxQ (fun _ => 3) := by
  refine ⟨by simp [fxQ], by decide, fun i hi => ?_, rfl, fun i hi => ?_, by decide⟩
  · have : i = 0 := by simp [fxQ] at hi; omega
    subst this
    exact ⟨by decide, by decide, by decide⟩
  · have : i = 0 := by simp [fxQ] at hi; omega
    subst this
    exact rb_1 fxQ 0 15 _ _ (.other _ 5 _ _ _ _ _ _ (by decide) (by decide) (re_1 _ _ _ _ _ _ _ (.load _ _) (re_con _ _ _ _)))

def evT (P : List Fu) (k fuel : Nat) (f : IrS → Bool) : Bool := match ev ap2 P (k + 1) (.c 0 []) (s0I fuel) (fun _ => 0#64) 0 with
  | some q => f (endS q.s q.v)
  | none => false
theorem evT_get {P : List Fu} {k fuel : Nat} {f : IrS → Bool} (h : evT P k fuel f = true) : ∃ q, ev ap2 P (k + 1) (.c 0 []) (s0I fuel) (fun _ => 0#64) 0 = some q ∧ f (endS q.s q.v) = true := by
  unfold evT at h
  split at h
  · rename_i q hq
    exact ⟨q, hq, h⟩
  · cases h
theorem fxP_runs : evT fxP 30 999 (fun s => decide (s.exit = 15#64) && !s.out) = true := by decide +kernel
theorem fxQ_runs : evT fxQ 30 9 (fun s => decide (s.exit = 18446744073709551614#64) && !s.out && decide (s.used = 3)) = true := by decide +kernel
end Mv
namespace Mv
open Go
set_option maxRecDepth 20000
set_option maxHeartbeats 4000000
set_option linter.unusedSimpArgs false

theorem dEq (a : Int) : decide (a = a) = true := decide_eq_true rfl
theorem runs_fixed12 {M : Seat} (ok : OkJ M) : Runs M 88 [] [] 0 (fun r H' k' => r = .bool true ∧ H' = [] ∧ k' = 0) := by
  refine runs_fr ok.k88 rfl fun x hx => ?_
  obtain ⟨q, hq, hf⟩ := evT_get fxP_runs
  simp only [Bool.and_eq_true, Bool.not_eq_true', decide_eq_true_eq] at hf
  obtain ⟨f1, f2⟩ := hf
  have hE1 := runs_Eval ok.toOkEv ap2 (ap2_ok ok.k215) fxP _ fxP_right 999 30 (by decide) q _ _ hq f2
  obtain ⟨p, hp, hg⟩ := evT_get fxQ_runs
  simp only [Bool.and_eq_true, Bool.not_eq_true', decide_eq_true_eq] at hg
  obtain ⟨⟨g1, g2⟩, g3⟩ := hg
  have hE2 := runs_Eval ok.toOkEv ap2 (ap2_ok ok.k215) fxQ _ fxQ_right 9 30 (by decide) p _ _ hp g2
  have hC1 := runs_Check ok.toOkCk fxP _ fxP_right
  simp only [resI, f1, g1, g3] at hE1 hE2
  generalize endS q.s q.v = sE at *
  generalize endS p.s p.v = sQ at *
  have hw : ∀ (s : IrS), NoIm (memI s) = True := fun s => eq_true (by simp only [memI, NoIm, W, implies_true])
  refine ex_sound 2000 _ _ _ _ ?_; (simp (maxSteps := 4000000) only [f88, c88, LZ, seval, reduceCtorEq, forall_const])
  refine call_pZ (runs_constant ok 5#64) ?_
  (simp (maxSteps := 4000000) only [LZ, seval, reduceCtorEq, forall_const])
  refine call_pZ (runs_local ok 1#64) ?_
  (simp (maxSteps := 4000000) only [LZ, seval, reduceCtorEq, forall_const])
  refine call_pZ (runs_local ok 0#64) ?_
  (simp (maxSteps := 4000000) only [LZ, seval, reduceCtorEq, forall_const])
  refine call_pZ (runs_local ok 1#64) ?_
  (simp (maxSteps := 4000000) only [LZ, seval, reduceCtorEq, forall_const])
  refine call_pZ (runs_local ok 1#64) ?_
  (simp (maxSteps := 4000000) only [LZ, seval, reduceCtorEq, forall_const])
  refine call_pZ (runs_constant ok 1#64) ?_
  (simp (maxSteps := 4000000) only [LZ, seval, reduceCtorEq, forall_const])
  refine call_pZ (runs_local ok 0#64) ?_
  (simp (maxSteps := 4000000) only [LZ, seval, reduceCtorEq, forall_const])
  refine call_fA (runs_StoresN ok.okA ok.okS ok.okB ok.okR) (by decide) (by ((try simp only [tup2, stoH', stoV, kinV, rs5, rstV, dg, LMS, NoIm_seen, List.cons_append, List.nil_append, LY, seval, reduceCtorEq, implies_true]); first | done | exact True.intro | rfl)) (by simp only [tup2, stoH', stoV, kinV, rs5, rstV, dg, LMS, NoIm_seen, List.cons_append, List.nil_append, LX, implies_true]) (by simp only [tup2, stoH', stoV, kinV, rs5, rstV, dg, LMS, NoIm_seen, List.cons_append, List.nil_append, LX, implies_true]) ?_
  (simp (maxSteps := 4000000) only [tup2, stoH', stoV, kinV, rs5, rstV, dg, List.cons_append, List.nil_append, ren_seen, LM, LZ, seval, reduceCtorEq, forall_const])
  refine call_mB [352] [] (hE1) (by rfl) (by rfl) (by decide) (by rfl) (by rfl) (by ((try simp only [fxP, fuL, fuF, fuV, stL, stF, stV, exL, exF, exV, List.length_cons, List.length_nil, Nat.reduceAdd, Nat.zero_add, bl1, bl2, bl3, hw, LY, seval, reduceCtorEq, implies_true]); first | done | exact True.intro | rfl)) (by ((try simp only [fxP, fuL, fuF, fuV, stL, stF, stV, exL, exF, exV, List.length_cons, List.length_nil, Nat.reduceAdd, Nat.zero_add, bl1, bl2, bl3, hw, LY, seval, reduceCtorEq, implies_true]); first | done | exact True.intro | rfl)) (by simp only [fxP, fuL, fuF, fuV, stL, stF, stV, exL, exF, exV, List.length_cons, List.length_nil, Nat.reduceAdd, Nat.zero_add, bl1, bl2, bl3, hw, LX, implies_true]) (by simp only [fxP, fuL, fuF, fuV, stL, stF, stV, exL, exF, exV, List.length_cons, List.length_nil, Nat.reduceAdd, Nat.zero_add, bl1, bl2, bl3, hw, LX, implies_true]) ?_
  (simp (maxSteps := 4000000) only [tup2, ren_memI, LZ, seval, reduceCtorEq, forall_const])
  refine call_pZ (runs_constant ok 2048#64) ?_
  (simp (maxSteps := 4000000) only [LZ, seval, reduceCtorEq, forall_const])
  refine call_mB [352] [] (hE2) (by rfl) (by rfl) (by decide) (by rfl) (by rfl) (by ((try simp only [fxQ, fuL, fuF, fuV, stL, stF, stV, exL, exF, exV, List.length_cons, List.length_nil, Nat.reduceAdd, Nat.zero_add, bl1, bl2, bl3, hw, LY, seval, reduceCtorEq, implies_true]); first | done | exact True.intro | rfl)) (by ((try simp only [fxQ, fuL, fuF, fuV, stL, stF, stV, exL, exF, exV, List.length_cons, List.length_nil, Nat.reduceAdd, Nat.zero_add, bl1, bl2, bl3, hw, LY, seval, reduceCtorEq, implies_true]); first | done | exact True.intro | rfl)) (by simp only [fxQ, fuL, fuF, fuV, stL, stF, stV, exL, exF, exV, List.length_cons, List.length_nil, Nat.reduceAdd, Nat.zero_add, bl1, bl2, bl3, hw, LX, implies_true]) (by simp only [fxQ, fuL, fuF, fuV, stL, stF, stV, exL, exF, exV, List.length_cons, List.length_nil, Nat.reduceAdd, Nat.zero_add, bl1, bl2, bl3, hw, LX, implies_true]) ?_
  (simp (maxSteps := 4000000) only [tup2, ren_memI, LZ, seval, reduceCtorEq, forall_const])
  refine call_pA (hC1) (by ((try simp only [fxP, fuL, fuF, fuV, stL, stF, stV, exL, exF, exV, List.length_cons, List.length_nil, Nat.reduceAdd, Nat.zero_add, bl1, bl2, bl3, LY, seval, reduceCtorEq, implies_true]); first | done | exact True.intro | rfl)) (by first | rfl | (simp only [LN, LP, V.ren, tup2, tup3])) (by simp only [fxP, fuL, fuF, fuV, stL, stF, stV, exL, exF, exV, List.length_cons, List.length_nil, Nat.reduceAdd, Nat.zero_add, bl1, bl2, bl3, LX, implies_true]) ?_
  (simp (maxSteps := 4000000) only [LZ, seval, reduceCtorEq, forall_const])
  refine call_pZ (runs_CheckNil ok.toOkCk) ?_
  (simp (maxSteps := 4000000) only [LZ, seval, reduceCtorEq, forall_const])
  refine call_pZ (ok.okIs.is 3 3) ?_
  (simp (maxSteps := 4000000) only [dEq, LZ, seval, reduceCtorEq, forall_const])
  exact RetS.mkZ hx [] ⟨rfl, rfl, rfl⟩
end Mv
