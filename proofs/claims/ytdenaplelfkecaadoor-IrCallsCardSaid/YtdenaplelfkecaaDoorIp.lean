/- IrCalls: what is worked out. -/
import Derived.Test.YtdenaplelfkecaaDoorT
import Derived.Test.YtdenaplelfkecaaDoorW1
import Derived.Test.YtdenaplelfkecaaDoorIm
import Derived.Test.YtdenaplelfkecaaDoorXh
set_option linter.unusedSimpArgs false
set_option linter.unusedVariables false
namespace Mv
open Go
/-- moot/mootlaw12.IrCalls -/
def c16 : LC := (.seq (.reg [A1 8 (.mv (.c (.bool false)))])
 ((.seq (.reg [A1 21 (.mv (.t 0)),
  A1 22 (.conv .u64 (.t 21)),
  A1 23 (.ari .rem (.t 22) (.c (.int .u64 25))),
  A1 24 (.conv .i64 (.t 23)),
  A1 25 (.ari .add (.c (.int .i64 1)) (.t 24)),
  A1 0 (.mv (.t 25))])
 ((.seq (.reg [A1 27 (.mv (.t 0)),
  ⟨(some 28), .call 89 [(.t 27)], none⟩,
  A1 26 (.mv (.t 28)),
  A1 29 (.ext (.t 26) 0),
  A1 30 (.ext (.t 26) 1),
  A1 9 (.mv (.t 29)),
  A1 10 (.mv (.t 30))])
 ((.seq (.reg [A1 32 (.mv (.t 0)),
  A1 33 (.mv (.t 1)),
  A1 34 (.mv (.t 2)),
  A1 35 (.mv (.t 3)),
  ⟨(some 36), .call 90 [(.t 32), (.t 33), (.t 34), (.t 35)], none⟩,
  A1 31 (.mv (.t 36)),
  A1 37 (.ext (.t 31) 0),
  A1 38 (.ext (.t 31) 1),
  A1 11 (.mv (.t 37)),
  A1 12 (.mv (.t 38))])
 ((.seq (.reg [⟨(some 39), .call 85 [(.c (.int .u64 0))], none⟩,
  ⟨(some 40), .call 85 [(.c (.int .u64 1))], none⟩,
  ⟨(some 41), .call 85 [(.c (.int .u64 2))], none⟩,
  A1 42 (.bsl 3 3 (.st (.cons (.int .i64) (.cons (.int .u64) (.cons .slice .nil)))) [(.i 3 0, 3, (.t 39)), (.i 3 1, 3, (.t 40)), (.i 3 2, 3, (.t 41))]),
  A1 43 (.mv (.t 9)),
  A1 44 (.slsl 3 (.t 42) none (some (.t 43))),
  A1 13 (.mv (.t 44))])
 ((.seq (.reg [⟨(some 45), .call 85 [(.c (.int .u64 4))], none⟩,
  A1 46 (.mv (.t 0)),
  A1 47 (.mv (.t 13)),
  ⟨(some 48), .call 86 [(.t 46), (.t 47)], none⟩,
  A1 49 (.bsl 3 2 (.st (.cons (.int .i64) (.cons (.int .u64) (.cons .slice .nil)))) [(.i 3 0, 3, (.t 45)), (.i 3 1, 3, (.t 48))]),
  ⟨(some 50), .call 86 [(.c (.int .i64 1)), (.t 49)], none⟩,
  A1 51 (.build (.st (.cons (.int .i64) (.cons (.int .i64) (.cons (.st (.cons (.int .i64) (.cons (.int .u64) (.cons .slice .nil)))) (.cons (.st (.cons (.int .i64) (.cons (.int .u64) (.cons .slice .nil)))) (.cons .slice (.cons .slice .nil))))))) [(.f 0, 1, (.c (.int .i64 1))), (.f 1, 1, (.c (.int .i64 4))), (.f 2, 3, (.t 50))]),
  ⟨(some 52), .call 84 [(.c (.int .u64 77))], none⟩,
  A1 53 (.build (.st (.cons (.int .i64) (.cons (.int .i64) (.cons (.st (.cons (.int .i64) (.cons (.int .u64) (.cons .slice .nil)))) (.cons (.st (.cons (.int .i64) (.cons (.int .u64) (.cons .slice .nil)))) (.cons .slice (.cons .slice .nil))))))) [(.f 0, 1, (.c (.int .i64 1))), (.f 1, 1, (.c (.int .i64 0))), (.f 2, 3, (.t 52))]),
  ⟨(some 54), .call 85 [(.c (.int .u64 4))], none⟩,
  A1 55 (.build (.st (.cons (.int .i64) (.cons (.int .i64) (.cons (.st (.cons (.int .i64) (.cons (.int .u64) (.cons .slice .nil)))) (.cons (.st (.cons (.int .i64) (.cons (.int .u64) (.cons .slice .nil)))) (.cons .slice (.cons .slice .nil))))))) [(.f 0, 1, (.c (.int .i64 5))), (.f 2, 3, (.t 54))]),
  A1 56 (.bsl 10 3 (.st (.cons (.int .i64) (.cons (.int .i64) (.cons (.st (.cons (.int .i64) (.cons (.int .u64) (.cons .slice .nil)))) (.cons (.st (.cons (.int .i64) (.cons (.int .u64) (.cons .slice .nil)))) (.cons .slice (.cons .slice .nil))))))) [(.i 10 0, 10, (.t 51)), (.i 10 1, 10, (.t 53)), (.i 10 2, 10, (.t 55))]),
  A1 57 (.build (.st (.cons (.int .i64) (.cons (.int .i64) (.cons .slice .nil)))) [(.f 0, 1, (.c (.int .i64 3))), (.f 1, 1, (.c (.int .i64 5))), (.f 2, 1, (.t 56))]),
  A1 14 (.alloc (.st (.cons (.int .i64) (.cons (.int .i64) (.cons .slice .nil))))),
  A0 (.store 3 (.t 14) (.t 57))])
 ((.seq (.reg [⟨(some 58), .call 85 [(.c (.int .u64 0))], none⟩,
  A1 59 (.mv (.t 2)),
  ⟨(some 60), .call 84 [(.t 59)], none⟩,
  ⟨(some 61), .call 85 [(.c (.int .u64 1))], none⟩,
  A1 62 (.bsl 3 3 (.st (.cons (.int .i64) (.cons (.int .u64) (.cons .slice .nil)))) [(.i 3 0, 3, (.t 58)), (.i 3 1, 3, (.t 60)), (.i 3 2, 3, (.t 61))]),
  A1 63 (.build (.st (.cons (.int .i64) (.cons (.int .u64) (.cons .slice .nil)))) [(.f 0, 1, (.c (.int .i64 29))), (.f 1, 1, (.c (.int .u64 1))), (.f 2, 1, (.t 62))]),
  A1 15 (.alloc (.st (.cons (.int .i64) (.cons (.int .u64) (.cons .slice .nil))))),
  A0 (.store 3 (.t 15) (.t 63))])
 ((.seq (.regd [⟨0, 0, A1 64 (.mv (.t 1))⟩,
  ⟨1, 1, ⟨(some 65), .call 84 [(.t 64)], none⟩⟩,
  ⟨3, 0, A1 67 (.mv (.t 3))⟩,
  ⟨4, 7, ⟨(some 68), .call 84 [(.t 67)], none⟩⟩,
  ⟨8, 15, ⟨(some 72), .call 84 [(.c (.int .u64 5))], none⟩⟩,
  ⟨9, 31, ⟨(some 73), .call 85 [(.c (.int .u64 0))], none⟩⟩,
  ⟨11, 63, ⟨(some 75), .call 85 [(.c (.int .u64 2))], none⟩⟩,
  ⟨12, 0, A1 76 (.load true 3 (.t 15))⟩,
  ⟨13, 255, A1 77 (.bsl 3 2 (.st (.cons (.int .i64) (.cons (.int .u64) (.cons .slice .nil)))) [(.i 3 0, 3, (.t 75)), (.i 3 1, 3, (.t 76))])⟩,
  ⟨14, 511, ⟨(some 78), .call 86 [(.c (.int .i64 24)), (.t 77)], none⟩⟩,
  ⟨2, 3, A1 66 (.build (.st (.cons (.int .i64) (.cons (.int .i64) (.cons (.st (.cons (.int .i64) (.cons (.int .u64) (.cons .slice .nil)))) (.cons (.st (.cons (.int .i64) (.cons (.int .u64) (.cons .slice .nil)))) (.cons .slice (.cons .slice .nil))))))) [(.f 0, 1, (.c (.int .i64 1))), (.f 1, 1, (.c (.int .i64 0))), (.f 2, 3, (.t 65))])⟩,
  ⟨5, 15, A1 69 (.build (.st (.cons (.int .i64) (.cons (.int .i64) (.cons (.st (.cons (.int .i64) (.cons (.int .u64) (.cons .slice .nil)))) (.cons (.st (.cons (.int .i64) (.cons (.int .u64) (.cons .slice .nil)))) (.cons .slice (.cons .slice .nil))))))) [(.f 0, 1, (.c (.int .i64 1))), (.f 1, 1, (.c (.int .i64 1))), (.f 2, 3, (.t 68))])⟩,
  ⟨6, 0, A1 70 (.load true 3 (.t 15))⟩,
  ⟨7, 4096, A1 71 (.build (.st (.cons (.int .i64) (.cons (.int .i64) (.cons (.st (.cons (.int .i64) (.cons (.int .u64) (.cons .slice .nil)))) (.cons (.st (.cons (.int .i64) (.cons (.int .u64) (.cons .slice .nil)))) (.cons .slice (.cons .slice .nil))))))) [(.f 0, 1, (.c (.int .i64 1))), (.f 1, 1, (.c (.int .i64 2))), (.f 2, 3, (.t 70))])⟩,
  ⟨10, 63, A1 74 (.build (.st (.cons (.int .i64) (.cons (.int .i64) (.cons (.st (.cons (.int .i64) (.cons (.int .u64) (.cons .slice .nil)))) (.cons (.st (.cons (.int .i64) (.cons (.int .u64) (.cons .slice .nil)))) (.cons .slice (.cons .slice .nil))))))) [(.f 0, 1, (.c (.int .i64 2))), (.f 2, 3, (.t 72)), (.f 5, 3, (.t 73))])⟩,
  ⟨15, 1023, A1 79 (.build (.st (.cons (.int .i64) (.cons (.int .i64) (.cons (.st (.cons (.int .i64) (.cons (.int .u64) (.cons .slice .nil)))) (.cons (.st (.cons (.int .i64) (.cons (.int .u64) (.cons .slice .nil)))) (.cons .slice (.cons .slice .nil))))))) [(.f 0, 1, (.c (.int .i64 5))), (.f 2, 3, (.t 78))])⟩,
  ⟨16, 65535, A1 80 (.bsl 10 5 (.st (.cons (.int .i64) (.cons (.int .i64) (.cons (.st (.cons (.int .i64) (.cons (.int .u64) (.cons .slice .nil)))) (.cons (.st (.cons (.int .i64) (.cons (.int .u64) (.cons .slice .nil)))) (.cons .slice (.cons .slice .nil))))))) [(.i 10 0, 10, (.t 66)), (.i 10 1, 10, (.t 69)), (.i 10 2, 10, (.t 71)), (.i 10 3, 10, (.t 74)), (.i 10 4, 10, (.t 79))])⟩,
  ⟨17, 131071, A1 81 (.build (.st (.cons (.int .i64) (.cons (.int .i64) (.cons .slice .nil)))) [(.f 1, 1, (.c (.int .i64 3))), (.f 2, 1, (.t 80))])⟩,
  ⟨18, 0, A1 82 (.load true 3 (.t 14))⟩,
  ⟨19, 524287, A1 83 (.bsl 3 2 (.st (.cons (.int .i64) (.cons (.int .i64) (.cons .slice .nil)))) [(.i 3 0, 3, (.t 81)), (.i 3 1, 3, (.t 82))])⟩,
  ⟨20, 1048575, A1 16 (.mv (.t 83))⟩])
 ((.seq (.reg [A1 85 (.mv (.t 16)),
  ⟨(some 86), .call 87 [(.t 85), (.c .nils)], none⟩,
  A1 84 (.mv (.t 86)),
  A1 87 (.ext (.t 84) 0),
  A1 88 (.ext (.t 84) 1),
  A1 17 (.alloc (.st (.cons (.int .u64) (.cons .slice (.cons (.int .i64) .nil))))),
  A0 (.store 3 (.t 17) (.t 87)),
  A1 18 (.mv (.t 88))])
 ((.seq (.regd [⟨0, 0, A1 90 (.mv (.t 1))⟩,
  ⟨1, 1, ⟨(some 91), .call 84 [(.t 90)], none⟩⟩,
  ⟨2, 0, A1 92 (.mv (.t 2))⟩,
  ⟨3, 7, ⟨(some 93), .call 84 [(.t 92)], none⟩⟩,
  ⟨4, 0, A1 94 (.mv (.t 3))⟩,
  ⟨5, 31, ⟨(some 95), .call 84 [(.t 94)], none⟩⟩,
  ⟨6, 63, A1 96 (.bsl 3 3 (.st (.cons (.int .i64) (.cons (.int .u64) (.cons .slice .nil)))) [(.i 3 0, 3, (.t 91)), (.i 3 1, 3, (.t 93)), (.i 3 2, 3, (.t 95))])⟩,
  ⟨7, 127, A1 97 (.build (.st (.cons (.int .i64) (.cons (.int .u64) (.cons .slice .nil)))) [(.f 0, 1, (.c (.int .i64 29))), (.f 1, 1, (.c (.int .u64 1))), (.f 2, 1, (.t 96))])⟩,
  ⟨8, 255, A1 98 (.build (.st (.cons (.int .i64) (.cons (.int .i64) (.cons (.st (.cons (.int .i64) (.cons (.int .u64) (.cons .slice .nil)))) (.cons (.st (.cons (.int .i64) (.cons (.int .u64) (.cons .slice .nil)))) (.cons .slice (.cons .slice .nil))))))) [(.f 0, 1, (.c (.int .i64 5))), (.f 2, 3, (.t 97))])⟩,
  ⟨9, 511, A1 99 (.bsl 10 1 (.st (.cons (.int .i64) (.cons (.int .i64) (.cons (.st (.cons (.int .i64) (.cons (.int .u64) (.cons .slice .nil)))) (.cons (.st (.cons (.int .i64) (.cons (.int .u64) (.cons .slice .nil)))) (.cons .slice (.cons .slice .nil))))))) [(.i 10 0, 10, (.t 98))])⟩,
  ⟨10, 1023, A1 100 (.build (.st (.cons (.int .i64) (.cons (.int .i64) (.cons .slice .nil)))) [(.f 2, 1, (.t 99))])⟩,
  ⟨11, 2047, A1 101 (.bsl 3 1 (.st (.cons (.int .i64) (.cons (.int .i64) (.cons .slice .nil)))) [(.i 3 0, 3, (.t 100))])⟩,
  ⟨12, 0, A1 102 (.load true 3 (.t 14))⟩,
  ⟨13, 4096, A1 103 (.bsl 3 1 (.st (.cons (.int .i64) (.cons (.int .i64) (.cons .slice .nil)))) [(.i 3 0, 3, (.t 102))])⟩,
  ⟨14, 16383, A1 104 (.app 3 40 (.t 101) (.t 103))⟩,
  ⟨15, 32767, ⟨(some 105), .call 87 [(.t 104), (.c .nils)], none⟩⟩,
  ⟨16, 65535, A1 89 (.mv (.t 105))⟩,
  ⟨17, 131071, A1 106 (.ext (.t 89) 0)⟩,
  ⟨19, 0, A1 19 (.alloc (.st (.cons (.int .u64) (.cons .slice (.cons (.int .i64) .nil)))))⟩,
  ⟨20, 524287, A0 (.store 3 (.t 19) (.t 106))⟩,
  ⟨18, 131071, A1 107 (.ext (.t 89) 1)⟩,
  ⟨21, 2097151, A1 20 (.mv (.t 107))⟩])
 ((.seq (.reg [⟨(some 108), .call 88 [], none⟩,
  A1 109 (.mv (.t 108)),
  A2 110 109 true (.mv (.t 18)),
  A2 111 109 true (.eq false true (.iface [74]) (.t 110) (.c .nili)),
  A1 112 (.pick (.t 109) (.t 111) (.c (.bool false))),
  A1 113 (.mv (.t 112)),
  A2 114 113 true (.mv (.t 20)),
  A2 115 113 true (.eq false true (.iface [74]) (.t 114) (.c .nili)),
  A1 116 (.pick (.t 113) (.t 115) (.c (.bool false))),
  A1 117 (.mv (.t 116)),
  A2 118 117 true (.fadr 0 (.t 17)),
  A2 119 117 true (.load false 1 (.t 118)),
  A2 120 117 true (.ari .eql (.t 119) (.c (.int .u64 0))),
  A1 121 (.pick (.t 117) (.t 120) (.c (.bool false))),
  A1 122 (.mv (.t 121)),
  A2 123 122 true (.fadr 1 (.t 17)),
  A2 124 122 true (.load false 1 (.t 123)),
  A2 125 122 true (.isl 1 (.t 124) (.c (.int .i64 5))),
  A2 126 122 true (.load false 1 (.t 125)),
  A2 127 122 true (.mv (.t 1)),
  A2 128 122 true (.ari .eql (.t 126) (.t 127)),
  A1 129 (.pick (.t 122) (.t 128) (.c (.bool false))),
  A1 130 (.mv (.t 129)),
  A2 131 130 true (.fadr 0 (.t 19)),
  A2 132 130 true (.load false 1 (.t 131)),
  A2 133 130 true (.mv (.t 11)),
  A2 134 130 true (.ari .eql (.t 132) (.t 133)),
  A1 135 (.pick (.t 130) (.t 134) (.c (.bool false))),
  A1 8 (.mv (.t 135))])
 (.ret))))))))))))))))))))))
def f16 : LF := ⟨c16, 4, 0, 136, [.tmp 8]⟩

end Mv
namespace Mv
open Go
set_option maxRecDepth 20000
set_option maxHeartbeats 4000000
set_option linter.unusedSimpArgs false

/-- Layer 1, all of it. -/
def apE (op : Int) (a b c : BitVec 64) : Option (BitVec 64) := if 1 ≤ op ∧ op ≤ 25 then some (apW op.toNat a b c) else none
theorem apE_ok {M : Seat} (ok : OkP M) : ApOK M apE := by
  intro op a b c v hv
  unfold apE at hv
  split at hv
  · rename_i h
    obtain rfl := Option.some.inj hv
    obtain ⟨n, rfl⟩ : ∃ n : Nat, op = n := ⟨op.toNat, by omega⟩
    have := runs_Apply ok n (by omega) (by omega) a b c
    simpa using this
  · cases hv

def icF (k : Int) (as : List Ex) : Fu := ⟨3, 5, [.mk 1 4 (.mk 1 0#64 [lE 4#64, .mk k 0#64 as]) e0 [] [], .mk 1 0 (cE 77#64) e0 [] [], .mk 5 0 (lE 4#64) e0 [] []]⟩
def icC (b : BitVec 64) : Ex := .mk 29 1#64 [lE 0#64, cE b, lE 1#64]
def icP (a b c : BitVec 64) (F : Fu) : List Fu := [⟨0, 3, [.mk 1 0 (cE a) e0 [] [], .mk 1 1 (cE c) e0 [] [], .mk 1 2 (icC b) e0 [] [], .mk 2 0 (cE 5#64) (lE 0#64) [] [], .mk 5 0 (.mk 24 0#64 [lE 2#64, icC b]) e0 [] []]⟩, F]
def icQ (a b c : BitVec 64) (F : Fu) : List Fu := [⟨0, 0, [.mk 5 0 (.mk 29 1#64 [cE a, cE b, cE c]) e0 [] []]⟩, F]
def icA (n : Nat) : List Ex := [lE 0#64, lE 1#64, lE 2#64].take n
theorem apW_pad (k : Nat) (h1 : 1 ≤ k) (h2 : k ≤ 25) (a b c : BitVec 64) : (arN k = 1 → apW k a 0#64 0#64 = apW k a b c) ∧ (arN k = 2 → apW k a b 0#64 = apW k a b c) := by
  have hop : k = 1 ∨ k = 2 ∨ k = 3 ∨ k = 22 ∨ k = 23 ∨ k = 24 ∨ k = 25 ∨ k = 16 ∨ k = 17 ∨ k = 18 ∨ k = 19 ∨ k = 20 ∨ k = 21 ∨ k = 4 ∨ k = 5 ∨ k = 6 ∨ k = 7 ∨ k = 8 ∨ k = 9 ∨ k = 10 ∨ k = 11 ∨ k = 12 ∨ k = 13 ∨ k = 14 ∨ k = 15 := by omega
  rcases hop with rfl | rfl | rfl | rfl | rfl | rfl | rfl | rfl | rfl | rfl | rfl | rfl | rfl | rfl | rfl | rfl | rfl | rfl | rfl | rfl | rfl | rfl | rfl | rfl | rfl
  all_goals exact ⟨fun h => by first | rfl | exact absurd h (by decide), fun h => by first | rfl | exact absurd h (by decide)⟩
theorem ic_runP1 (k : Nat) (h1 : 1 ≤ k) (h2 : k ≤ 25) (a b c : BitVec 64) : ∃ q, ev apE (icP a b c (icF k (icA 1))) (20 + 1) (.c 0 []) (s0I 100000) (fun _ => 0#64) 0 = some q ∧ (endS q.s q.v).out = false ∧ (endS q.s q.v).exit = 0#64 ∧ (endS q.s q.v).d 5 = a := by
  have e26 : ((k : Int) = 26) = False := eq_false (by omega)
  have e27 : ((k : Int) = 27) = False := eq_false (by omega)
  have e28 : ((k : Int) = 28) = False := eq_false (by omega)
  have e29 : ((k : Int) = 29) = False := eq_false (by omega)
  have e30 : ((k : Int) = 30) = False := eq_false (by omega)
  have e31 : ((k : Int) = 31) = False := eq_false (by omega)
  have hk : ∀ a b c, apE k a b c = some (apW k a b c) := fun a b c => by rw [apE, if_pos (by omega)]; rfl
  have hk1 : ∀ a b c, apE 1 a b c = some (a + b) := fun a b c => rfl
  have hk24 : ∀ a b c, apE 24 a b c = some (a ^^^ b) := fun a b c => rfl
  simp (config := {decide := true}) [icP, icF, icA, icC, ev, evAs, evB, burnB, burn, endS, s0I, e26, e27, e28, e29, e30, e31, hk, hk1, hk24]
theorem ic_runQ1 (k : Nat) (h1 : 1 ≤ k) (h2 : k ≤ 25) (a b c : BitVec 64) : ∃ q, ev apE (icQ a b c (icF k (icA 1))) (20 + 1) (.c 0 []) (s0I 100000) (fun _ => 0#64) 0 = some q ∧ (endS q.s q.v).out = false ∧ (endS q.s q.v).exit = apW k a 0#64 0#64 := by
  have e26 : ((k : Int) = 26) = False := eq_false (by omega)
  have e27 : ((k : Int) = 27) = False := eq_false (by omega)
  have e28 : ((k : Int) = 28) = False := eq_false (by omega)
  have e29 : ((k : Int) = 29) = False := eq_false (by omega)
  have e30 : ((k : Int) = 30) = False := eq_false (by omega)
  have e31 : ((k : Int) = 31) = False := eq_false (by omega)
  have hk : ∀ a b c, apE k a b c = some (apW k a b c) := fun a b c => by rw [apE, if_pos (by omega)]; rfl
  have hk1 : ∀ a b c, apE 1 a b c = some (a + b) := fun a b c => rfl
  simp (config := {decide := true}) [icQ, icF, icA, icC, ev, evAs, evB, burnB, burn, endS, s0I, e26, e27, e28, e29, e30, e31, hk, hk1]
theorem ic_runP2 (k : Nat) (h1 : 1 ≤ k) (h2 : k ≤ 25) (a b c : BitVec 64) : ∃ q, ev apE (icP a b c (icF k (icA 2))) (20 + 1) (.c 0 []) (s0I 100000) (fun _ => 0#64) 0 = some q ∧ (endS q.s q.v).out = false ∧ (endS q.s q.v).exit = 0#64 ∧ (endS q.s q.v).d 5 = a := by
  have e26 : ((k : Int) = 26) = False := eq_false (by omega)
  have e27 : ((k : Int) = 27) = False := eq_false (by omega)
  have e28 : ((k : Int) = 28) = False := eq_false (by omega)
  have e29 : ((k : Int) = 29) = False := eq_false (by omega)
  have e30 : ((k : Int) = 30) = False := eq_false (by omega)
  have e31 : ((k : Int) = 31) = False := eq_false (by omega)
  have hk : ∀ a b c, apE k a b c = some (apW k a b c) := fun a b c => by rw [apE, if_pos (by omega)]; rfl
  have hk1 : ∀ a b c, apE 1 a b c = some (a + b) := fun a b c => rfl
  have hk24 : ∀ a b c, apE 24 a b c = some (a ^^^ b) := fun a b c => rfl
  simp (config := {decide := true}) [icP, icF, icA, icC, ev, evAs, evB, burnB, burn, endS, s0I, e26, e27, e28, e29, e30, e31, hk, hk1, hk24]
theorem ic_runQ2 (k : Nat) (h1 : 1 ≤ k) (h2 : k ≤ 25) (a b c : BitVec 64) : ∃ q, ev apE (icQ a b c (icF k (icA 2))) (20 + 1) (.c 0 []) (s0I 100000) (fun _ => 0#64) 0 = some q ∧ (endS q.s q.v).out = false ∧ (endS q.s q.v).exit = apW k a b 0#64 := by
  have e26 : ((k : Int) = 26) = False := eq_false (by omega)
  have e27 : ((k : Int) = 27) = False := eq_false (by omega)
  have e28 : ((k : Int) = 28) = False := eq_false (by omega)
  have e29 : ((k : Int) = 29) = False := eq_false (by omega)
  have e30 : ((k : Int) = 30) = False := eq_false (by omega)
  have e31 : ((k : Int) = 31) = False := eq_false (by omega)
  have hk : ∀ a b c, apE k a b c = some (apW k a b c) := fun a b c => by rw [apE, if_pos (by omega)]; rfl
  have hk1 : ∀ a b c, apE 1 a b c = some (a + b) := fun a b c => rfl
  simp (config := {decide := true}) [icQ, icF, icA, icC, ev, evAs, evB, burnB, burn, endS, s0I, e26, e27, e28, e29, e30, e31, hk, hk1]
theorem ic_runP3 (k : Nat) (h1 : 1 ≤ k) (h2 : k ≤ 25) (a b c : BitVec 64) : ∃ q, ev apE (icP a b c (icF k (icA 3))) (20 + 1) (.c 0 []) (s0I 100000) (fun _ => 0#64) 0 = some q ∧ (endS q.s q.v).out = false ∧ (endS q.s q.v).exit = 0#64 ∧ (endS q.s q.v).d 5 = a := by
  have e26 : ((k : Int) = 26) = False := eq_false (by omega)
  have e27 : ((k : Int) = 27) = False := eq_false (by omega)
  have e28 : ((k : Int) = 28) = False := eq_false (by omega)
  have e29 : ((k : Int) = 29) = False := eq_false (by omega)
  have e30 : ((k : Int) = 30) = False := eq_false (by omega)
  have e31 : ((k : Int) = 31) = False := eq_false (by omega)
  have hk : ∀ a b c, apE k a b c = some (apW k a b c) := fun a b c => by rw [apE, if_pos (by omega)]; rfl
  have hk1 : ∀ a b c, apE 1 a b c = some (a + b) := fun a b c => rfl
  have hk24 : ∀ a b c, apE 24 a b c = some (a ^^^ b) := fun a b c => rfl
  simp (config := {decide := true}) [icP, icF, icA, icC, ev, evAs, evB, burnB, burn, endS, s0I, e26, e27, e28, e29, e30, e31, hk, hk1, hk24]
theorem ic_runQ3 (k : Nat) (h1 : 1 ≤ k) (h2 : k ≤ 25) (a b c : BitVec 64) : ∃ q, ev apE (icQ a b c (icF k (icA 3))) (20 + 1) (.c 0 []) (s0I 100000) (fun _ => 0#64) 0 = some q ∧ (endS q.s q.v).out = false ∧ (endS q.s q.v).exit = apW k a b c := by
  have e26 : ((k : Int) = 26) = False := eq_false (by omega)
  have e27 : ((k : Int) = 27) = False := eq_false (by omega)
  have e28 : ((k : Int) = 28) = False := eq_false (by omega)
  have e29 : ((k : Int) = 29) = False := eq_false (by omega)
  have e30 : ((k : Int) = 30) = False := eq_false (by omega)
  have e31 : ((k : Int) = 31) = False := eq_false (by omega)
  have hk : ∀ a b c, apE k a b c = some (apW k a b c) := fun a b c => by rw [apE, if_pos (by omega)]; rfl
  have hk1 : ∀ a b c, apE 1 a b c = some (a + b) := fun a b c => rfl
  simp (config := {decide := true}) [icQ, icF, icA, icC, ev, evAs, evB, burnB, burn, endS, s0I, e26, e27, e28, e29, e30, e31, hk, hk1]
end Mv
