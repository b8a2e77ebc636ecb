/- What the machine's methods refuse. -/
import Derived.Test.YtfoaeafobdamcaaDoorT
import Derived.Test.YtfoaeafobdamcaaDoorW1
import Derived.Test.YtfoaeafobdamcaaDoorW3
import Derived.Test.YtfoaeafobdamcaaDoorW5
import Derived.Test.YtfoaeafobdamcaaDoorW4
set_option linter.unusedSimpArgs false
set_option linter.unusedVariables false
namespace Mv
open Go
/-- moot/mootlaw10.VmRuns -/
def c10 : LC := (.seq (.reg [A1 6 (.mv (.c (.bool false)))])
 ((.seq (.reg [⟨(some 25), .call 73 [(.c .nils)], none⟩,
  A1 24 (.mv (.t 25)),
  A1 26 (.ext (.t 24) 0),
  A1 27 (.ext (.t 24) 1),
  A1 7 (.mv (.t 26)),
  A1 8 (.mv (.t 27))])
 ((.seq (.reg [A1 29 (.mv (.t 0)),
  ⟨(some 30), .call 75 [(.t 29)], none⟩,
  ⟨(some 31), .call 74 [(.t 30)], none⟩,
  A1 28 (.mv (.t 31)),
  A1 32 (.ext (.t 28) 0),
  A1 33 (.ext (.t 28) 1),
  A1 9 (.mv (.t 32)),
  A1 10 (.mv (.t 33))])
 ((.seq (.reg [A1 35 (.mv (.t 0)),
  ⟨(some 36), .call 75 [(.t 35)], none⟩,
  ⟨(some 37), .call 74 [(.t 36)], none⟩,
  A1 34 (.mv (.t 37)),
  A1 38 (.ext (.t 34) 0),
  A1 39 (.ext (.t 34) 1),
  A1 11 (.mv (.t 38)),
  A1 12 (.mv (.t 39))])
 ((.seq ((.seq (.reg [⟨(some 40), .call 69 [], none⟩,
  A1 41 (.un .not (.t 40)),
  A1 42 (.mv (.t 41)),
  A2 43 42 false (.mv (.t 10)),
  A2 44 42 false (.eq true true (.iface [74]) (.t 43) (.c .nili)),
  A1 45 (.pick (.t 42) (.c (.bool true)) (.t 44)),
  A1 46 (.mv (.t 45)),
  A2 47 46 false (.mv (.t 12)),
  A2 48 46 false (.eq true true (.iface [74]) (.t 47) (.c .nili)),
  A1 49 (.pick (.t 46) (.c (.bool true)) (.t 48)),
  A1 50 (.mv (.t 49)),
  A2 51 50 false (.mv (.t 9)),
  A2 52 50 false (.eq false true .ptr (.t 51) (.c .nilp)),
  A1 53 (.pick (.t 50) (.c (.bool true)) (.t 52)),
  A1 54 (.mv (.t 53)),
  A2 55 54 false (.mv (.t 11)),
  A2 56 54 false (.eq false true .ptr (.t 55) (.c .nilp)),
  A1 57 (.pick (.t 54) (.c (.bool true)) (.t 56)),
  A1 58 (.mv (.t 57)),
  A2 59 58 false (.mv (.t 7)),
  A2 60 58 false (.eq false true .ptr (.t 59) (.c .nilp)),
  A1 61 (.pick (.t 58) (.c (.bool true)) (.t 60))])
 (.cond (.t 61) ((.seq (.reg [A1 6 (.mv (.c (.bool false)))])
 (.ret))) (.skip))))
 ((.seq (.reg [A1 62 (.mv (.t 1)),
  A1 63 (.conv .u64 (.t 62)),
  A1 64 (.ari .rem (.t 63) (.c (.int .u64 300))),
  A1 65 (.conv .i64 (.t 64)),
  A1 1 (.mv (.t 65))])
 ((.seq (.reg [A1 67 (.mv (.t 9)),
  A1 68 (.mv (.t 7)),
  A1 69 (.mv (.t 1)),
  ⟨(some 70), .call 71 [(.t 67), (.t 68), (.t 69)], none⟩,
  A1 66 (.mv (.t 70)),
  A1 71 (.ext (.t 66) 0),
  A1 72 (.ext (.t 66) 1),
  A1 13 (.mv (.t 71)),
  A1 10 (.mv (.t 72))])
 ((.seq (.reg [⟨(some 73), .call 68 [], none⟩,
  A1 14 (.mv (.t 73))])
 ((.seq (.reg [A1 15 (.mv (.c (.int .i64 0)))])
 ((.seq ((.seq (.reg [A1 74 (.mv (.t 1)),
  A1 75 (.mv (.c (.int .i64 0)))])
 (.block 0 (.loop ((.seq (.reg [A1 76 (.ari .lss (.t 75) (.t 74))])
 ((.seq (.cond (.t 76) (.skip) (.exit 0))
 ((.seq (.block 1 ((.seq ((.seq (.reg [A1 77 (.mv (.t 11)),
  A1 78 (.nilc (.t 77)),
  A1 79 (.fadr 8209 (.t 78)),
  A1 80 (.load false 1 (.t 79)),
  A1 81 (.un .not (.t 80))])
 (.cond (.t 81) (.reg [A1 82 (.mv (.t 15)),
  A1 83 (.ari .add (.t 82) (.c (.int .i64 1))),
  A1 15 (.mv (.t 83))]) (.skip))))
 ((.seq (.reg [A1 84 (.mv (.t 11)),
  A1 85 (.mv (.t 14)),
  ⟨(some 86), .call 70 [(.t 84), (.t 85)], none⟩,
  A1 87 (.eq true true (.iface [74]) (.t 86) (.c .nili))])
 (.cond (.t 87) ((.seq (.reg [A1 6 (.mv (.c (.bool false)))])
 (.ret))) (.skip)))))))
 (.reg [A1 88 (.ari .add (.t 75) (.c (.int .i64 1))),
  A1 75 (.mv (.t 88))])))))))))))
 ((.seq ((.seq (.regd [⟨0, 0, A1 89 (.mv (.t 10))⟩,
  ⟨1, 1, A1 90 (.eq true true (.iface [74]) (.t 89) (.c .nili))⟩,
  ⟨2, 3, A1 91 (.mv (.t 90))⟩,
  ⟨3, 7, A2 92 91 false (.mv (.t 13))⟩,
  ⟨4, 7, A2 93 91 false (.mv (.t 15))⟩,
  ⟨5, 31, A2 94 91 false (.ari .neq (.t 92) (.t 93))⟩,
  ⟨6, 63, A1 95 (.pick (.t 91) (.c (.bool true)) (.t 94))⟩,
  ⟨7, 127, A1 96 (.mv (.t 95))⟩,
  ⟨8, 255, A2 97 96 false (.mv (.t 9))⟩,
  ⟨9, 511, A2 98 96 false (.nilc (.t 97))⟩,
  ⟨10, 1023, A2 99 96 false (.load true 8211 (.t 98))⟩,
  ⟨11, 255, A2 100 96 false (.mv (.t 11))⟩,
  ⟨12, 2303, A2 101 96 false (.nilc (.t 100))⟩,
  ⟨13, 6399, A2 102 96 false (.load true 8211 (.t 101))⟩,
  ⟨14, 16383, A2 103 96 false (.eq true false (.st (.cons 0 8192 true (.ar 8192 1 false .int) (.cons 8192 16 true (.ar 16 1 false .int) (.cons 8208 1 false .int (.cons 8209 1 false .bool (.cons 8210 1 false .int .nil)))))) (.t 99) (.t 102))⟩,
  ⟨15, 32767, A1 104 (.pick (.t 96) (.c (.bool true)) (.t 103))⟩,
  ⟨16, 65535, A1 105 (.mv (.t 104))⟩,
  ⟨17, 131071, A2 106 105 false (.mv (.t 9))⟩,
  ⟨18, 262143, A2 107 105 false (.nilc (.t 106))⟩,
  ⟨19, 524287, A2 108 105 false (.fadr 8209 (.t 107))⟩,
  ⟨20, 1048575, A2 109 105 false (.load false 1 (.t 108))⟩,
  ⟨21, 131071, A2 110 105 false (.mv (.t 11))⟩,
  ⟨22, 2228223, A2 111 105 false (.nilc (.t 110))⟩,
  ⟨23, 6422527, A2 112 105 false (.fadr 8209 (.t 111))⟩,
  ⟨24, 14811135, A2 113 105 false (.load false 1 (.t 112))⟩,
  ⟨25, 33554431, A2 114 105 false (.eq true false .bool (.t 109) (.t 113))⟩,
  ⟨26, 67108863, A1 115 (.pick (.t 105) (.c (.bool true)) (.t 114))⟩,
  ⟨27, 134217727, A1 116 (.mv (.t 115))⟩,
  ⟨28, 268435455, A2 117 116 false (.mv (.t 9))⟩,
  ⟨29, 536870911, A2 118 116 false (.nilc (.t 117))⟩,
  ⟨30, 1073741823, A2 119 116 false (.fadr 8209 (.t 118))⟩,
  ⟨31, 2147483647, A2 120 116 false (.load false 1 (.t 119))⟩,
  ⟨32, 4294967295, A2 121 116 false (.un .not (.t 120))⟩,
  ⟨33, 8589934591, A2 122 116 false (.mv (.t 121))⟩,
  ⟨34, 17179869183, A2 123 122 true (.mv (.t 13))⟩,
  ⟨35, 17179869183, A2 124 122 true (.mv (.t 1))⟩,
  ⟨36, 68719476735, A2 125 122 true (.ari .neq (.t 123) (.t 124))⟩,
  ⟨37, 137438953471, A2 126 116 false (.pick (.t 122) (.t 125) (.c (.bool false)))⟩,
  ⟨38, 274877906943, A1 127 (.pick (.t 116) (.c (.bool true)) (.t 126))⟩])
 (.cond (.t 127) ((.seq (.reg [A1 6 (.mv (.c (.bool false)))])
 (.ret))) (.skip))))
 ((.seq ((.seq (.reg [A1 128 (.mv (.t 9)),
  A1 129 (.nilc (.t 128)),
  A1 130 (.fadr 8209 (.t 129)),
  A1 131 (.load false 1 (.t 130))])
 (.cond (.t 131) ((.seq (.reg [A1 132 (.mv (.t 9)),
  A1 133 (.nilc (.t 132)),
  A1 134 (.load true 8211 (.t 133)),
  A1 16 (.alloc (.st (.cons (.ar 8192 (.int .u64)) (.cons (.ar 16 (.int .u64)) (.cons (.int .u64) (.cons .bool (.cons (.int .u64) .nil))))))),
  A0 (.store 8211 (.t 16) (.t 134))])
 ((.seq (.reg [A1 136 (.mv (.t 9)),
  A1 137 (.mv (.t 7)),
  A1 138 (.mv (.t 2)),
  A1 139 (.conv .u64 (.t 138)),
  A1 140 (.ari .rem (.t 139) (.c (.int .u64 300))),
  A1 141 (.conv .i64 (.t 140)),
  ⟨(some 142), .call 71 [(.t 136), (.t 137), (.t 141)], none⟩,
  A1 135 (.mv (.t 142)),
  A1 143 (.ext (.t 135) 0),
  A1 144 (.ext (.t 135) 1),
  A1 17 (.mv (.t 143)),
  A1 18 (.mv (.t 144))])
 ((.seq (.regd [⟨0, 0, A1 145 (.mv (.t 17))⟩,
  ⟨1, 1, A1 146 (.ari .neq (.t 145) (.c (.int .i64 0)))⟩,
  ⟨2, 3, A1 147 (.mv (.t 146))⟩,
  ⟨3, 7, A2 148 147 false (.mv (.t 18))⟩,
  ⟨4, 15, A2 149 147 false (.eq true true (.iface [74]) (.t 148) (.c .nili))⟩,
  ⟨5, 31, A1 150 (.pick (.t 147) (.c (.bool true)) (.t 149))⟩,
  ⟨6, 63, A1 151 (.mv (.t 150))⟩,
  ⟨7, 127, A2 152 151 false (.mv (.t 9))⟩,
  ⟨8, 255, A2 153 151 false (.nilc (.t 152))⟩,
  ⟨9, 511, A2 154 151 false (.load true 8211 (.t 153))⟩,
  ⟨10, 127, A2 155 151 false (.load true 8211 (.t 16))⟩,
  ⟨11, 2047, A2 156 151 false (.eq true false (.st (.cons 0 8192 true (.ar 8192 1 false .int) (.cons 8192 16 true (.ar 16 1 false .int) (.cons 8208 1 false .int (.cons 8209 1 false .bool (.cons 8210 1 false .int .nil)))))) (.t 154) (.t 155))⟩,
  ⟨12, 4095, A1 157 (.pick (.t 151) (.c (.bool true)) (.t 156))⟩,
  ⟨13, 8191, A1 158 (.mv (.t 157))⟩,
  ⟨14, 16383, A2 159 158 false (.mv (.t 9))⟩,
  ⟨15, 16383, A2 160 158 false (.mv (.t 7))⟩,
  ⟨16, 65535, ⟨(some 161), .call 70 [(.t 159), (.t 160)], (some (158, false))⟩⟩,
  ⟨17, 131071, A2 162 158 false (.eq true true (.iface [74]) (.t 161) (.c .nili))⟩,
  ⟨18, 262143, A1 163 (.pick (.t 158) (.c (.bool true)) (.t 162))⟩,
  ⟨19, 524287, A1 164 (.mv (.t 163))⟩,
  ⟨20, 1048575, A2 165 164 false (.mv (.t 9))⟩,
  ⟨21, 2097151, A2 166 164 false (.nilc (.t 165))⟩,
  ⟨22, 4194303, A2 167 164 false (.load true 8211 (.t 166))⟩,
  ⟨23, 1048575, A2 168 164 false (.load true 8211 (.t 16))⟩,
  ⟨24, 16777215, A2 169 164 false (.eq true false (.st (.cons 0 8192 true (.ar 8192 1 false .int) (.cons 8192 16 true (.ar 16 1 false .int) (.cons 8208 1 false .int (.cons 8209 1 false .bool (.cons 8210 1 false .int .nil)))))) (.t 167) (.t 168))⟩,
  ⟨25, 33554431, A1 170 (.pick (.t 164) (.c (.bool true)) (.t 169))⟩])
 (.cond (.t 170) ((.seq (.reg [A1 6 (.mv (.c (.bool false)))])
 (.ret))) (.skip)))))))) (.skip))))
 ((.seq (.reg [A1 19 (.mv (.c .nilp))])
 ((.seq (.reg [A1 172 (.mv (.t 19)),
  A1 173 (.mv (.t 7)),
  ⟨(some 174), .call 71 [(.t 172), (.t 173), (.c (.int .i64 1))], none⟩,
  A1 171 (.mv (.t 174)),
  A1 175 (.ext (.t 171) 0),
  A1 176 (.ext (.t 171) 1),
  A1 10 (.mv (.t 176))])
 ((.seq (.reg [A1 178 (.mv (.t 9)),
  ⟨(some 179), .call 71 [(.t 178), (.c .nilp), (.c (.int .i64 1))], none⟩,
  A1 177 (.mv (.t 179)),
  A1 180 (.ext (.t 177) 0),
  A1 181 (.ext (.t 177) 1),
  A1 12 (.mv (.t 181))])
 ((.seq (.reg [A1 183 (.mv (.t 9)),
  A1 184 (.mv (.t 7)),
  ⟨(some 185), .call 71 [(.t 183), (.t 184), (.c (.int .i64 (-1)))], none⟩,
  A1 182 (.mv (.t 185)),
  A1 186 (.ext (.t 182) 0),
  A1 187 (.ext (.t 182) 1),
  A1 20 (.mv (.t 186)),
  A1 21 (.mv (.t 187))])
 ((.seq (.reg [A1 189 (.mksl 1 8 (.int .u64) (.c (.int .i64 8193)) (.c (.int .i64 8193))),
  ⟨(some 190), .call 74 [(.t 189)], none⟩,
  A1 188 (.mv (.t 190)),
  A1 191 (.ext (.t 188) 0),
  A1 192 (.ext (.t 188) 1),
  A1 22 (.mv (.t 191)),
  A1 23 (.mv (.t 192))])
 ((.seq (.reg [A1 193 (.mv (.t 10)),
  A1 194 (.mkif 74 (.c (.int .i64 1))),
  ⟨(some 195), .call 63 [(.t 193), (.t 194)], none⟩,
  A1 196 (.mv (.t 195)),
  A2 197 196 true (.mv (.t 12)),
  A2 198 196 true (.mkif 74 (.c (.int .i64 1))),
  ⟨(some 199), .call 63 [(.t 197), (.t 198)], (some (196, true))⟩,
  A1 200 (.pick (.t 196) (.t 199) (.c (.bool false))),
  A1 201 (.mv (.t 200)),
  A2 202 201 true (.mv (.t 19)),
  A2 203 201 true (.mv (.t 7)),
  ⟨(some 204), .call 70 [(.t 202), (.t 203)], (some (201, true))⟩,
  A2 205 201 true (.mkif 74 (.c (.int .i64 1))),
  ⟨(some 206), .call 63 [(.t 204), (.t 205)], (some (201, true))⟩,
  A1 207 (.pick (.t 201) (.t 206) (.c (.bool false))),
  A1 208 (.mv (.t 207)),
  A2 209 208 true (.mv (.t 9)),
  ⟨(some 210), .call 70 [(.t 209), (.c .nilp)], (some (208, true))⟩,
  A2 211 208 true (.mkif 74 (.c (.int .i64 1))),
  ⟨(some 212), .call 63 [(.t 210), (.t 211)], (some (208, true))⟩,
  A1 213 (.pick (.t 208) (.t 212) (.c (.bool false))),
  A1 214 (.mv (.t 213)),
  A2 215 214 true (.mv (.t 21)),
  A2 216 214 true (.mkif 74 (.c (.int .i64 2))),
  ⟨(some 217), .call 63 [(.t 215), (.t 216)], (some (214, true))⟩,
  A1 218 (.pick (.t 214) (.t 217) (.c (.bool false))),
  A1 219 (.mv (.t 218)),
  A2 220 219 true (.mv (.t 23)),
  A2 221 219 true (.mkif 74 (.c (.int .i64 5))),
  ⟨(some 222), .call 63 [(.t 220), (.t 221)], (some (219, true))⟩,
  A1 223 (.pick (.t 219) (.t 222) (.c (.bool false))),
  A1 224 (.mv (.t 223)),
  A2 225 224 true (.mv (.t 19)),
  ⟨(some 226), .call 49 [(.t 225)], (some (224, true))⟩,
  A2 227 224 true (.eq false true .ptr (.t 226) (.c .nilp)),
  A1 228 (.pick (.t 224) (.t 227) (.c (.bool false))),
  A1 6 (.mv (.t 228))])
 (.ret))))))))))))))))))))))))))))))))))))
def f10 : LF := ⟨c10, 3, 0, 229, [.tmp 6]⟩

end Mv
namespace Mv
open Go
set_option maxRecDepth 20000
set_option maxHeartbeats 4000000
set_option linter.unusedSimpArgs false

/-- An error of the program's. -/
def errV (n : Int) : V := .ifc 74 (.int .i64 n)
structure OkVR (M : Seat) : Prop where
  k10 : chkF M 10 f10 = true
  is : ∀ a b : Int, Runs M 63 [errV a, errV b] [] 0 (fun r H' k' => r = .bool (decide (a = b)) ∧ H' = [] ∧ k' = 0)

theorem runs_RunNilM {M : Seat} (ok : OkV M) : Runs M 71 [.nilp, .ptr 0 [], .int .i64 1] [] 1 (fun r H' k' => r = tup2 (.int .i64 0) (errV 1) ∧ H' = [] ∧ k' = 1) := by
  refine runs_fr ok.k71 rfl fun x hx => ?_
  refine ex_sound 2000 _ _ _ _ ?_; (simp (maxSteps := 4000000) only [f71, c71, LZ, seval, reduceCtorEq, forall_const])
  refine RetS.mk hx [0] [] _ _ _ (by decide) (by (simp only [LV, tup2, errV, LZ, seval, reduceCtorEq, forall_const])) (by ((try simp only [LV, tup2, errV, LZ, seval, reduceCtorEq, forall_const, LY, seval, reduceCtorEq, implies_true]); first | done | exact True.intro | (intros; rfl))) (by ((try simp only [tup2, errV, LY, seval, reduceCtorEq, implies_true]); first | done | exact True.intro | (intros; rfl))) ⟨rfl, rfl, rfl⟩
theorem runs_RunNilS {M : Seat} (ok : OkV M) : Runs M 71 [.ptr 0 [], .nilp, .int .i64 1] [] 1 (fun r H' k' => r = tup2 (.int .i64 0) (errV 1) ∧ H' = [] ∧ k' = 1) := by
  refine runs_fr ok.k71 rfl fun x hx => ?_
  refine ex_sound 2000 _ _ _ _ ?_; (simp (maxSteps := 4000000) only [f71, c71, LZ, seval, reduceCtorEq, forall_const])
  refine RetS.mk hx [0] [] _ _ _ (by decide) (by (simp only [LV, tup2, errV, LZ, seval, reduceCtorEq, forall_const])) (by ((try simp only [LV, tup2, errV, LZ, seval, reduceCtorEq, forall_const, LY, seval, reduceCtorEq, implies_true]); first | done | exact True.intro | (intros; rfl))) (by ((try simp only [tup2, errV, LY, seval, reduceCtorEq, implies_true]); first | done | exact True.intro | (intros; rfl))) ⟨rfl, rfl, rfl⟩
theorem runs_RunNeg {M : Seat} (ok : OkV M) : Runs M 71 [.ptr 0 [], .ptr 1 [], .int .i64 (-1)] [] 2 (fun r H' k' => r = tup2 (.int .i64 0) (errV 2) ∧ H' = [] ∧ k' = 2) := by
  refine runs_fr ok.k71 rfl fun x hx => ?_
  refine ex_sound 2000 _ _ _ _ ?_; (simp (maxSteps := 4000000) only [f71, c71, LZ, seval, reduceCtorEq, forall_const])
  refine RetS.mk hx [0, 1] [] _ _ _ (by decide) (by (simp only [LV, tup2, errV, LZ, seval, reduceCtorEq, forall_const])) (by ((try simp only [LV, tup2, errV, LZ, seval, reduceCtorEq, forall_const, LY, seval, reduceCtorEq, implies_true]); first | done | exact True.intro | (intros; rfl))) (by ((try simp only [tup2, errV, LY, seval, reduceCtorEq, implies_true]); first | done | exact True.intro | (intros; rfl))) ⟨rfl, rfl, rfl⟩
theorem runs_StepNilM {M : Seat} (ok : OkV M) : Runs M 70 [.nilp, .ptr 0 []] [] 1 (fun r H' k' => r = errV 1 ∧ H' = [] ∧ k' = 1) := by
  refine runs_fr ok.k70 rfl fun x hx => ?_
  refine ex_sound 2000 _ _ _ _ ?_; (simp (maxSteps := 4000000) only [f70, c70, LZ, seval, reduceCtorEq, forall_const])
  refine RetS.mk hx [0] [] _ _ _ (by decide) (by (simp only [LV, errV, LZ, seval, reduceCtorEq, forall_const])) (by ((try simp only [LV, errV, LZ, seval, reduceCtorEq, forall_const, LY, seval, reduceCtorEq, implies_true]); first | done | exact True.intro | (intros; rfl))) (by ((try simp only [errV, LY, seval, reduceCtorEq, implies_true]); first | done | exact True.intro | (intros; rfl))) ⟨rfl, rfl, rfl⟩
theorem runs_StepNilS {M : Seat} (ok : OkV M) : Runs M 70 [.ptr 0 [], .nilp] [] 1 (fun r H' k' => r = errV 1 ∧ H' = [] ∧ k' = 1) := by
  refine runs_fr ok.k70 rfl fun x hx => ?_
  refine ex_sound 2000 _ _ _ _ ?_; (simp (maxSteps := 4000000) only [f70, c70, LZ, seval, reduceCtorEq, forall_const])
  refine RetS.mk hx [0] [] _ _ _ (by decide) (by (simp only [LV, errV, LZ, seval, reduceCtorEq, forall_const])) (by ((try simp only [LV, errV, LZ, seval, reduceCtorEq, forall_const, LY, seval, reduceCtorEq, implies_true]); first | done | exact True.intro | (intros; rfl))) (by ((try simp only [errV, LY, seval, reduceCtorEq, implies_true]); first | done | exact True.intro | (intros; rfl))) ⟨rfl, rfl, rfl⟩
theorem runs_CopyNil {M : Seat} (okA : OkA M) : Runs M 49 [.nilp] [] 0 (fun r H' k' => r = .nilp ∧ H' = [] ∧ k' = 0) := by
  refine runs_fr okA.k49 rfl fun x hx => ?_
  refine ex_sound 2000 _ _ _ _ ?_; (simp (maxSteps := 4000000) only [f49, c49, LZ, seval, reduceCtorEq, forall_const])
  exact RetS.mkZ hx [] ⟨rfl, rfl, rfl⟩
theorem runs_LoadFull {M : Seat} (okA : OkA M) (f : Nat → V) : Runs M 74 [.lst 1 8193 f] [] 0 (fun r H' k' => r = tup2 .nilp (errV 5) ∧ H' = [] ∧ k' = 0) := by
  refine runs_fr okA.k74 rfl fun x hx => ?_
  refine ex_sound 2000 _ _ _ _ ?_; (simp (maxSteps := 4000000) only [f74, c74, LZ, seval, reduceCtorEq, forall_const])
  refine RetS.mk hx [] [] _ _ _ (by decide) (by (simp only [LV, tup2, errV, LZ, seval, reduceCtorEq, forall_const])) (by ((try simp only [LV, tup2, errV, LZ, seval, reduceCtorEq, forall_const, LY, seval, reduceCtorEq, implies_true]); first | done | exact True.intro | (intros; rfl))) (by ((try simp only [tup2, errV, LY, seval, reduceCtorEq, implies_true]); first | done | exact True.intro | (intros; rfl))) ⟨rfl, rfl, rfl⟩
theorem runs_RunHl {M : Seat} (ok : OkV M) (m : Mc) (hm : m.hl = true) (n : Nat) (hn : n < 9223372036854775808) :
    Runs M 71 [.ptr 0 [], .ptr 1 [], .int .i64 n] [(0, m.v)] 2 (fun r H' k' => r = tup2 (.int .i64 (0 : Nat)) .nili ∧ H' = [(0, m.v)] ∧ k' = 2) :=
  runs_Run ok (fun _ => m) 0 n (by omega) hn (fun i hi => absurd hi (Nat.not_lt_zero i)) (.inl hm)
end Mv
namespace Mv
open Go
set_option maxRecDepth 20000
set_option maxHeartbeats 4000000
set_option linter.unusedSimpArgs false

def m300 (n : Int) : Nat := (BitVec.ofInt 64 n % 300#64).toNat
theorem m300_lt (n : Int) : m300 n < 300 := by rw [m300, BitVec.toNat_umod]; exact Nat.mod_lt _ (by decide)
theorem m300_int (n : Int) : (BitVec.ofInt 64 n % 300#64).toInt = (m300 n : Int) := by
  have := m300_lt n
  rw [BitVec.toInt_eq_toNat_cond, if_pos (by unfold m300 at this; omega)]; rfl
def vrT : LC := (.seq ((.seq (.regd [⟨0, 0, A1 89 (.mv (.t 10))⟩,
  ⟨1, 1, A1 90 (.eq true true (.iface [74]) (.t 89) (.c .nili))⟩,
  ⟨2, 3, A1 91 (.mv (.t 90))⟩,
  ⟨3, 7, A2 92 91 false (.mv (.t 13))⟩,
  ⟨4, 7, A2 93 91 false (.mv (.t 15))⟩,
  ⟨5, 31, A2 94 91 false (.ari .neq (.t 92) (.t 93))⟩,
  ⟨6, 63, A1 95 (.pick (.t 91) (.c (.bool true)) (.t 94))⟩,
  ⟨7, 127, A1 96 (.mv (.t 95))⟩,
  ⟨8, 255, A2 97 96 false (.mv (.t 9))⟩,
  ⟨9, 511, A2 98 96 false (.nilc (.t 97))⟩,
  ⟨10, 1023, A2 99 96 false (.load true 8211 (.t 98))⟩,
  ⟨11, 255, A2 100 96 false (.mv (.t 11))⟩,
  ⟨12, 2303, A2 101 96 false (.nilc (.t 100))⟩,
  ⟨13, 6399, A2 102 96 false (.load true 8211 (.t 101))⟩,
  ⟨14, 16383, A2 103 96 false (.eq true false (.st (.cons 0 8192 true (.ar 8192 1 false .int) (.cons 8192 16 true (.ar 16 1 false .int) (.cons 8208 1 false .int (.cons 8209 1 false .bool (.cons 8210 1 false .int .nil)))))) (.t 99) (.t 102))⟩,
  ⟨15, 32767, A1 104 (.pick (.t 96) (.c (.bool true)) (.t 103))⟩,
  ⟨16, 65535, A1 105 (.mv (.t 104))⟩,
  ⟨17, 131071, A2 106 105 false (.mv (.t 9))⟩,
  ⟨18, 262143, A2 107 105 false (.nilc (.t 106))⟩,
  ⟨19, 524287, A2 108 105 false (.fadr 8209 (.t 107))⟩,
  ⟨20, 1048575, A2 109 105 false (.load false 1 (.t 108))⟩,
  ⟨21, 131071, A2 110 105 false (.mv (.t 11))⟩,
  ⟨22, 2228223, A2 111 105 false (.nilc (.t 110))⟩,
  ⟨23, 6422527, A2 112 105 false (.fadr 8209 (.t 111))⟩,
  ⟨24, 14811135, A2 113 105 false (.load false 1 (.t 112))⟩,
  ⟨25, 33554431, A2 114 105 false (.eq true false .bool (.t 109) (.t 113))⟩,
  ⟨26, 67108863, A1 115 (.pick (.t 105) (.c (.bool true)) (.t 114))⟩,
  ⟨27, 134217727, A1 116 (.mv (.t 115))⟩,
  ⟨28, 268435455, A2 117 116 false (.mv (.t 9))⟩,
  ⟨29, 536870911, A2 118 116 false (.nilc (.t 117))⟩,
  ⟨30, 1073741823, A2 119 116 false (.fadr 8209 (.t 118))⟩,
  ⟨31, 2147483647, A2 120 116 false (.load false 1 (.t 119))⟩,
  ⟨32, 4294967295, A2 121 116 false (.un .not (.t 120))⟩,
  ⟨33, 8589934591, A2 122 116 false (.mv (.t 121))⟩,
  ⟨34, 17179869183, A2 123 122 true (.mv (.t 13))⟩,
  ⟨35, 17179869183, A2 124 122 true (.mv (.t 1))⟩,
  ⟨36, 68719476735, A2 125 122 true (.ari .neq (.t 123) (.t 124))⟩,
  ⟨37, 137438953471, A2 126 116 false (.pick (.t 122) (.t 125) (.c (.bool false)))⟩,
  ⟨38, 274877906943, A1 127 (.pick (.t 116) (.c (.bool true)) (.t 126))⟩])
 (.cond (.t 127) ((.seq (.reg [A1 6 (.mv (.c (.bool false)))])
 (.ret))) (.skip))))
 ((.seq ((.seq (.reg [A1 128 (.mv (.t 9)),
  A1 129 (.nilc (.t 128)),
  A1 130 (.fadr 8209 (.t 129)),
  A1 131 (.load false 1 (.t 130))])
 (.cond (.t 131) ((.seq (.reg [A1 132 (.mv (.t 9)),
  A1 133 (.nilc (.t 132)),
  A1 134 (.load true 8211 (.t 133)),
  A1 16 (.alloc (.st (.cons (.ar 8192 (.int .u64)) (.cons (.ar 16 (.int .u64)) (.cons (.int .u64) (.cons .bool (.cons (.int .u64) .nil))))))),
  A0 (.store 8211 (.t 16) (.t 134))])
 ((.seq (.reg [A1 136 (.mv (.t 9)),
  A1 137 (.mv (.t 7)),
  A1 138 (.mv (.t 2)),
  A1 139 (.conv .u64 (.t 138)),
  A1 140 (.ari .rem (.t 139) (.c (.int .u64 300))),
  A1 141 (.conv .i64 (.t 140)),
  ⟨(some 142), .call 71 [(.t 136), (.t 137), (.t 141)], none⟩,
  A1 135 (.mv (.t 142)),
  A1 143 (.ext (.t 135) 0),
  A1 144 (.ext (.t 135) 1),
  A1 17 (.mv (.t 143)),
  A1 18 (.mv (.t 144))])
 ((.seq (.regd [⟨0, 0, A1 145 (.mv (.t 17))⟩,
  ⟨1, 1, A1 146 (.ari .neq (.t 145) (.c (.int .i64 0)))⟩,
  ⟨2, 3, A1 147 (.mv (.t 146))⟩,
  ⟨3, 7, A2 148 147 false (.mv (.t 18))⟩,
  ⟨4, 15, A2 149 147 false (.eq true true (.iface [74]) (.t 148) (.c .nili))⟩,
  ⟨5, 31, A1 150 (.pick (.t 147) (.c (.bool true)) (.t 149))⟩,
  ⟨6, 63, A1 151 (.mv (.t 150))⟩,
  ⟨7, 127, A2 152 151 false (.mv (.t 9))⟩,
  ⟨8, 255, A2 153 151 false (.nilc (.t 152))⟩,
  ⟨9, 511, A2 154 151 false (.load true 8211 (.t 153))⟩,
  ⟨10, 127, A2 155 151 false (.load true 8211 (.t 16))⟩,
  ⟨11, 2047, A2 156 151 false (.eq true false (.st (.cons 0 8192 true (.ar 8192 1 false .int) (.cons 8192 16 true (.ar 16 1 false .int) (.cons 8208 1 false .int (.cons 8209 1 false .bool (.cons 8210 1 false .int .nil)))))) (.t 154) (.t 155))⟩,
  ⟨12, 4095, A1 157 (.pick (.t 151) (.c (.bool true)) (.t 156))⟩,
  ⟨13, 8191, A1 158 (.mv (.t 157))⟩,
  ⟨14, 16383, A2 159 158 false (.mv (.t 9))⟩,
  ⟨15, 16383, A2 160 158 false (.mv (.t 7))⟩,
  ⟨16, 65535, ⟨(some 161), .call 70 [(.t 159), (.t 160)], (some (158, false))⟩⟩,
  ⟨17, 131071, A2 162 158 false (.eq true true (.iface [74]) (.t 161) (.c .nili))⟩,
  ⟨18, 262143, A1 163 (.pick (.t 158) (.c (.bool true)) (.t 162))⟩,
  ⟨19, 524287, A1 164 (.mv (.t 163))⟩,
  ⟨20, 1048575, A2 165 164 false (.mv (.t 9))⟩,
  ⟨21, 2097151, A2 166 164 false (.nilc (.t 165))⟩,
  ⟨22, 4194303, A2 167 164 false (.load true 8211 (.t 166))⟩,
  ⟨23, 1048575, A2 168 164 false (.load true 8211 (.t 16))⟩,
  ⟨24, 16777215, A2 169 164 false (.eq true false (.st (.cons 0 8192 true (.ar 8192 1 false .int) (.cons 8192 16 true (.ar 16 1 false .int) (.cons 8208 1 false .int (.cons 8209 1 false .bool (.cons 8210 1 false .int .nil)))))) (.t 167) (.t 168))⟩,
  ⟨25, 33554431, A1 170 (.pick (.t 164) (.c (.bool true)) (.t 169))⟩])
 (.cond (.t 170) ((.seq (.reg [A1 6 (.mv (.c (.bool false)))])
 (.ret))) (.skip)))))))) (.skip))))
 ((.seq (.reg [A1 19 (.mv (.c .nilp))])
 ((.seq (.reg [A1 172 (.mv (.t 19)),
  A1 173 (.mv (.t 7)),
  ⟨(some 174), .call 71 [(.t 172), (.t 173), (.c (.int .i64 1))], none⟩,
  A1 171 (.mv (.t 174)),
  A1 175 (.ext (.t 171) 0),
  A1 176 (.ext (.t 171) 1),
  A1 10 (.mv (.t 176))])
 ((.seq (.reg [A1 178 (.mv (.t 9)),
  ⟨(some 179), .call 71 [(.t 178), (.c .nilp), (.c (.int .i64 1))], none⟩,
  A1 177 (.mv (.t 179)),
  A1 180 (.ext (.t 177) 0),
  A1 181 (.ext (.t 177) 1),
  A1 12 (.mv (.t 181))])
 ((.seq (.reg [A1 183 (.mv (.t 9)),
  A1 184 (.mv (.t 7)),
  ⟨(some 185), .call 71 [(.t 183), (.t 184), (.c (.int .i64 (-1)))], none⟩,
  A1 182 (.mv (.t 185)),
  A1 186 (.ext (.t 182) 0),
  A1 187 (.ext (.t 182) 1),
  A1 20 (.mv (.t 186)),
  A1 21 (.mv (.t 187))])
 ((.seq (.reg [A1 189 (.mksl 1 8 (.int .u64) (.c (.int .i64 8193)) (.c (.int .i64 8193))),
  ⟨(some 190), .call 74 [(.t 189)], none⟩,
  A1 188 (.mv (.t 190)),
  A1 191 (.ext (.t 188) 0),
  A1 192 (.ext (.t 188) 1),
  A1 22 (.mv (.t 191)),
  A1 23 (.mv (.t 192))])
 ((.seq (.reg [A1 193 (.mv (.t 10)),
  A1 194 (.mkif 74 (.c (.int .i64 1))),
  ⟨(some 195), .call 63 [(.t 193), (.t 194)], none⟩,
  A1 196 (.mv (.t 195)),
  A2 197 196 true (.mv (.t 12)),
  A2 198 196 true (.mkif 74 (.c (.int .i64 1))),
  ⟨(some 199), .call 63 [(.t 197), (.t 198)], (some (196, true))⟩,
  A1 200 (.pick (.t 196) (.t 199) (.c (.bool false))),
  A1 201 (.mv (.t 200)),
  A2 202 201 true (.mv (.t 19)),
  A2 203 201 true (.mv (.t 7)),
  ⟨(some 204), .call 70 [(.t 202), (.t 203)], (some (201, true))⟩,
  A2 205 201 true (.mkif 74 (.c (.int .i64 1))),
  ⟨(some 206), .call 63 [(.t 204), (.t 205)], (some (201, true))⟩,
  A1 207 (.pick (.t 201) (.t 206) (.c (.bool false))),
  A1 208 (.mv (.t 207)),
  A2 209 208 true (.mv (.t 9)),
  ⟨(some 210), .call 70 [(.t 209), (.c .nilp)], (some (208, true))⟩,
  A2 211 208 true (.mkif 74 (.c (.int .i64 1))),
  ⟨(some 212), .call 63 [(.t 210), (.t 211)], (some (208, true))⟩,
  A1 213 (.pick (.t 208) (.t 212) (.c (.bool false))),
  A1 214 (.mv (.t 213)),
  A2 215 214 true (.mv (.t 21)),
  A2 216 214 true (.mkif 74 (.c (.int .i64 2))),
  ⟨(some 217), .call 63 [(.t 215), (.t 216)], (some (214, true))⟩,
  A1 218 (.pick (.t 214) (.t 217) (.c (.bool false))),
  A1 219 (.mv (.t 218)),
  A2 220 219 true (.mv (.t 23)),
  A2 221 219 true (.mkif 74 (.c (.int .i64 5))),
  ⟨(some 222), .call 63 [(.t 220), (.t 221)], (some (219, true))⟩,
  A1 223 (.pick (.t 219) (.t 222) (.c (.bool false))),
  A1 224 (.mv (.t 223)),
  A2 225 224 true (.mv (.t 19)),
  ⟨(some 226), .call 49 [(.t 225)], (some (224, true))⟩,
  A2 227 224 true (.eq false true .ptr (.t 226) (.c .nilp)),
  A1 228 (.pick (.t 224) (.t 227) (.c (.bool false))),
  A1 6 (.mv (.t 228))])
 (.ret))))))))))))))))
theorem vr_tail {M : Seat} (okA : OkA M) (ok : OkV M) (okR : OkVR M) (m : Mc) (n k : Nat) (hk : m.hl = false → k = n) (more : Int) {x : Ctx} (hx : x.k = 0) {A : List V} {H : Hp} {N : Nat}
    (hw : Weak M x A H N (fr 229 [(1, .int .i64 n), (2, .int .i64 more), (7, .ptr 1 []), (9, .ptr 0 []), (10, .nili), (11, .ptr 2 []), (13, .int .i64 k), (15, .int .i64 k)]) [(0, m.v), (2, m.v)] 3) :
    SemK M x (RetS M x [RVr.tmp 6] fun r H' k' => r = .bool true ∧ H' = [] ∧ k' = 0) [.code vrT] N A H := by
  refine SemK.weak _ _ _ hw ?_
  have hFv : ∀ m : Mc, m.v = mach m.f m.g m.pc m.hl m.xt := fun _ => rfl
  have d1 : ∀ a : Int, decide (a = a) = true := fun a => decide_eq_true rfl
  cases hm : m.hl
  case' false =>
    have e := hk hm
    subst e
    refine ex_sound 2000 _ _ _ _ ?_
    (simp (maxSteps := 4000000) only [vrT, hFv, hm, mach, esM_P, esM_V, LZ, seval, reduceCtorEq, forall_const])
  case' true =>
    have hr := runs_RunHl ok m hm (m300 more) (by have := m300_lt more; omega)
    rw [hFv, hm] at hr
    refine ex_sound 2000 _ _ _ _ ?_
    (simp (maxSteps := 4000000) only [vrT, hFv, hm, mach, esM_P, esM_V, m300_int, LZ, seval, reduceCtorEq, forall_const])
    refine call_mB [0, 1] [0] (hr) (by rfl) (by rfl) (by decide) (by rfl) (by rfl) (by ((try simp only [mach, LY, seval, reduceCtorEq, implies_true]); first | done | exact True.intro | rfl)) (by ((try simp only [mach, LY, seval, reduceCtorEq, implies_true]); first | done | exact True.intro | rfl)) (by simp only [mach, LX, implies_true]) (by simp only [mach, LX, implies_true]) ?_
    (simp (maxSteps := 4000000) only [tup2, mach, esM_P, esM_V, LZ, seval, reduceCtorEq, forall_const])
    refine opd_mB [0, 1] [0] (runs_StepHalted ok m.f m.g m.pc m.xt) (by rfl) (by rfl) (by decide) (by rfl) (by rfl) (by ((try simp only [mach, LY, seval, reduceCtorEq, implies_true]); first | done | exact True.intro | rfl)) (by ((try simp only [mach, LY, seval, reduceCtorEq, implies_true]); first | done | exact True.intro | rfl)) (by simp only [mach, LX, implies_true]) (by simp only [mach, LX, implies_true]) ?_
    (simp (maxSteps := 4000000) only [mach, esM_P, esM_V, LZ, seval, reduceCtorEq, forall_const])
  all_goals
    refine call_mB [1] [] (runs_RunNilM ok) (by rfl) (by rfl) (by decide) (by rfl) (by rfl) (by ((try simp only [errV, LY, seval, reduceCtorEq, implies_true]); first | done | exact True.intro | rfl)) (by ((try simp only [errV, LY, seval, reduceCtorEq, implies_true]); first | done | exact True.intro | rfl)) (by simp only [errV, LX, implies_true]) (by simp only [errV, LX, implies_true]) ?_
    (simp (maxSteps := 4000000) only [tup2, errV, LZ, seval, reduceCtorEq, forall_const])
    refine call_mB [0] [] (runs_RunNilS ok) (by rfl) (by rfl) (by decide) (by rfl) (by rfl) (by ((try simp only [errV, LY, seval, reduceCtorEq, implies_true]); first | done | exact True.intro | rfl)) (by ((try simp only [errV, LY, seval, reduceCtorEq, implies_true]); first | done | exact True.intro | rfl)) (by simp only [errV, LX, implies_true]) (by simp only [errV, LX, implies_true]) ?_
    (simp (maxSteps := 4000000) only [tup2, errV, LZ, seval, reduceCtorEq, forall_const])
    refine call_mB [0, 1] [] (runs_RunNeg ok) (by rfl) (by rfl) (by decide) (by rfl) (by rfl) (by ((try simp only [errV, LY, seval, reduceCtorEq, implies_true]); first | done | exact True.intro | rfl)) (by ((try simp only [errV, LY, seval, reduceCtorEq, implies_true]); first | done | exact True.intro | rfl)) (by simp only [errV, LX, implies_true]) (by simp only [errV, LX, implies_true]) ?_
    (simp (maxSteps := 4000000) only [tup2, errV, LZ, seval, reduceCtorEq, forall_const])
    refine call_pA (runs_LoadFull okA (fun _ => W 0#64)) (by ((try simp only [errV, LY, seval, reduceCtorEq, implies_true]); first | done | exact True.intro | rfl)) (by first | rfl | (simp only [LN, LP, V.ren, tup2, tup3])) (by simp only [errV, LX, implies_true]) ?_
    (simp (maxSteps := 4000000) only [tup2, errV, LZ, seval, reduceCtorEq, forall_const])
    refine call_pA (okR.is 1 1) (by ((try simp only [errV, LY, seval, reduceCtorEq, implies_true]); first | done | exact True.intro | rfl)) (by first | rfl | (simp only [LN, LP, V.ren, tup2, tup3])) (by simp only [errV, LX, implies_true]) ?_
    (simp (maxSteps := 4000000) only [d1, LZ, seval, reduceCtorEq, forall_const])
    refine call_pA (okR.is 1 1) (by ((try simp only [errV, LY, seval, reduceCtorEq, implies_true]); first | done | exact True.intro | rfl)) (by first | rfl | (simp only [LN, LP, V.ren, tup2, tup3])) (by simp only [errV, LX, implies_true]) ?_
    (simp (maxSteps := 4000000) only [d1, LZ, seval, reduceCtorEq, forall_const])
    refine call_mB [1] [] (runs_StepNilM ok) (by rfl) (by rfl) (by decide) (by rfl) (by rfl) (by ((try simp only [errV, LY, seval, reduceCtorEq, implies_true]); first | done | exact True.intro | rfl)) (by ((try simp only [errV, LY, seval, reduceCtorEq, implies_true]); first | done | exact True.intro | rfl)) (by simp only [errV, LX, implies_true]) (by simp only [errV, LX, implies_true]) ?_
    (simp (maxSteps := 4000000) only [errV, d1, LZ, seval, reduceCtorEq, forall_const])
    refine call_pA (okR.is 1 1) (by ((try simp only [errV, LY, seval, reduceCtorEq, implies_true]); first | done | exact True.intro | rfl)) (by first | rfl | (simp only [LN, LP, V.ren, tup2, tup3])) (by simp only [errV, LX, implies_true]) ?_
    (simp (maxSteps := 4000000) only [d1, LZ, seval, reduceCtorEq, forall_const])
    refine call_mB [0] [] (runs_StepNilS ok) (by rfl) (by rfl) (by decide) (by rfl) (by rfl) (by ((try simp only [errV, LY, seval, reduceCtorEq, implies_true]); first | done | exact True.intro | rfl)) (by ((try simp only [errV, LY, seval, reduceCtorEq, implies_true]); first | done | exact True.intro | rfl)) (by simp only [errV, LX, implies_true]) (by simp only [errV, LX, implies_true]) ?_
    (simp (maxSteps := 4000000) only [errV, d1, LZ, seval, reduceCtorEq, forall_const])
    refine call_pA (okR.is 1 1) (by ((try simp only [errV, LY, seval, reduceCtorEq, implies_true]); first | done | exact True.intro | rfl)) (by first | rfl | (simp only [LN, LP, V.ren, tup2, tup3])) (by simp only [errV, LX, implies_true]) ?_
    (simp (maxSteps := 4000000) only [d1, LZ, seval, reduceCtorEq, forall_const])
    refine call_pA (okR.is 2 2) (by ((try simp only [errV, LY, seval, reduceCtorEq, implies_true]); first | done | exact True.intro | rfl)) (by first | rfl | (simp only [LN, LP, V.ren, tup2, tup3])) (by simp only [errV, LX, implies_true]) ?_
    (simp (maxSteps := 4000000) only [d1, LZ, seval, reduceCtorEq, forall_const])
    refine call_pA (okR.is 5 5) (by ((try simp only [errV, LY, seval, reduceCtorEq, implies_true]); first | done | exact True.intro | rfl)) (by first | rfl | (simp only [LN, LP, V.ren, tup2, tup3])) (by simp only [errV, LX, implies_true]) ?_
    (simp (maxSteps := 4000000) only [d1, LZ, seval, reduceCtorEq, forall_const])
    refine call_pZ (runs_CopyNil okA) ?_
    (simp (maxSteps := 4000000) only [LZ, seval, reduceCtorEq, forall_const])
    exact RetS.mkZ hx [] ⟨rfl, rfl, rfl⟩
end Mv
