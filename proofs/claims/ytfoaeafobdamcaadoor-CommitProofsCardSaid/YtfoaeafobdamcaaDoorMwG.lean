/- CommitProofs. -/
import Derived.Test.YtfoaeafobdamcaaDoorMwF
import Derived.Test.YtfoaeafobdamcaaDoorMwU
import Derived.Test.YtfoaeafobdamcaaDoorEg
set_option linter.unusedSimpArgs false
set_option linter.unusedVariables false
namespace Mv
open Go
set_option maxRecDepth 20000
set_option maxHeartbeats 4000000
set_option linter.unusedSimpArgs false

theorem cpA {M : Seat} (ok : OkA M) (okC : OkC M) (hne : foldN 5 (leafD 1) (pth (fun _ => 0) 5) 13 ≠ nought 13) (cs : List (BitVec 64 × BitVec 64)) (cv : V) (hcv : cv = cellsV cs ∨ (cv = .nils ∧ cs = [])) (hcl : cs.length < 9223372036854775808)
    (place v : BitVec 64) (at' : Int) (turn : BitVec 8) (h8 : 8192#64 ≤ place) :
    Runs M 5 [cv, W place, W v, .int .i64 at', B turn] [] 0 (fun r H' k' => r = .bool true ∧ H' = [] ∧ k' = 0) := by
  refine runs_fr okC.k5 rfl fun x hx => ?_
  have hcvS : ∀ H m z, SimV H m z cv cv := by
    intro H m z
    rcases hcv with h | ⟨h, _⟩ <;> subst h
    · simp only [cellsV, cellV, Dg.at_zero, Sim_mach, solid_mach, LT, LP, SimL, SimA, Sim, SimH, frzA, frzX, hget, hhas, V.ok, V.get, V.fget, V.fhas, seval, reduceCtorEq, implies_true]
    · simp only [SimV_nils, Sim]
  refine ex_sound 2000 _ _ _ _ ?_
  (simp (maxSteps := 4000000) only [f5, c5, eq_true h8, LG, LP, LN, V.ren, renH, hrest, numsF, epk, epochs, Mv.hx, idsOK, bs, wmask, LK.isW, LK.isA, LK.isP, num, X.ev, vbuild, vbuildOK, vcaps, vcapsOK, hget, hset, hdel, hhas, padd, V.ok, V.get, V.set, V.fget, V.fhas, V.fset, noR, Z.v, Z.sz, dropTo, seval, reduceCtorEq, forall_const])
  refine call_fA (runs_laid ok cs cv hcv hcl [] .nils (.inr ⟨rfl, rfl⟩) (by simp) 0 false 0) (by decide) (by ((try simp only [hcvS, Dg.at_zero, Sim_mach, solid_mach, LT, LP, SimL, SimA, Sim, SimH, frzA, frzX, hget, hhas, V.ok, V.get, V.fget, V.fhas, seval, reduceCtorEq, implies_true]); first | done | exact True.intro | rfl)) (by simp only [hcvS, tup2, tup3, laidH, refm, mach, NoIm, NoIm_W, NoIm_B, NoIm_dg', NoImL, errV, implies_true, and_self]) (by simp only [hcvS, tup2, tup3, laidH, refm, mach, NoIm, NoIm_W, NoIm_B, NoIm_dg', NoImL, errV, implies_true, and_self]) ?_
  generalize memF cs (min cs.length 100) = f
  generalize regF [] (min ([] : List (BitVec 64)).length 16) = g
  (simp (maxSteps := 4000000) only [tup2, laidH, refm, ren_mach, LG, LP, LN, V.ren, renH, hrest, numsF, epk, epochs, Mv.hx, idsOK, bs, wmask, LK.isW, LK.isA, LK.isP, num, X.ev, vbuild, vbuildOK, vcaps, vcapsOK, hget, hset, hdel, hhas, padd, V.ok, V.get, V.set, V.fget, V.fhas, V.fset, noR, Z.v, Z.sz, dropTo, seval, reduceCtorEq, forall_const])
  refine call_pA (runs_fixed ok hne) (by ((try simp only [Dg.at_zero, Sim_mach, solid_mach, LT, LP, SimL, SimA, Sim, SimH, frzA, frzX, hget, hhas, V.ok, V.get, V.fget, V.fhas, seval, reduceCtorEq, implies_true]); first | done | exact True.intro | rfl)) (by first | rfl | (simp only [LN, LP, V.ren, tup2, tup3])) (by simp only [tup2, tup3, laidH, refm, mach, NoIm, NoIm_W, NoIm_B, NoIm_dg', NoImL, errV, implies_true, and_self]) ?_
  (simp (maxSteps := 4000000) only [LG, LP, LN, V.ren, renH, hrest, numsF, epk, epochs, Mv.hx, idsOK, bs, wmask, LK.isW, LK.isA, LK.isP, num, X.ev, vbuild, vbuildOK, vcaps, vcapsOK, hget, hset, hdel, hhas, padd, V.ok, V.get, V.set, V.fget, V.fhas, V.fset, noR, Z.v, Z.sz, dropTo, seval, reduceCtorEq, forall_const])
  refine call_pA (runs_ProveRange ok f g 0 false 0 place h8) (by ((try simp only [prfV, Dg.at_zero, Sim_mach, solid_mach, LT, LP, SimL, SimA, Sim, SimH, frzA, frzX, hget, hhas, V.ok, V.get, V.fget, V.fhas, seval, reduceCtorEq, implies_true]); first | done | exact True.intro | rfl)) (by first | rfl | (simp only [LN, LP, V.ren, tup2, tup3])) (by simp only [prfV, tup2, tup3, laidH, refm, mach, NoIm, NoIm_W, NoIm_B, NoIm_dg', NoImL, errV, implies_true, and_self]) ?_
  (simp (maxSteps := 4000000) only [tup2, prfV, errV, LG, LP, LN, V.ren, renH, hrest, numsF, epk, epochs, Mv.hx, idsOK, bs, wmask, LK.isW, LK.isA, LK.isP, num, X.ev, vbuild, vbuildOK, vcaps, vcapsOK, hget, hset, hdel, hhas, padd, V.ok, V.get, V.set, V.fget, V.fhas, V.fset, noR, Z.v, Z.sz, dropTo, seval, reduceCtorEq, forall_const])
  refine call_pA (runs_cRoot ok f g 0 false 0) (by ((try simp only [Dg.at_zero, Sim_mach, solid_mach, LT, LP, SimL, SimA, Sim, SimH, frzA, frzX, hget, hhas, V.ok, V.get, V.fget, V.fhas, seval, reduceCtorEq, implies_true]); first | done | exact True.intro | rfl)) (by first | rfl | (simp only [LN, LP, V.ren, tup2, tup3])) (by simp only [tup2, tup3, laidH, refm, mach, NoIm, NoIm_W, NoIm_B, NoIm_dg', NoImL, errV, implies_true, and_self]) ?_
  (simp (maxSteps := 4000000) only [tup2, eq_true h8, LG, LP, LN, V.ren, renH, hrest, numsF, epk, epochs, Mv.hx, idsOK, bs, wmask, LK.isW, LK.isA, LK.isP, num, X.ev, vbuild, vbuildOK, vcaps, vcapsOK, hget, hset, hdel, hhas, padd, V.ok, V.get, V.set, V.fget, V.fhas, V.fset, noR, Z.v, Z.sz, dropTo, seval, reduceCtorEq, forall_const])
  refine call_pA (runs_HoldsRange ok (memN f 13 0) place h8 0) (by ((try simp only [prfV, Dg.at_zero, Sim_mach, solid_mach, LT, LP, SimL, SimA, Sim, SimH, frzA, frzX, hget, hhas, V.ok, V.get, V.fget, V.fhas, seval, reduceCtorEq, implies_true]); first | done | exact True.intro | rfl)) (by first | rfl | (simp only [LN, LP, V.ren, tup2, tup3])) (by simp only [prfV, tup2, tup3, laidH, refm, mach, NoIm, NoIm_W, NoIm_B, NoIm_dg', NoImL, errV, implies_true, and_self]) ?_
  (simp (maxSteps := 4000000) only [tup2, errV, LG, LP, LN, V.ren, renH, hrest, numsF, epk, epochs, Mv.hx, idsOK, bs, wmask, LK.isW, LK.isA, LK.isP, num, X.ev, vbuild, vbuildOK, vcaps, vcapsOK, hget, hset, hdel, hhas, padd, V.ok, V.get, V.set, V.fget, V.fhas, V.fset, noR, Z.v, Z.sz, dropTo, seval, reduceCtorEq, forall_const])
  refine call_pA (runs_WriteRange ok (memN f 13 0) place h8 0 v) (by ((try simp only [prfV, Dg.at_zero, Sim_mach, solid_mach, LT, LP, SimL, SimA, Sim, SimH, frzA, frzX, hget, hhas, V.ok, V.get, V.fget, V.fhas, seval, reduceCtorEq, implies_true]); first | done | exact True.intro | rfl)) (by first | rfl | (simp only [LN, LP, V.ren, tup2, tup3])) (by simp only [prfV, tup2, tup3, laidH, refm, mach, NoIm, NoIm_W, NoIm_B, NoIm_dg', NoImL, errV, implies_true, and_self]) ?_
  (simp (maxSteps := 4000000) only [tup2, errV, LG, LP, LN, V.ren, renH, hrest, numsF, epk, epochs, Mv.hx, idsOK, bs, wmask, LK.isW, LK.isA, LK.isP, num, X.ev, vbuild, vbuildOK, vcaps, vcapsOK, hget, hset, hdel, hhas, padd, V.ok, V.get, V.set, V.fget, V.fhas, V.fset, noR, Z.v, Z.sz, dropTo, seval, reduceCtorEq, forall_const])
  refine call_pA (okC.is 2 2) (by ((try simp only [errV, Dg.at_zero, Sim_mach, solid_mach, LT, LP, SimL, SimA, Sim, SimH, frzA, frzX, hget, hhas, V.ok, V.get, V.fget, V.fhas, seval, reduceCtorEq, implies_true]); first | done | exact True.intro | rfl)) (by first | rfl | (simp only [LN, LP, V.ren, tup2, tup3])) (by simp only [errV, tup2, tup3, laidH, refm, mach, NoIm, NoIm_W, NoIm_B, NoIm_dg', NoImL, errV, implies_true, and_self]) ?_
  (simp (maxSteps := 4000000) only [LG, LP, LN, V.ren, renH, hrest, numsF, epk, epochs, Mv.hx, idsOK, bs, wmask, LK.isW, LK.isA, LK.isP, num, X.ev, vbuild, vbuildOK, vcaps, vcapsOK, hget, hset, hdel, hhas, padd, V.ok, V.get, V.set, V.fget, V.fhas, V.fset, noR, Z.v, Z.sz, dropTo, seval, reduceCtorEq, forall_const])
  refine call_pA (okC.is 2 2) (by ((try simp only [errV, Dg.at_zero, Sim_mach, solid_mach, LT, LP, SimL, SimA, Sim, SimH, frzA, frzX, hget, hhas, V.ok, V.get, V.fget, V.fhas, seval, reduceCtorEq, implies_true]); first | done | exact True.intro | rfl)) (by first | rfl | (simp only [LN, LP, V.ren, tup2, tup3])) (by simp only [errV, tup2, tup3, laidH, refm, mach, NoIm, NoIm_W, NoIm_B, NoIm_dg', NoImL, errV, implies_true, and_self]) ?_
  (simp (maxSteps := 4000000) only [LG, LP, LN, V.ren, renH, hrest, numsF, epk, epochs, Mv.hx, idsOK, bs, wmask, LK.isW, LK.isA, LK.isP, num, X.ev, vbuild, vbuildOK, vcaps, vcapsOK, hget, hset, hdel, hhas, padd, V.ok, V.get, V.set, V.fget, V.fhas, V.fset, noR, Z.v, Z.sz, dropTo, seval, reduceCtorEq, forall_const])
  refine call_pA (okC.is 2 2) (by ((try simp only [errV, Dg.at_zero, Sim_mach, solid_mach, LT, LP, SimL, SimA, Sim, SimH, frzA, frzX, hget, hhas, V.ok, V.get, V.fget, V.fhas, seval, reduceCtorEq, implies_true]); first | done | exact True.intro | rfl)) (by first | rfl | (simp only [LN, LP, V.ren, tup2, tup3])) (by simp only [errV, tup2, tup3, laidH, refm, mach, NoIm, NoIm_W, NoIm_B, NoIm_dg', NoImL, errV, implies_true, and_self]) ?_
  (simp (maxSteps := 4000000) only [LG, LP, LN, V.ren, renH, hrest, numsF, epk, epochs, Mv.hx, idsOK, bs, wmask, LK.isW, LK.isA, LK.isP, num, X.ev, vbuild, vbuildOK, vcaps, vcapsOK, hget, hset, hdel, hhas, padd, V.ok, V.get, V.set, V.fget, V.fhas, V.fset, noR, Z.v, Z.sz, dropTo, seval, reduceCtorEq, forall_const])
  refine RetS.mk hx [] [] (.bool true) [] 0 (by decide) (by (simp only [res, resPs, resP, tupP, resV, tup2, tup3, dg, LG, LP, LN, V.ren, renH, hrest, numsF, epk, epochs, Mv.hx, idsOK, bs, wmask, LK.isW, LK.isA, LK.isP, num, X.ev, vbuild, vbuildOK, vcaps, vcapsOK, hget, hset, hdel, hhas, padd, V.ok, V.get, V.set, V.fget, V.fhas, V.fset, noR, Z.v, Z.sz, dropTo, seval, reduceCtorEq, forall_const])) (by ((try simp only [res, resV, tupV, tup2, tup3, LG, LP, LN, V.ren, renH, hrest, numsF, epk, epochs, Mv.hx, idsOK, bs, wmask, LK.isW, LK.isA, LK.isP, num, X.ev, vbuild, vbuildOK, vcaps, vcapsOK, hget, hset, hdel, hhas, padd, V.ok, V.get, V.set, V.fget, V.fhas, V.fset, noR, Z.v, Z.sz, dropTo, seval, reduceCtorEq, forall_const, Dg.at_zero, Sim_mach, solid_mach, LT, LP, SimL, SimA, Sim, SimH, frzA, frzX, hget, hhas, V.ok, V.get, V.fget, V.fhas, seval, reduceCtorEq, implies_true, dg]); first | done | exact True.intro | (intros; rfl))) trivial ⟨rfl, rfl, rfl⟩


def cpTC : LC := (.seq ((.seq (.regd [⟨0, 0, ⟨(some 101), .lo (.mv (.t 14)), none⟩⟩,
  ⟨1, 1, ⟨(some 102), .lo (.eq true true (.iface [74]) (.t 101) (.c .nili)), none⟩⟩,
  ⟨2, 3, ⟨(some 103), .lo (.mv (.t 102)), none⟩⟩,
  ⟨3, 7, ⟨(some 104), .lo (.mv (.t 16)), (some (103, false))⟩⟩,
  ⟨4, 15, ⟨(some 105), .lo (.eq true true (.iface [74]) (.t 104) (.c .nili)), (some (103, false))⟩⟩,
  ⟨5, 31, ⟨(some 106), .lo (.pick (.t 103) (.c (.bool true)) (.t 105)), none⟩⟩,
  ⟨6, 63, ⟨(some 107), .lo (.mv (.t 106)), none⟩⟩,
  ⟨7, 127, ⟨(some 108), .lo (.fadr 0 (.t 13)), (some (107, false))⟩⟩,
  ⟨8, 255, ⟨(some 109), .lo (.load false 1 (.t 108)), (some (107, false))⟩⟩,
  ⟨9, 127, ⟨(some 110), .lo (.mv (.t 12)), (some (107, false))⟩⟩,
  ⟨10, 639, ⟨(some 111), .lo (.nilc (.t 110)), (some (107, false))⟩⟩,
  ⟨11, 1663, ⟨(some 112), .lo (.fadr 0 (.t 111)), (some (107, false))⟩⟩,
  ⟨12, 3711, ⟨(some 113), .lo (.load false 1 (.t 112)), (some (107, false))⟩⟩,
  ⟨13, 127, ⟨(some 114), .lo (.mv (.t 1)), (some (107, false))⟩⟩,
  ⟨14, 15999, ⟨(some 115), .lo (.isl 1 (.t 113) (.t 114)), (some (107, false))⟩⟩,
  ⟨15, 32383, ⟨(some 116), .lo (.load false 1 (.t 115)), (some (107, false))⟩⟩,
  ⟨16, 65535, ⟨(some 117), .lo (.ari .neq (.t 109) (.t 116)), (some (107, false))⟩⟩,
  ⟨17, 131071, ⟨(some 118), .lo (.pick (.t 107) (.c (.bool true)) (.t 117)), none⟩⟩,
  ⟨18, 262143, ⟨(some 119), .lo (.mv (.t 118)), none⟩⟩,
  ⟨19, 524287, ⟨(some 120), .lo (.fadr 1 (.t 13)), (some (119, false))⟩⟩,
  ⟨20, 1048575, ⟨(some 121), .lo (.load false 1 (.t 120)), (some (119, false))⟩⟩,
  ⟨21, 2097151, ⟨(some 122), .lo (.len 0 (.t 121)), (some (119, false))⟩⟩,
  ⟨22, 4194303, ⟨(some 123), .lo (.ari .neq (.t 122) (.c (.int .i64 13))), (some (119, false))⟩⟩,
  ⟨23, 8388607, ⟨(some 124), .lo (.pick (.t 119) (.c (.bool true)) (.t 123)), none⟩⟩])
 (.cond (.t 124) ((.seq (.reg [⟨(some 10), .lo (.mv (.c (.bool false))), none⟩])
 (.ret))) (.skip))))
 ((.seq ((.seq (.reg [⟨(some 125), .lo (.mv (.t 21)), none⟩,
  ⟨(some 126), .lo (.len 0 (.t 125)), none⟩,
  ⟨(some 127), .lo (.mv (.c (.int .i64 0))), none⟩])
 (.block 0 (.loop ((.seq (.reg [⟨(some 128), .lo (.ari .lss (.t 127) (.t 126)), none⟩])
 ((.seq (.cond (.t 128) (.skip) (.exit 0))
 ((.seq (.block 1 ((.seq (.reg [⟨(some 129), .lo (.mv (.t 127)), none⟩,
  ⟨(some 23), .lo (.mv (.t 129)), none⟩])
 ((.seq (.regd [⟨0, 0, ⟨(some 130), .lo (.fadr 1 (.t 13)), none⟩⟩,
  ⟨1, 1, ⟨(some 131), .lo (.load false 1 (.t 130)), none⟩⟩,
  ⟨2, 0, ⟨(some 132), .lo (.mv (.t 23)), none⟩⟩,
  ⟨3, 7, ⟨(some 133), .lo (.isl 32 (.t 131) (.t 132)), none⟩⟩,
  ⟨4, 15, ⟨(some 134), .lo (.load true 32 (.t 133)), none⟩⟩,
  ⟨5, 0, ⟨(some 135), .lo (.mv (.t 21)), none⟩⟩,
  ⟨6, 0, ⟨(some 136), .lo (.mv (.t 23)), none⟩⟩,
  ⟨7, 96, ⟨(some 137), .lo (.isl 32 (.t 135) (.t 136)), none⟩⟩,
  ⟨8, 224, ⟨(some 138), .lo (.load true 32 (.t 137)), none⟩⟩,
  ⟨9, 511, ⟨(some 139), .lo (.eq true false (.ar 32 1 false .int) (.t 134) (.t 138)), none⟩⟩])
 (.cond (.t 139) ((.seq (.reg [⟨(some 10), .lo (.mv (.c (.bool false))), none⟩])
 (.ret))) (.skip)))))))
 (.reg [⟨(some 140), .lo (.ari .add (.t 127) (.c (.int .i64 1))), none⟩,
  ⟨(some 127), .lo (.mv (.t 140)), none⟩])))))))))))
 ((.seq (.reg [⟨(some 142), .lo (.load true 32 (.t 15)), none⟩,
  ⟨(some 143), .lo (.mv (.t 1)), none⟩,
  ⟨(some 144), .lo (.load true 2 (.t 13)), none⟩,
  ⟨(some 145), .call 53 [(.t 142), (.t 143), (.t 144)], none⟩,
  ⟨(some 141), .lo (.mv (.t 145)), none⟩,
  ⟨(some 146), .lo (.ext (.t 141) 0), none⟩,
  ⟨(some 147), .lo (.ext (.t 141) 1), none⟩,
  ⟨(some 24), .lo (.mv (.t 146)), none⟩,
  ⟨(some 25), .lo (.mv (.t 147)), none⟩])
 ((.seq (.reg [⟨(some 149), .lo (.load true 32 (.t 15)), none⟩,
  ⟨(some 150), .lo (.mv (.t 1)), none⟩,
  ⟨(some 151), .lo (.load true 2 (.t 13)), none⟩,
  ⟨(some 152), .lo (.mv (.t 2)), none⟩,
  ⟨(some 153), .call 52 [(.t 149), (.t 150), (.t 151), (.t 152)], none⟩,
  ⟨(some 148), .lo (.mv (.t 153)), none⟩,
  ⟨(some 154), .lo (.ext (.t 148) 0), none⟩,
  ⟨(some 155), .lo (.ext (.t 148) 1), none⟩,
  ⟨(some 26), .lo (.alloc (.ar 32 (.int .u8))), none⟩,
  ⟨none, .lo (.store 32 (.t 26) (.t 154)), none⟩,
  ⟨(some 27), .lo (.mv (.t 155)), none⟩])
 ((.seq (.reg [⟨(some 156), .lo (.mv (.t 11)), none⟩,
  ⟨(some 157), .lo (.mv (.t 1)), none⟩,
  ⟨(some 158), .lo (.mv (.t 2)), none⟩,
  ⟨(some 159), .lo (.nilc (.t 156)), none⟩,
  ⟨(some 160), .lo (.fadr 0 (.t 159)), none⟩,
  ⟨(some 161), .lo (.iarr 8192 1 (.t 160) (.t 157)), none⟩,
  ⟨none, .lo (.store 1 (.t 161) (.t 158)), none⟩])
 ((.seq (.reg [⟨(some 163), .lo (.mv (.t 11)), none⟩,
  ⟨(some 164), .call 51 [(.t 163)], none⟩,
  ⟨(some 162), .lo (.mv (.t 164)), none⟩,
  ⟨(some 165), .lo (.ext (.t 162) 0), none⟩,
  ⟨(some 166), .lo (.ext (.t 162) 1), none⟩,
  ⟨(some 28), .lo (.alloc (.ar 32 (.int .u8))), none⟩,
  ⟨none, .lo (.store 32 (.t 28) (.t 165)), none⟩,
  ⟨(some 29), .lo (.mv (.t 166)), none⟩])
 ((.seq ((.seq (.reg [⟨(some 167), .lo (.mv (.t 25)), none⟩,
  ⟨(some 168), .lo (.eq true true (.iface [74]) (.t 167) (.c .nili)), none⟩,
  ⟨(some 169), .lo (.mv (.t 168)), none⟩,
  ⟨(some 170), .lo (.mv (.t 27)), (some (169, false))⟩,
  ⟨(some 171), .lo (.eq true true (.iface [74]) (.t 170) (.c .nili)), (some (169, false))⟩,
  ⟨(some 172), .lo (.pick (.t 169) (.c (.bool true)) (.t 171)), none⟩,
  ⟨(some 173), .lo (.mv (.t 172)), none⟩,
  ⟨(some 174), .lo (.mv (.t 29)), (some (173, false))⟩,
  ⟨(some 175), .lo (.eq true true (.iface [74]) (.t 174) (.c .nili)), (some (173, false))⟩,
  ⟨(some 176), .lo (.pick (.t 173) (.c (.bool true)) (.t 175)), none⟩,
  ⟨(some 177), .lo (.mv (.t 176)), none⟩,
  ⟨(some 178), .lo (.mv (.t 24)), (some (177, false))⟩,
  ⟨(some 179), .lo (.un .not (.t 178)), (some (177, false))⟩,
  ⟨(some 180), .lo (.pick (.t 177) (.c (.bool true)) (.t 179)), none⟩,
  ⟨(some 181), .lo (.mv (.t 180)), none⟩,
  ⟨(some 182), .lo (.load true 32 (.t 26)), (some (181, false))⟩,
  ⟨(some 183), .lo (.load true 32 (.t 28)), (some (181, false))⟩,
  ⟨(some 184), .lo (.eq true false (.ar 32 1 false .int) (.t 182) (.t 183)), (some (181, false))⟩,
  ⟨(some 185), .lo (.pick (.t 181) (.c (.bool true)) (.t 184)), none⟩])
 (.cond (.t 185) ((.seq (.reg [⟨(some 10), .lo (.mv (.c (.bool false))), none⟩])
 (.ret))) (.skip))))
 ((.seq (.regd [⟨0, 0, ⟨(some 187), .lo (.load true 32 (.t 15)), none⟩⟩,
  ⟨1, 0, ⟨(some 188), .lo (.mv (.t 1)), none⟩⟩,
  ⟨2, 0, ⟨(some 189), .lo (.fadr 0 (.t 13)), none⟩⟩,
  ⟨3, 4, ⟨(some 190), .lo (.load false 1 (.t 189)), none⟩⟩,
  ⟨4, 0, ⟨(some 191), .lo (.fadr 1 (.t 13)), none⟩⟩,
  ⟨5, 16, ⟨(some 192), .lo (.load false 1 (.t 191)), none⟩⟩,
  ⟨6, 48, ⟨(some 193), .lo (.slsl 32 (.t 192) none (some (.c (.int .i64 12)))), none⟩⟩,
  ⟨7, 124, ⟨(some 194), .lo (.build (.st (.cons (.int .u64) (.cons .slice .nil))) [(.f 0, 1, (.t 190)), (.f 1, 1, (.t 193))]), none⟩⟩,
  ⟨8, 255, ⟨(some 195), .call 53 [(.t 187), (.t 188), (.t 194)], none⟩⟩,
  ⟨9, 511, ⟨(some 186), .lo (.mv (.t 195)), none⟩⟩,
  ⟨10, 1023, ⟨(some 196), .lo (.ext (.t 186) 0), none⟩⟩,
  ⟨11, 1023, ⟨(some 197), .lo (.ext (.t 186) 1), none⟩⟩,
  ⟨12, 4095, ⟨(some 25), .lo (.mv (.t 197)), none⟩⟩])
 ((.seq ((.seq (.reg [⟨(some 198), .lo (.mv (.t 25)), none⟩,
  ⟨(some 199), .lo (.mkif 74 (.c (.int .i64 3))), none⟩,
  ⟨(some 200), .call 63 [(.t 198), (.t 199)], none⟩,
  ⟨(some 201), .lo (.un .not (.t 200)), none⟩])
 (.cond (.t 201) ((.seq (.reg [⟨(some 10), .lo (.mv (.c (.bool false))), none⟩])
 (.ret))) (.skip))))
 ((.seq (.reg [⟨(some 202), .lo (.mv (.t 3)), none⟩,
  ⟨(some 203), .lo (.conv .u64 (.t 202)), none⟩,
  ⟨(some 204), .lo (.ari .rem (.t 203) (.c (.int .u64 13))), none⟩,
  ⟨(some 205), .lo (.conv .i64 (.t 204)), none⟩,
  ⟨(some 30), .lo (.mv (.t 205)), none⟩])
 ((.seq (.reg [⟨(some 206), .lo (.bsl 32 0 (.ar 32 (.int .u8)) []), none⟩,
  ⟨(some 207), .lo (.mv (.t 21)), none⟩,
  ⟨(some 208), .lo (.app 32 32 (.t 206) (.t 207)), none⟩,
  ⟨(some 31), .lo (.mv (.t 208)), none⟩])
 ((.seq (.regd [⟨0, 0, ⟨(some 209), .lo (.mv (.t 31)), none⟩⟩,
  ⟨1, 0, ⟨(some 210), .lo (.mv (.t 30)), none⟩⟩,
  ⟨2, 0, ⟨(some 211), .lo (.mv (.t 4)), none⟩⟩,
  ⟨3, 4, ⟨(some 212), .lo (.conv .i64 (.t 211)), none⟩⟩,
  ⟨4, 12, ⟨(some 213), .lo (.ari .rem (.t 212) (.c (.int .i64 32))), none⟩⟩,
  ⟨5, 3, ⟨(some 214), .lo (.isl 32 (.t 209) (.t 210)), none⟩⟩,
  ⟨6, 63, ⟨(some 215), .lo (.iarr 32 1 (.t 214) (.t 213)), none⟩⟩,
  ⟨7, 127, ⟨(some 216), .lo (.load false 1 (.t 215)), none⟩⟩,
  ⟨8, 0, ⟨(some 217), .lo (.mv (.t 4)), none⟩⟩,
  ⟨9, 511, ⟨(some 218), .lo (.ari .xor (.t 216) (.t 217)), none⟩⟩,
  ⟨10, 3, ⟨(some 219), .lo (.isl 32 (.t 209) (.t 210)), none⟩⟩,
  ⟨11, 2047, ⟨(some 220), .lo (.iarr 32 1 (.t 219) (.t 213)), none⟩⟩,
  ⟨12, 4095, ⟨none, .lo (.store 1 (.t 220) (.t 218)), none⟩⟩])
 ((.seq (.regd [⟨0, 0, ⟨(some 221), .lo (.fadr 1 (.t 13)), none⟩⟩,
  ⟨1, 1, ⟨(some 222), .lo (.load false 1 (.t 221)), none⟩⟩,
  ⟨2, 0, ⟨(some 223), .lo (.mv (.t 30)), none⟩⟩,
  ⟨3, 0, ⟨(some 224), .lo (.mv (.t 31)), none⟩⟩,
  ⟨4, 0, ⟨(some 225), .lo (.mv (.t 30)), none⟩⟩,
  ⟨5, 24, ⟨(some 226), .lo (.isl 32 (.t 224) (.t 225)), none⟩⟩,
  ⟨6, 56, ⟨(some 227), .lo (.load true 32 (.t 226)), none⟩⟩,
  ⟨7, 127, ⟨(some 228), .lo (.isl 32 (.t 222) (.t 223)), none⟩⟩,
  ⟨8, 255, ⟨none, .lo (.store 32 (.t 228) (.t 227)), none⟩⟩])
 ((.seq (.reg [⟨(some 230), .lo (.mv (.t 1)), none⟩,
  ⟨(some 231), .lo (.conv .i64 (.t 230)), none⟩,
  ⟨(some 232), .lo (.fadr 0 (.t 13)), none⟩,
  ⟨(some 233), .lo (.load false 1 (.t 232)), none⟩,
  ⟨(some 234), .call 66 [(.t 233)], none⟩,
  ⟨(some 235), .lo (.mv (.t 31)), none⟩,
  ⟨(some 236), .call 65 [(.t 231), (.t 234), (.t 235)], none⟩,
  ⟨(some 229), .lo (.mv (.t 236)), none⟩,
  ⟨(some 237), .lo (.ext (.t 229) 0), none⟩,
  ⟨(some 238), .lo (.ext (.t 229) 1), none⟩,
  ⟨(some 32), .lo (.alloc (.ar 32 (.int .u8))), none⟩,
  ⟨none, .lo (.store 32 (.t 32) (.t 237)), none⟩,
  ⟨(some 33), .lo (.mv (.t 238)), none⟩])
 ((.seq (.reg [⟨(some 240), .lo (.load true 32 (.t 15)), none⟩,
  ⟨(some 241), .lo (.mv (.t 1)), none⟩,
  ⟨(some 242), .lo (.load true 2 (.t 13)), none⟩,
  ⟨(some 243), .call 53 [(.t 240), (.t 241), (.t 242)], none⟩,
  ⟨(some 239), .lo (.mv (.t 243)), none⟩,
  ⟨(some 244), .lo (.ext (.t 239) 0), none⟩,
  ⟨(some 245), .lo (.ext (.t 239) 1), none⟩,
  ⟨(some 24), .lo (.mv (.t 244)), none⟩,
  ⟨(some 25), .lo (.mv (.t 245)), none⟩])
 ((.seq (.reg [⟨(some 247), .lo (.load true 32 (.t 15)), none⟩,
  ⟨(some 248), .lo (.mv (.t 1)), none⟩,
  ⟨(some 249), .lo (.load true 2 (.t 13)), none⟩,
  ⟨(some 250), .lo (.mv (.t 2)), none⟩,
  ⟨(some 251), .call 52 [(.t 247), (.t 248), (.t 249), (.t 250)], none⟩,
  ⟨(some 246), .lo (.mv (.t 251)), none⟩,
  ⟨(some 252), .lo (.ext (.t 246) 0), none⟩,
  ⟨(some 253), .lo (.ext (.t 246) 1), none⟩,
  ⟨(some 27), .lo (.mv (.t 253)), none⟩])
 ((.seq (.reg [⟨(some 254), .lo (.mv (.t 25)), none⟩,
  ⟨(some 255), .lo (.eq false true (.iface [74]) (.t 254) (.c .nili)), none⟩,
  ⟨(some 256), .lo (.mv (.t 255)), none⟩,
  ⟨(some 257), .lo (.mv (.t 24)), (some (256, true))⟩,
  ⟨(some 258), .lo (.load true 32 (.t 32)), (some (256, true))⟩,
  ⟨(some 259), .lo (.load true 32 (.t 15)), (some (256, true))⟩,
  ⟨(some 260), .lo (.eq false false (.ar 32 1 false .int) (.t 258) (.t 259)), (some (256, true))⟩,
  ⟨(some 261), .lo (.eq false false .bool (.t 257) (.t 260)), (some (256, true))⟩,
  ⟨(some 262), .lo (.pick (.t 256) (.t 261) (.c (.bool false))), none⟩,
  ⟨(some 263), .lo (.mv (.t 262)), none⟩,
  ⟨(some 264), .lo (.mv (.t 27)), (some (263, true))⟩,
  ⟨(some 265), .lo (.eq false true (.iface [74]) (.t 264) (.c .nili)), (some (263, true))⟩,
  ⟨(some 266), .lo (.mv (.t 24)), (some (263, true))⟩,
  ⟨(some 267), .lo (.eq false false .bool (.t 265) (.t 266)), (some (263, true))⟩,
  ⟨(some 268), .lo (.pick (.t 263) (.t 267) (.c (.bool false))), none⟩,
  ⟨(some 269), .lo (.mv (.t 268)), none⟩,
  ⟨(some 270), .lo (.mv (.t 27)), (some (269, true))⟩,
  ⟨(some 271), .lo (.eq false true (.iface [74]) (.t 270) (.c .nili)), (some (269, true))⟩,
  ⟨(some 272), .lo (.mv (.t 271)), (some (269, true))⟩,
  ⟨(some 273), .lo (.mv (.t 27)), (some (272, false))⟩,
  ⟨(some 274), .lo (.mkif 74 (.c (.int .i64 31))), (some (272, false))⟩,
  ⟨(some 275), .call 63 [(.t 273), (.t 274)], (some (272, false))⟩,
  ⟨(some 276), .lo (.pick (.t 272) (.c (.bool true)) (.t 275)), (some (269, true))⟩,
  ⟨(some 277), .lo (.pick (.t 269) (.t 276) (.c (.bool false))), none⟩,
  ⟨(some 10), .lo (.mv (.t 277)), none⟩])
 (.ret))))))))))))))))))))))))))))))))))
abbrev cpH (f g : Nat → BitVec 64) (i : Nat) (P Q : Nat → V) : Hp := [(0, mach f g 0 false 0), (1, refm 2 3 0 false 0), (2, .ar 1 8192 (fun j => W (f j))), (3, .ar 1 16 (fun j => W (g j))), (4, .st 2 (.fcons 0 (W (f i)) (.fcons 1 (.sl 5 [] 0 13 32) .fnil))), (5, .ar 32 13 P), (6, dg (memN f 13 0)), (7, .ar 32 13 Q)]

theorem cpT {M : Seat} {x : Ctx} (ok : OkA M) (okB : OkB M) (okC : OkC M) (hx : x.k = 0) (f g : Nat → BitVec 64)
    (place v : BitVec 64) (at' : Int) (turn : BitVec 8) (h8 : ¬ 8192#64 ≤ place) :
    SemK M x (RetS M x [.tmp 10] (fun r H' k' => r = .bool true ∧ H' = [] ∧ k' = 0)) [.code cpTC] 8
      (fr 278 [(1, W place), (2, W v), (3, .int .i64 at'), (4, B turn), (11, .ptr 0 []), (12, .ptr 1 []), (13, .ptr 4 []), (14, .nili), (15, .ptr 6 []), (16, .nili), (21, .sl 7 [] 0 13 32)])
      (cpH f g place.toNat (dgs (pth f place.toNat)) (dgs (pth f place.toNat))) := by
  have hp : place.toNat < 8192 := by rw [BitVec.le_def] at h8; simpa using h8
  have hpi : place.toInt = ((place.toNat : Nat) : Int) := by rw [BitVec.toInt_eq_toNat_cond, if_pos (by omega)]
  generalize hii : place.toNat = i at *
  have hlen : (pth f i).length = 13 := by simp [pth]
  generalize hpp : pth f i = p at *
  refine ex_sound 2000 _ _ _ _ ?_
  have e13 : ((13 : Nat) : Int) = 13 := rfl
  (simp (maxSteps := 4000000) only [cpTC, cpH, refm, mach, hii, hp, LG, LP, LN, V.ren, renH, hrest, numsF, epk, epochs, Mv.hx, idsOK, bs, wmask, LK.isW, LK.isA, LK.isP, num, X.ev, vbuild, vbuildOK, vcaps, vcapsOK, hget, hset, hdel, hhas, padd, V.ok, V.get, V.set, V.fget, V.fhas, V.fset, noR, Z.v, Z.sz, dropTo, seval, reduceCtorEq, forall_const])
  refine loop_rule (σ := Nat) (fun q => q ≤ 13) (fun q => fr 278 [(1, W place), (2, W v), (3, .int .i64 at'), (4, B turn), (11, .ptr 0 []), (12, .ptr 1 []), (13, .ptr 4 []), (14, .nili), (15, .ptr 6 []), (16, .nili), (21, .sl 7 [] 0 13 32), (126, .int .i64 13), (127, .int .i64 q)])
    (fun _ => cpH f g i (dgs p) (dgs p)) (fun _ => 8) (fun q => 13 - q) 0 (by omega) ?_ ?_
  · refine Weak.fr [0, 1, 2, 3, 4, 5, 6, 7] [] hx (by simp only [fr_length]) (by decide) ?_ ?_
    · simp only [Dg.at_zero, Sim_mach, solid_mach, LT, LP, SimL, SimA, Sim, SimH, frzA, frzX, hget, hhas, V.ok, V.get, V.fget, V.fhas, seval, reduceCtorEq, implies_true]
    · simp only [cpH, refm, mach, Dg.at_zero, Sim_mach, solid_mach, LT, LP, SimL, SimA, Sim, SimH, frzA, frzX, hget, hhas, V.ok, V.get, V.fget, V.fhas, seval, reduceCtorEq, implies_true]
  · intro q hq
    refine ex_sound 2000 _ _ _ _ ?_
    by_cases h13 : q = 13
    · subst h13
      (simp (maxSteps := 4000000) only [cpH, refm, mach, LG, LP, LN, V.ren, renH, hrest, numsF, epk, epochs, Mv.hx, idsOK, bs, wmask, LK.isW, LK.isA, LK.isP, num, X.ev, vbuild, vbuildOK, vcaps, vcapsOK, hget, hset, hdel, hhas, padd, V.ok, V.get, V.set, V.fget, V.fhas, V.fset, noR, Z.v, Z.sz, dropTo, seval, reduceCtorEq, forall_const])
      have hW : V.int .u64 (i : Int) = W place := by rw [W, hii]
      have hf : foldN i (leafD (f i)) p 13 = memN f 13 0 := by rw [← hpp]; exact fold_self f i hp
      have hu : foldN i (leafD v) p 13 = memN (upd f i v) 13 0 := by rw [← hpp]; exact fold_upd f i hp v
      refine call_pA (runs_Holds ok (memN f 13 0) i hp (f i) p hlen) (by ((try simp only [hW, Dg.at_zero, Sim_mach, solid_mach, LT, LP, SimL, SimA, Sim, SimH, frzA, frzX, hget, hhas, V.ok, V.get, V.fget, V.fhas, seval, reduceCtorEq, implies_true]); first | done | exact True.intro | rfl)) (by first | rfl | (simp only [LN, LP, V.ren, tup2, tup3])) (by simp only [hW, tup2, tup3, laidH, refm, mach, NoIm, NoIm_W, NoIm_B, NoIm_dg', NoImL, errV, implies_true, and_self]) ?_
      (simp (maxSteps := 4000000) only [tup2, eq_true hf, LG, LP, LN, V.ren, renH, hrest, numsF, epk, epochs, Mv.hx, idsOK, bs, wmask, LK.isW, LK.isA, LK.isP, num, X.ev, vbuild, vbuildOK, vcaps, vcapsOK, hget, hset, hdel, hhas, padd, V.ok, V.get, V.set, V.fget, V.fhas, V.fset, noR, Z.v, Z.sz, dropTo, seval, reduceCtorEq, forall_const])
      refine call_pA (runs_Write ok (memN f 13 0) i hp (f i) p hlen hf v) (by ((try simp only [hW, Dg.at_zero, Sim_mach, solid_mach, LT, LP, SimL, SimA, Sim, SimH, frzA, frzX, hget, hhas, V.ok, V.get, V.fget, V.fhas, seval, reduceCtorEq, implies_true]); first | done | exact True.intro | rfl)) (by first | rfl | (simp only [LN, LP, V.ren, tup2, tup3])) (by simp only [hW, tup2, tup3, laidH, refm, mach, NoIm, NoIm_W, NoIm_B, NoIm_dg', NoImL, errV, implies_true, and_self]) ?_
      (simp (maxSteps := 4000000) only [tup2, hii, hp, hu, LG, LP, LN, V.ren, renH, hrest, numsF, epk, epochs, Mv.hx, idsOK, bs, wmask, LK.isW, LK.isA, LK.isP, num, X.ev, vbuild, vbuildOK, vcaps, vcapsOK, hget, hset, hdel, hhas, padd, V.ok, V.get, V.set, V.fget, V.fhas, V.fset, noR, Z.v, Z.sz, dropTo, seval, reduceCtorEq, forall_const])
      refine call_pA (runs_cRoot ok (upd f i v) g 0 false 0) (by ((try simp only [mach, upd, ite_W, Dg.at_zero, Sim_mach, solid_mach, LT, LP, SimL, SimA, Sim, SimH, frzA, frzX, hget, hhas, V.ok, V.get, V.fget, V.fhas, seval, reduceCtorEq, implies_true]); first | done | exact True.intro | rfl)) (by first | rfl | (simp only [LN, LP, V.ren, tup2, tup3])) (by simp only [mach, upd, ite_W, tup2, tup3, laidH, refm, mach, NoIm, NoIm_W, NoIm_B, NoIm_dg', NoImL, errV, implies_true, and_self]) ?_
      (simp (maxSteps := 4000000) only [tup2, prfV, h8, LG, LP, LN, V.ren, renH, hrest, numsF, epk, epochs, Mv.hx, idsOK, bs, wmask, LK.isW, LK.isA, LK.isP, num, X.ev, vbuild, vbuildOK, vcaps, vcapsOK, hget, hset, hdel, hhas, padd, V.ok, V.get, V.set, V.fget, V.fhas, V.fset, noR, Z.v, Z.sz, dropTo, seval, reduceCtorEq, forall_const])
      refine opd_pA (runs_HoldsShape ok (memN f 13 0) place h8 (f i) 12 (by decide) (dgs p)) (by ((try simp only [prfV, Dg.at_zero, Sim_mach, solid_mach, LT, LP, SimL, SimA, Sim, SimH, frzA, frzX, hget, hhas, V.ok, V.get, V.fget, V.fhas, seval, reduceCtorEq, implies_true]); first | done | exact True.intro | rfl)) (by first | rfl | (simp only [LN, LP, V.ren, tup2, tup3])) (by simp only [prfV, tup2, tup3, laidH, refm, mach, NoIm, NoIm_W, NoIm_B, NoIm_dg', NoImL, errV, implies_true, and_self]) ?_
      (simp (maxSteps := 4000000) only [tup2, errV, LG, LP, LN, V.ren, renH, hrest, numsF, epk, epochs, Mv.hx, idsOK, bs, wmask, LK.isW, LK.isA, LK.isP, num, X.ev, vbuild, vbuildOK, vcaps, vcapsOK, hget, hset, hdel, hhas, padd, V.ok, V.get, V.set, V.fget, V.fhas, V.fset, noR, Z.v, Z.sz, dropTo, seval, reduceCtorEq, forall_const])
      refine call_pA (okC.is 3 3) (by ((try simp only [errV, Dg.at_zero, Sim_mach, solid_mach, LT, LP, SimL, SimA, Sim, SimH, frzA, frzX, hget, hhas, V.ok, V.get, V.fget, V.fhas, seval, reduceCtorEq, implies_true]); first | done | exact True.intro | rfl)) (by first | rfl | (simp only [LN, LP, V.ren, tup2, tup3])) (by simp only [errV, tup2, tup3, laidH, refm, mach, NoIm, NoIm_W, NoIm_B, NoIm_dg', NoImL, errV, implies_true, and_self]) ?_
      obtain ⟨q, hq13, hq1⟩ : ∃ q : Nat, q < 13 ∧ (BitVec.ofInt 64 at' % 13#64).toInt = ((q : Nat) : Int) := by
        have h1 : (BitVec.ofInt 64 at' % 13#64).toNat < 13 := by
          rw [BitVec.toNat_umod]; exact Nat.mod_lt _ (by decide)
        exact ⟨_, h1, by rw [BitVec.toInt_eq_toNat_cond, if_pos (by omega)]⟩
      obtain ⟨k, hk32, hk1⟩ : ∃ k : Nat, k < 32 ∧ (turn.toNat : Int).tmod 32 = ((k : Nat) : Int) := ⟨turn.toNat % 32, Nat.mod_lt _ (by omega), tmod_n _ 32⟩
      generalize htv : (p.getD q Dg.zero).put k ((p.getD q Dg.zero).at k ^^^ turn) = tv
      have htl : (p.set q tv).length = 13 := by rw [List.length_set, hlen]
      have htg : ∀ j, j < 13 → (if j = q then tv else p.getD j Dg.zero) = (p.set q tv).getD j Dg.zero := by
        intro j hj
        by_cases h : j = q
        · subst h; rw [if_pos rfl]; simp [List.getD, hlen, hj]
        · rw [if_neg h]; simp [List.getD, List.getElem?_set_ne (Ne.symm h)]
      (simp (maxSteps := 4000000) only [hq1, hk1, get_dg, ok_dg, set_dg hk32, hq13, hk32, ite_dg, htv, LG, LP, LN, V.ren, renH, hrest, numsF, epk, epochs, Mv.hx, idsOK, bs, wmask, LK.isW, LK.isA, LK.isP, num, X.ev, vbuild, vbuildOK, vcaps, vcapsOK, hget, hset, hdel, hhas, padd, V.ok, V.get, V.set, V.fget, V.fhas, V.fset, noR, Z.v, Z.sz, dropTo, seval, reduceCtorEq, forall_const])
      repeat (refine And.intro (by first | omega | exact True.intro | rfl) ?_)
      refine call_pA (runs_refLeaf okB (f i)) (by ((try simp only [Dg.at_zero, Sim_mach, solid_mach, LT, LP, SimL, SimA, Sim, SimH, frzA, frzX, hget, hhas, V.ok, V.get, V.fget, V.fhas, seval, reduceCtorEq, implies_true]); first | done | exact True.intro | rfl)) (by first | rfl | (simp only [LN, LP, V.ren, tup2, tup3])) (by simp only [tup2, tup3, laidH, refm, mach, NoIm, NoIm_W, NoIm_B, NoIm_dg', NoImL, errV, implies_true, and_self]) ?_
      (simp (maxSteps := 4000000) only [hii, hpi, LG, LP, LN, V.ren, renH, hrest, numsF, epk, epochs, Mv.hx, idsOK, bs, wmask, LK.isW, LK.isA, LK.isP, num, X.ev, vbuild, vbuildOK, vcaps, vcapsOK, hget, hset, hdel, hhas, padd, V.ok, V.get, V.set, V.fget, V.fhas, V.fset, noR, Z.v, Z.sz, dropTo, seval, reduceCtorEq, forall_const])
      have hF := runs_refFold okB i (leafD (f i)) (p.set q tv) (by omega) (by rw [htl]; exact hp)
      rw [row, htl] at hF
      refine call_pA (hF) (by ((try simp only [Dg.at_zero, Sim_mach, solid_mach, LT, LP, SimL, SimA, Sim, SimH, frzA, frzX, hget, hhas, V.ok, V.get, V.fget, V.fhas, seval, reduceCtorEq, implies_true]); first | done | exact True.intro | rfl | (exact htg))) (by first | rfl | (simp only [LN, LP, V.ren, tup2, tup3])) (by simp only [tup2, tup3, laidH, refm, mach, NoIm, NoIm_W, NoIm_B, NoIm_dg', NoImL, errV, implies_true, and_self]) ?_
      (simp (maxSteps := 4000000) only [tup2, LG, LP, LN, V.ren, renH, hrest, numsF, epk, epochs, Mv.hx, idsOK, bs, wmask, LK.isW, LK.isA, LK.isP, num, X.ev, vbuild, vbuildOK, vcaps, vcapsOK, hget, hset, hdel, hhas, padd, V.ok, V.get, V.set, V.fget, V.fhas, V.fset, noR, Z.v, Z.sz, dropTo, seval, reduceCtorEq, forall_const])
      refine call_pA (runs_Holds ok (memN f 13 0) i hp (f i) (p.set q tv) htl) (by ((try simp only [hW, Dg.at_zero, Sim_mach, solid_mach, LT, LP, SimL, SimA, Sim, SimH, frzA, frzX, hget, hhas, V.ok, V.get, V.fget, V.fhas, seval, reduceCtorEq, implies_true]); first | done | exact True.intro | rfl | (exact htg))) (by first | rfl | (simp only [LN, LP, V.ren, tup2, tup3])) (by simp only [hW, tup2, tup3, laidH, refm, mach, NoIm, NoIm_W, NoIm_B, NoIm_dg', NoImL, errV, implies_true, and_self]) ?_
      by_cases hh : foldN i (leafD (f i)) (p.set q tv) 13 = memN f 13 0
      · (simp (maxSteps := 4000000) only [tup2, eq_true hh, LG, LP, LN, V.ren, renH, hrest, numsF, epk, epochs, Mv.hx, idsOK, bs, wmask, LK.isW, LK.isA, LK.isP, num, X.ev, vbuild, vbuildOK, vcaps, vcapsOK, hget, hset, hdel, hhas, padd, V.ok, V.get, V.set, V.fget, V.fhas, V.fset, noR, Z.v, Z.sz, dropTo, seval, reduceCtorEq, forall_const])
        refine call_pA (runs_Write ok (memN f 13 0) i hp (f i) (p.set q tv) htl hh v) (by ((try simp only [hW, Dg.at_zero, Sim_mach, solid_mach, LT, LP, SimL, SimA, Sim, SimH, frzA, frzX, hget, hhas, V.ok, V.get, V.fget, V.fhas, seval, reduceCtorEq, implies_true]); first | done | exact True.intro | rfl | (exact htg))) (by first | rfl | (simp only [LN, LP, V.ren, tup2, tup3])) (by simp only [hW, tup2, tup3, laidH, refm, mach, NoIm, NoIm_W, NoIm_B, NoIm_dg', NoImL, errV, implies_true, and_self]) ?_
        (simp (maxSteps := 4000000) only [tup2, eq_true hh, LG, LP, LN, V.ren, renH, hrest, numsF, epk, epochs, Mv.hx, idsOK, bs, wmask, LK.isW, LK.isA, LK.isP, num, X.ev, vbuild, vbuildOK, vcaps, vcapsOK, hget, hset, hdel, hhas, padd, V.ok, V.get, V.set, V.fget, V.fhas, V.fset, noR, Z.v, Z.sz, dropTo, seval, reduceCtorEq, forall_const])
        refine RetS.mk hx [] [] (.bool true) [] 0 (by decide) (by (simp only [res, resPs, resP, tupP, resV, tup2, tup3, dg, LG, LP, LN, V.ren, renH, hrest, numsF, epk, epochs, Mv.hx, idsOK, bs, wmask, LK.isW, LK.isA, LK.isP, num, X.ev, vbuild, vbuildOK, vcaps, vcapsOK, hget, hset, hdel, hhas, padd, V.ok, V.get, V.set, V.fget, V.fhas, V.fset, noR, Z.v, Z.sz, dropTo, seval, reduceCtorEq, forall_const])) (by ((try simp only [res, resV, tupV, tup2, tup3, LG, LP, LN, V.ren, renH, hrest, numsF, epk, epochs, Mv.hx, idsOK, bs, wmask, LK.isW, LK.isA, LK.isP, num, X.ev, vbuild, vbuildOK, vcaps, vcapsOK, hget, hset, hdel, hhas, padd, V.ok, V.get, V.set, V.fget, V.fhas, V.fset, noR, Z.v, Z.sz, dropTo, seval, reduceCtorEq, forall_const, Dg.at_zero, Sim_mach, solid_mach, LT, LP, SimL, SimA, Sim, SimH, frzA, frzX, hget, hhas, V.ok, V.get, V.fget, V.fhas, seval, reduceCtorEq, implies_true, dg]); first | done | exact True.intro | (intros; rfl))) trivial ⟨rfl, rfl, rfl⟩
      · (simp (maxSteps := 4000000) only [tup2, eq_false hh, LG, LP, LN, V.ren, renH, hrest, numsF, epk, epochs, Mv.hx, idsOK, bs, wmask, LK.isW, LK.isA, LK.isP, num, X.ev, vbuild, vbuildOK, vcaps, vcapsOK, hget, hset, hdel, hhas, padd, V.ok, V.get, V.set, V.fget, V.fhas, V.fset, noR, Z.v, Z.sz, dropTo, seval, reduceCtorEq, forall_const])
        refine call_pA (runs_WriteWrong ok (memN f 13 0) i hp (f i) (p.set q tv) htl hh v) (by ((try simp only [hW, Dg.at_zero, Sim_mach, solid_mach, LT, LP, SimL, SimA, Sim, SimH, frzA, frzX, hget, hhas, V.ok, V.get, V.fget, V.fhas, seval, reduceCtorEq, implies_true]); first | done | exact True.intro | rfl | (exact htg))) (by first | rfl | (simp only [LN, LP, V.ren, tup2, tup3])) (by simp only [hW, tup2, tup3, laidH, refm, mach, NoIm, NoIm_W, NoIm_B, NoIm_dg', NoImL, errV, implies_true, and_self]) ?_
        (simp (maxSteps := 4000000) only [tup2, errV, eq_false hh, LG, LP, LN, V.ren, renH, hrest, numsF, epk, epochs, Mv.hx, idsOK, bs, wmask, LK.isW, LK.isA, LK.isP, num, X.ev, vbuild, vbuildOK, vcaps, vcapsOK, hget, hset, hdel, hhas, padd, V.ok, V.get, V.set, V.fget, V.fhas, V.fset, noR, Z.v, Z.sz, dropTo, seval, reduceCtorEq, forall_const])
        refine call_pA (okC.is 31 31) (by ((try simp only [errV, Dg.at_zero, Sim_mach, solid_mach, LT, LP, SimL, SimA, Sim, SimH, frzA, frzX, hget, hhas, V.ok, V.get, V.fget, V.fhas, seval, reduceCtorEq, implies_true]); first | done | exact True.intro | rfl)) (by first | rfl | (simp only [LN, LP, V.ren, tup2, tup3])) (by simp only [errV, tup2, tup3, laidH, refm, mach, NoIm, NoIm_W, NoIm_B, NoIm_dg', NoImL, errV, implies_true, and_self]) ?_
        (simp (maxSteps := 4000000) only [LG, LP, LN, V.ren, renH, hrest, numsF, epk, epochs, Mv.hx, idsOK, bs, wmask, LK.isW, LK.isA, LK.isP, num, X.ev, vbuild, vbuildOK, vcaps, vcapsOK, hget, hset, hdel, hhas, padd, V.ok, V.get, V.set, V.fget, V.fhas, V.fset, noR, Z.v, Z.sz, dropTo, seval, reduceCtorEq, forall_const])
        refine RetS.mk hx [] [] (.bool true) [] 0 (by decide) (by (simp only [res, resPs, resP, tupP, resV, tup2, tup3, dg, LG, LP, LN, V.ren, renH, hrest, numsF, epk, epochs, Mv.hx, idsOK, bs, wmask, LK.isW, LK.isA, LK.isP, num, X.ev, vbuild, vbuildOK, vcaps, vcapsOK, hget, hset, hdel, hhas, padd, V.ok, V.get, V.set, V.fget, V.fhas, V.fset, noR, Z.v, Z.sz, dropTo, seval, reduceCtorEq, forall_const])) (by ((try simp only [res, resV, tupV, tup2, tup3, LG, LP, LN, V.ren, renH, hrest, numsF, epk, epochs, Mv.hx, idsOK, bs, wmask, LK.isW, LK.isA, LK.isP, num, X.ev, vbuild, vbuildOK, vcaps, vcapsOK, hget, hset, hdel, hhas, padd, V.ok, V.get, V.set, V.fget, V.fhas, V.fset, noR, Z.v, Z.sz, dropTo, seval, reduceCtorEq, forall_const, Dg.at_zero, Sim_mach, solid_mach, LT, LP, SimL, SimA, Sim, SimH, frzA, frzX, hget, hhas, V.ok, V.get, V.fget, V.fhas, seval, reduceCtorEq, implies_true, dg]); first | done | exact True.intro | (intros; rfl))) trivial ⟨rfl, rfl, rfl⟩
    · have d0 : ((q : Int) < 13) = True := eq_true (by omega)
      have w0 : IntKind.i64.wrap ((q : Int) + 1) = ((q + 1 : Nat) : Int) := by rw [wrap_i64 (by omega)]; omega
      (simp (maxSteps := 4000000) only [cpH, refm, mach, d0, w0, LG, LP, LN, V.ren, renH, hrest, numsF, epk, epochs, Mv.hx, idsOK, bs, wmask, LK.isW, LK.isA, LK.isP, num, X.ev, vbuild, vbuildOK, vcaps, vcapsOK, hget, hset, hdel, hhas, padd, V.ok, V.get, V.set, V.fget, V.fhas, V.fset, noR, Z.v, Z.sz, dropTo, seval, reduceCtorEq, forall_const])
      repeat (refine And.intro (by first | omega | exact True.intro | rfl) ?_)
      refine ⟨q + 1, by omega, by omega, ?_⟩
      refine Weak.fr [0, 1, 2, 3, 4, 5, 6, 7] [] hx (by simp only [fr_length]) (by decide) ?_ ?_
      · simp only [Dg.at_zero, Sim_mach, solid_mach, LT, LP, SimL, SimA, Sim, SimH, frzA, frzX, hget, hhas, V.ok, V.get, V.fget, V.fhas, seval, reduceCtorEq, implies_true]
      · simp only [cpH, refm, mach, Dg.at_zero, Sim_mach, solid_mach, LT, LP, SimL, SimA, Sim, SimH, frzA, frzX, hget, hhas, V.ok, V.get, V.fget, V.fhas, seval, reduceCtorEq, implies_true]

theorem cpB {M : Seat} (ok : OkA M) (okB : OkB M) (okC : OkC M) (hne : foldN 5 (leafD 1) (pth (fun _ => 0) 5) 13 ≠ nought 13) (cs : List (BitVec 64 × BitVec 64)) (cv : V) (hcv : cv = cellsV cs ∨ (cv = .nils ∧ cs = [])) (hcl : cs.length < 9223372036854775808)
    (place v : BitVec 64) (at' : Int) (turn : BitVec 8) (h8 : ¬ 8192#64 ≤ place) :
    Runs M 5 [cv, W place, W v, .int .i64 at', B turn] [] 0 (fun r H' k' => r = .bool true ∧ H' = [] ∧ k' = 0) := by
  refine runs_fr okC.k5 rfl fun x hx => ?_
  have hcvS : ∀ H m z, SimV H m z cv cv := by
    intro H m z
    rcases hcv with h | ⟨h, _⟩ <;> subst h
    · simp only [cellsV, cellV, Dg.at_zero, Sim_mach, solid_mach, LT, LP, SimL, SimA, Sim, SimH, frzA, frzX, hget, hhas, V.ok, V.get, V.fget, V.fhas, seval, reduceCtorEq, implies_true]
    · simp only [SimV_nils, Sim]
  have hp : place.toNat < 8192 := by rw [BitVec.le_def] at h8; simpa using h8
  have hpi : place.toInt = ((place.toNat : Nat) : Int) := by rw [BitVec.toInt_eq_toNat_cond, if_pos (by omega)]
  refine ex_sound 20 _ _ _ _ ?_
  (simp (maxSteps := 4000000) only [f5, c5, eq_false h8, LG, LP, LN, V.ren, renH, hrest, numsF, epk, epochs, Mv.hx, idsOK, bs, wmask, LK.isW, LK.isA, LK.isP, num, X.ev, vbuild, vbuildOK, vcaps, vcapsOK, hget, hset, hdel, hhas, padd, V.ok, V.get, V.set, V.fget, V.fhas, V.fset, noR, Z.v, Z.sz, dropTo, seval, reduceCtorEq, forall_const])
  refine call_fA (runs_laid ok cs cv hcv hcl [] .nils (.inr ⟨rfl, rfl⟩) (by simp) 0 false 0) (by decide) (by ((try simp only [hcvS, Dg.at_zero, Sim_mach, solid_mach, LT, LP, SimL, SimA, Sim, SimH, frzA, frzX, hget, hhas, V.ok, V.get, V.fget, V.fhas, seval, reduceCtorEq, implies_true]); first | done | exact True.intro | rfl)) (by simp only [hcvS, tup2, tup3, laidH, refm, mach, NoIm, NoIm_W, NoIm_B, NoIm_dg', NoImL, errV, implies_true, and_self]) (by simp only [hcvS, tup2, tup3, laidH, refm, mach, NoIm, NoIm_W, NoIm_B, NoIm_dg', NoImL, errV, implies_true, and_self]) ?_
  generalize memF cs (min cs.length 100) = f
  generalize regF [] (min ([] : List (BitVec 64)).length 16) = g
  (simp (maxSteps := 4000000) only [tup2, laidH, refm, ren_mach, LG, LP, LN, V.ren, renH, hrest, numsF, epk, epochs, Mv.hx, idsOK, bs, wmask, LK.isW, LK.isA, LK.isP, num, X.ev, vbuild, vbuildOK, vcaps, vcapsOK, hget, hset, hdel, hhas, padd, V.ok, V.get, V.set, V.fget, V.fhas, V.fset, noR, Z.v, Z.sz, dropTo, seval, reduceCtorEq, forall_const])
  refine call_pA (runs_fixed ok hne) (by ((try simp only [Dg.at_zero, Sim_mach, solid_mach, LT, LP, SimL, SimA, Sim, SimH, frzA, frzX, hget, hhas, V.ok, V.get, V.fget, V.fhas, seval, reduceCtorEq, implies_true]); first | done | exact True.intro | rfl)) (by first | rfl | (simp only [LN, LP, V.ren, tup2, tup3])) (by simp only [tup2, tup3, laidH, refm, mach, NoIm, NoIm_W, NoIm_B, NoIm_dg', NoImL, errV, implies_true, and_self]) ?_
  (simp (maxSteps := 4000000) only [LG, LP, LN, V.ren, renH, hrest, numsF, epk, epochs, Mv.hx, idsOK, bs, wmask, LK.isW, LK.isA, LK.isP, num, X.ev, vbuild, vbuildOK, vcaps, vcapsOK, hget, hset, hdel, hhas, padd, V.ok, V.get, V.set, V.fget, V.fhas, V.fset, noR, Z.v, Z.sz, dropTo, seval, reduceCtorEq, forall_const])
  refine call_fA (runs_Prove ok f g 0 false 0 place.toNat hp) (by decide) (by ((try simp only [Dg.at_zero, Sim_mach, solid_mach, LT, LP, SimL, SimA, Sim, SimH, frzA, frzX, hget, hhas, V.ok, V.get, V.fget, V.fhas, seval, reduceCtorEq, implies_true]); first | done | exact True.intro | rfl)) (by simp only [tup2, tup3, laidH, refm, mach, NoIm, NoIm_W, NoIm_B, NoIm_dg', NoImL, errV, implies_true, and_self]) (by simp only [tup2, tup3, laidH, refm, mach, NoIm, NoIm_W, NoIm_B, NoIm_dg', NoImL, errV, implies_true, and_self]) ?_
  (simp (maxSteps := 4000000) only [tup2, errV, LG, LP, LN, V.ren, renH, hrest, numsF, epk, epochs, Mv.hx, idsOK, bs, wmask, LK.isW, LK.isA, LK.isP, num, X.ev, vbuild, vbuildOK, vcaps, vcapsOK, hget, hset, hdel, hhas, padd, V.ok, V.get, V.set, V.fget, V.fhas, V.fset, noR, Z.v, Z.sz, dropTo, seval, reduceCtorEq, forall_const])
  refine call_pA (runs_cRoot ok f g 0 false 0) (by ((try simp only [Dg.at_zero, Sim_mach, solid_mach, LT, LP, SimL, SimA, Sim, SimH, frzA, frzX, hget, hhas, V.ok, V.get, V.fget, V.fhas, seval, reduceCtorEq, implies_true]); first | done | exact True.intro | rfl)) (by first | rfl | (simp only [LN, LP, V.ren, tup2, tup3])) (by simp only [tup2, tup3, laidH, refm, mach, NoIm, NoIm_W, NoIm_B, NoIm_dg', NoImL, errV, implies_true, and_self]) ?_
  (simp (maxSteps := 4000000) only [tup2, eq_false h8, LG, LP, LN, V.ren, renH, hrest, numsF, epk, epochs, Mv.hx, idsOK, bs, wmask, LK.isW, LK.isA, LK.isP, num, X.ev, vbuild, vbuildOK, vcaps, vcapsOK, hget, hset, hdel, hhas, padd, V.ok, V.get, V.set, V.fget, V.fhas, V.fset, noR, Z.v, Z.sz, dropTo, seval, reduceCtorEq, forall_const])
  refine call_xA (runs_refLeaves okB f) (by simp only [Dg.at_zero, Sim_mach, solid_mach, LT, LP, SimL, SimA, Sim, SimH, frzA, frzX, hget, hhas, V.ok, V.get, V.fget, V.fhas, seval, reduceCtorEq, implies_true]) ?_
  rintro r H' k' ⟨n, hn, hz, hc⟩
  rcases hc with ⟨h0, rfl, rfl, rfl⟩ | ⟨h0, rfl, rfl, rfl⟩
  · refine ⟨⟨by omega, trivial, trivial⟩, ?_⟩
    (simp (maxSteps := 4000000) only [hpi, LG, LP, LN, V.ren, renH, hrest, numsF, epk, epochs, Mv.hx, idsOK, bs, wmask, LK.isW, LK.isA, LK.isP, num, X.ev, vbuild, vbuildOK, vcaps, vcapsOK, hget, hset, hdel, hhas, padd, V.ok, V.get, V.set, V.fget, V.fhas, V.fset, noR, Z.v, Z.sz, dropTo, seval, reduceCtorEq, forall_const])
    refine call_fA (runs_refPath okB (lvs f n) .nils (.inr ⟨rfl, by subst h0; rfl⟩) (by rw [lvs_len]; exact hn) place.toNat hp) (by decide) (by ((try simp only [Dg.at_zero, Sim_mach, solid_mach, LT, LP, SimL, SimA, Sim, SimH, frzA, frzX, hget, hhas, V.ok, V.get, V.fget, V.fhas, seval, reduceCtorEq, implies_true]); first | done | exact True.intro | rfl)) (by simp only [tup2, tup3, laidH, refm, mach, NoIm, NoIm_W, NoIm_B, NoIm_dg', NoImL, errV, implies_true, and_self]) (by simp only [tup2, tup3, laidH, refm, mach, NoIm, NoIm_W, NoIm_B, NoIm_dg', NoImL, errV, implies_true, and_self]) ?_
    (simp (maxSteps := 4000000) only [tup2, LG, LP, LN, V.ren, renH, hrest, numsF, epk, epochs, Mv.hx, idsOK, bs, wmask, LK.isW, LK.isA, LK.isP, num, X.ev, vbuild, vbuildOK, vcaps, vcapsOK, hget, hset, hdel, hhas, padd, V.ok, V.get, V.set, V.fget, V.fhas, V.fset, noR, Z.v, Z.sz, dropTo, seval, reduceCtorEq, forall_const])
    refine SemK.weak _ _ _ ?_ (cpT ok okB okC hx f g place v at' turn h8)
    refine Weak.fr [32, 33, 34, 35, 320, 256, 448, 640] [] hx (by simp only [fr_length]) (by decide) ?_ ?_
    · simp only [Dg.at_zero, Sim_mach, solid_mach, LT, LP, SimL, SimA, Sim, SimH, frzA, frzX, hget, hhas, V.ok, V.get, V.fget, V.fhas, seval, reduceCtorEq, implies_true]
    · simp only [cpH, mach, refm, Dg.at_zero, Sim_mach, solid_mach, LT, LP, SimL, SimA, Sim, SimH, frzA, frzX, hget, hhas, V.ok, V.get, V.fget, V.fhas, seval, reduceCtorEq, implies_true]
      refine ⟨fun j hj => (pth_at _ _ _ hj).symm, fun j hj => ?_⟩
      rw [pth_at _ _ _ hj, pathN, node_mem f n hn hz]
  · refine ⟨⟨by omega, trivial, by simp only [NoImL, NoIm_dg', NoIm, implies_true, and_self]⟩, ?_⟩
    (simp (maxSteps := 4000000) only [hpi, LG, LP, LN, V.ren, renH, hrest, numsF, epk, epochs, Mv.hx, idsOK, bs, wmask, LK.isW, LK.isA, LK.isP, num, X.ev, vbuild, vbuildOK, vcaps, vcapsOK, hget, hset, hdel, hhas, padd, V.ok, V.get, V.set, V.fget, V.fhas, V.fset, noR, Z.v, Z.sz, dropTo, seval, reduceCtorEq, forall_const])
    refine call_fA (runs_refPath okB (lvs f n) (row (lvs f n)) (.inl rfl) (by rw [lvs_len]; exact hn) place.toNat hp) (by decide) (by ((try simp only [row, lvs_len, Dg.at_zero, Sim_mach, solid_mach, LT, LP, SimL, SimA, Sim, SimH, frzA, frzX, hget, hhas, V.ok, V.get, V.fget, V.fhas, seval, reduceCtorEq, implies_true]); first | done | exact True.intro | rfl | ((intro j hj; exact (lvs_at _ _ _ hj _).symm)))) (by simp only [row, lvs_len, tup2, tup3, laidH, refm, mach, NoIm, NoIm_W, NoIm_B, NoIm_dg', NoImL, errV, implies_true, and_self]) (by simp only [row, lvs_len, tup2, tup3, laidH, refm, mach, NoIm, NoIm_W, NoIm_B, NoIm_dg', NoImL, errV, implies_true, and_self]) ?_
    (simp (maxSteps := 4000000) only [tup2, LG, LP, LN, V.ren, renH, hrest, numsF, epk, epochs, Mv.hx, idsOK, bs, wmask, LK.isW, LK.isA, LK.isP, num, X.ev, vbuild, vbuildOK, vcaps, vcapsOK, hget, hset, hdel, hhas, padd, V.ok, V.get, V.set, V.fget, V.fhas, V.fset, noR, Z.v, Z.sz, dropTo, seval, reduceCtorEq, forall_const])
    refine SemK.weak _ _ _ ?_ (cpT ok okB okC hx f g place v at' turn h8)
    refine Weak.fr [32, 33, 34, 35, 320, 256, 448, 640] [] hx (by simp only [fr_length]) (by decide) ?_ ?_
    · simp only [Dg.at_zero, Sim_mach, solid_mach, LT, LP, SimL, SimA, Sim, SimH, frzA, frzX, hget, hhas, V.ok, V.get, V.fget, V.fhas, seval, reduceCtorEq, implies_true]
    · simp only [cpH, mach, refm, Dg.at_zero, Sim_mach, solid_mach, LT, LP, SimL, SimA, Sim, SimH, frzA, frzX, hget, hhas, V.ok, V.get, V.fget, V.fhas, seval, reduceCtorEq, implies_true]
      refine ⟨fun j hj => (pth_at _ _ _ hj).symm, fun j hj => ?_⟩
      rw [pth_at _ _ _ hj, pathN, node_mem f n hn hz]

theorem runs_CommitProofs {M : Seat} (ok : OkA M) (okB : OkB M) (okC : OkC M) (hne : foldN 5 (leafD 1) (pth (fun _ => 0) 5) 13 ≠ nought 13) (cs : List (BitVec 64 × BitVec 64)) (cv : V) (hcv : cv = cellsV cs ∨ (cv = .nils ∧ cs = [])) (hcl : cs.length < 9223372036854775808)
    (place v : BitVec 64) (at' : Int) (turn : BitVec 8) :
    Runs M 5 [cv, W place, W v, .int .i64 at', B turn] [] 0 (fun r H' k' => r = .bool true ∧ H' = [] ∧ k' = 0) := by
  by_cases h8 : 8192#64 ≤ place
  · exact cpA ok okC hne cs cv hcv hcl place v at' turn h8
  · exact cpB ok okB okC hne cs cv hcv hcl place v at' turn h8
end Mv
