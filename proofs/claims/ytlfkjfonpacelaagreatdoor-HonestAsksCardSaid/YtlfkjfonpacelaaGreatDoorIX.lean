/- A part. -/
import Derived.Test.YtlfkjfonpacelaaGreatDoorIW
set_option linter.all false
set_option maxRecDepth 20000
set_option maxHeartbeats 4000000
namespace Mv
open Go
variable {M:Seat}
theorem ZW {A B c:BitVec 64} (h1:A < c):mhi A B < c:=by
 rw [BitVec.lt_def] at *
 rw [V2];have hB:=B.isLt;apply (Nat.div_lt_iff_lt_mul Al).2;exact Nat.lt_of_le_of_lt (Nat.mul_le_mul_left _ (Nat.le_of_lt hB)) (Nat.mul_lt_mul_of_pos_right h1 Al)
theorem Aev {A B c:BitVec 64} (h1:A < c) (h2:B < c):crW A B < c:=by
 rw [BitVec.lt_def] at *
 unfold crW;split
 ·show 0 < _;omega
 ·show 1 < _;omega
theorem P4 (a c:BitVec 64) (hc:¬ c=0#64):HMod.hMod a c < c:=by
 rw [BitVec.lt_def,BitVec.toNat_umod];refine Nat.mod_lt _ (Nat.pos_of_ne_zero fun h=>hc (BitVec.eq_of_toNat_eq MY))
theorem RE (a b:BitVec 64) (H:Hp):Ta (W a) (W b) (W 0#64) H=⟨True,.tup (.fcons 0 (W (a + b)) (.fcons 1 (W (crW a b)) .fnil)),H⟩:=Qf a b H
theorem Aha (A B:BitVec 64):(crW A B).toNat * 18446744073709551616 + (A + B).toNat=A.toNat + B.toNat:=by
 have h1:=A.isLt;have h2:=B.isLt;rw [BitVec.toNat_add];unfold crW;split
 ·show 0 * 18446744073709551616 + _=_;omega
 ·show 1 * 18446744073709551616 + _=_;omega
theorem Aex (a b c:BitVec 64):((crW (HMod.hMod a c) (HMod.hMod b c)).toNat * 18446744073709551616 + (HMod.hMod a c + HMod.hMod b c).toNat) % c.toNat=(a.toNat + b.toNat) % c.toNat:=by
 rw [Aha,BitVec.toNat_umod,BitVec.toNat_umod,← Nat.add_mod]
theorem Agg (a b c:BitVec 64):((mhi (HMod.hMod a c) (HMod.hMod b c)).toNat * 18446744073709551616 + (HMod.hMod a c * HMod.hMod b c).toNat) % c.toNat=(a.toNat * b.toNat) % c.toNat:=by
 have e:(mhi (HMod.hMod a c) (HMod.hMod b c)).toNat * 18446744073709551616 + (HMod.hMod a c * HMod.hMod b c).toNat=(HMod.hMod a c).toNat * (HMod.hMod b c).toNat:=by
  rw [V2,BitVec.toNat_mul];have:=Nat.div_add_mod ((HMod.hMod a c).toNat * (HMod.hMod b c).toNat) 18446744073709551616;have e2:(2:Nat) ^ 64=18446744073709551616:=Al;rw [e2];omega
 rw [e,BitVec.toNat_umod,BitVec.toNat_umod,← Nat.mul_mod]
theorem Sv (ok:OkP M) (a b c:BitVec 64):∃ w,(c ≠ 0#64→w.toNat=(a.toNat + b.toNat) % c.toNat)∧(c=0#64→w=0#64)∧Ae M 322 [.int .i64 8,W a,W b,W c] [] 0 (Q3 (W w) [] 0):=by
 by_cases hc:c=0#64
 ·subst hc;refine ⟨0#64,fun h=>absurd rfl h,fun _=>rfl,Ab ok.k322 rfl fun x hx=>?_⟩;refine eX ?_;simp only [XR,Acm,LZ,seval];exact Ap.mkZ hx [] ⟨rfl,rfl,rfl⟩
 ·have hcn:(c ≠ 0)=True:=eq_true hc;have hA':=P4 a c hc;have hB':=P4 b c hc;obtain ⟨A,hA⟩:∃ A,HMod.hMod a c=A:=⟨_,rfl⟩
  obtain ⟨B,hB⟩:∃ B,HMod.hMod b c=B:=⟨_,rfl⟩
  rw [hA] at hA';rw [hB] at hB';obtain ⟨q,r,hrn,hr⟩:=QY ok (crW A B) (A + B) c (Aev hA' hB');refine ⟨r,fun _=>by rw [hrn,← hA,← hB];exact Aex a b c,fun h=>absurd h hc,Ab ok.k322 rfl fun x hx=>?_⟩;obtain ⟨hi,hhi⟩:∃ hi,crW A B=hi:=⟨_,rfl⟩
  obtain ⟨lo,hlo⟩:∃ lo,A + B=lo:=⟨_,rfl⟩
  rw [hhi,hlo] at hr;refine eX ?_;simp only [XR,Acm,hc,hcn,hA,hB,LZ,seval];repeat refine sd ?_
  refine Aj (L4 ok A B) ?_;simp only [Bb,hhi,hlo,RE,seval];repeat refine sd ?_
  refine Aj (hr) ?_;simp only [Bb,seval];exact Ap.mkZ hx [] ⟨rfl,rfl,rfl⟩
theorem Su (ok:OkP M) (a b c:BitVec 64):∃ w,(c ≠ 0#64→w.toNat=(a.toNat * b.toNat) % c.toNat)∧(c=0#64→w=0#64)∧Ae M 322 [.int .i64 9,W a,W b,W c] [] 0 (Q3 (W w) [] 0):=by
 by_cases hc:c=0#64
 ·subst hc;refine ⟨0#64,fun h=>absurd rfl h,fun _=>rfl,Ab ok.k322 rfl fun x hx=>?_⟩;refine eX ?_;simp only [XR,Acm,LZ,seval];exact Ap.mkZ hx [] ⟨rfl,rfl,rfl⟩
 ·have hcn:(c ≠ 0)=True:=eq_true hc;have hA':=P4 a c hc;have hB':=P4 b c hc;obtain ⟨A,hA⟩:∃ A,HMod.hMod a c=A:=⟨_,rfl⟩
  obtain ⟨B,hB⟩:∃ B,HMod.hMod b c=B:=⟨_,rfl⟩
  rw [hA] at hA';rw [hB] at hB';obtain ⟨q,r,hrn,hr⟩:=QY ok (mhi A B) (A * B) c (ZW hA');refine ⟨r,fun _=>by rw [hrn,← hA,← hB];exact Agg a b c,fun h=>absurd h hc,Ab ok.k322 rfl fun x hx=>?_⟩;obtain ⟨hi,hhi⟩:∃ hi,mhi A B=hi:=⟨_,rfl⟩
  obtain ⟨lo,hlo⟩:∃ lo,A * B=lo:=⟨_,rfl⟩
  rw [hhi,hlo] at hr;refine eX ?_;simp only [XR,Acm,hc,hcn,hA,hB,LZ,seval];repeat refine sd ?_
  refine Aj (L4 ok A B) ?_;simp only [Bb,hhi,hlo,RE,seval];repeat refine sd ?_
  refine Aj (hr) ?_;simp only [Bb,seval];exact Ap.mkZ hx [] ⟨rfl,rfl,rfl⟩
theorem Hz (b:BitVec 64) (n:Nat):BitVec.ofInt 64 (b.toInt.fdiv (2 ^ min n 64))=b.sshiftRight n:=by
 rw [Int.fdiv_eq_ediv_of_nonneg _ (Int.pow_nonneg Al),BitVec.sshiftRight,Int.shiftRight_eq_div_pow]
 congr 1
 have h1:=BitVec.toInt_lt (x:=b);have h2:=BitVec.le_toInt b;by_cases h:n≤64
 ·rw [Nat.min_eq_left h,Anz]
 ·rw [Nat.min_eq_right Aa];have hp:(18446744073709551616:Int)≤((2 ^ n:Nat):Int):=by
   have:=Nat.pow_le_pow_right (n:=2) Al (show 64≤n by omega);have e:(2:Nat) ^ 64=18446744073709551616:=Al;omega
  have e64:(2:Int) ^ 64=18446744073709551616:=Al;rw [e64];generalize ((2 ^ n:Nat):Int)=m at hp;have e63:(2:Int) ^ (64 - 1)=9223372036854775808:=Al;rw [e63] at h1 h2;by_cases hb:0≤b.toInt
  ·rw [Int.ediv_eq_zero_of_lt hb Aa,Int.ediv_eq_zero_of_lt hb Aa]
  ·have k1:b.toInt / 18446744073709551616 = -1:=Aa;have k2:b.toInt / m = -1:=by
    have l1:-1≤b.toInt / m:=(Int.le_ediv_iff_mul_le Aa).2 Aa;have l2:b.toInt / m < 0:=Int.ediv_neg_of_neg_of_pos Aa Aa;omega
   rw [k1,k2]
def RX (op:Nat) (a b:BitVec 64):BitVec 64 :=
 if op=11 then (if 7#64≤a then b else (b <<< (56#64 - 8#64 * a)).sshiftRight (56#64 - 8#64 * a).toNat)
 else if op=12 then (if 7#64 < a then 0#64 else (b >>> (56#64 - 8#64 * a)) &&& 255#64)
 else if op=13 then b <<< a else if op=14 then b >>> a else b.sshiftRight a.toNat
theorem Mx (ok:OkP M) (a b:BitVec 64):Ae M 324 [.int .i64 11,W a,W b] [] 0 (Q3 (W (RX 11 a b)) [] 0):=by
 generalize hF:RX 11 a b=F;simp only [RX,seval,B4] at hF;rcases Classical.propComplete (7#64≤a) with h | h
 ·refine Ab ok.k324 rfl fun x hx=>?_;simp only [h,if_true] at hF;refine eX ?_;simp only [PE,Rk,h,Hz,LZ,seval];repeat refine sd ?_
  subst hF;exact Ap.mkZ hx [] ⟨rfl,rfl,rfl⟩
 ·refine Ab ok.k324 rfl fun x hx=>?_;simp only [h,if_false] at hF;refine eX ?_;simp only [PE,Rk,h,Hz,LZ,seval];repeat refine sd ?_
  subst hF;exact Ap.mkZ hx [] ⟨rfl,rfl,rfl⟩
theorem Mk (ok:OkP M) (a b:BitVec 64):Ae M 324 [.int .i64 12,W a,W b] [] 0 (Q3 (W (RX 12 a b)) [] 0):=by
 generalize hF:RX 12 a b=F;simp only [RX,seval,B4] at hF;rcases Classical.propComplete (7#64 < a) with h | h
 ·refine Ab ok.k324 rfl fun x hx=>?_;simp only [h,if_true] at hF;refine eX ?_;simp only [PE,Rk,h,Hz,LZ,seval];repeat refine sd ?_
  subst hF;exact Ap.mkZ hx [] ⟨rfl,rfl,rfl⟩
 ·refine Ab ok.k324 rfl fun x hx=>?_;simp only [h,if_false] at hF;refine eX ?_;simp only [PE,Rk,h,Hz,LZ,seval];repeat refine sd ?_
  subst hF;exact Ap.mkZ hx [] ⟨rfl,rfl,rfl⟩
theorem M9 (ok:OkP M) (a b:BitVec 64):Ae M 324 [.int .i64 13,W a,W b] [] 0 (Q3 (W (RX 13 a b)) [] 0):=by
 generalize hF:RX 13 a b=F;simp only [RX,seval,B4] at hF;refine Ab ok.k324 rfl fun x hx=>?_;refine eX ?_;simp only [PE,Rk,Hz,LZ,seval];repeat refine sd ?_
 subst hF;exact Ap.mkZ hx [] ⟨rfl,rfl,rfl⟩
theorem L1 (ok:OkP M) (a b:BitVec 64):Ae M 324 [.int .i64 14,W a,W b] [] 0 (Q3 (W (RX 14 a b)) [] 0):=by
 generalize hF:RX 14 a b=F;simp only [RX,seval,B4] at hF;refine Ab ok.k324 rfl fun x hx=>?_;refine eX ?_;simp only [PE,Rk,Hz,LZ,seval];repeat refine sd ?_
 subst hF;exact Ap.mkZ hx [] ⟨rfl,rfl,rfl⟩
theorem Lc (ok:OkP M) (a b:BitVec 64):Ae M 324 [.int .i64 15,W a,W b] [] 0 (Q3 (W (RX 15 a b)) [] 0):=by
 generalize hF:RX 15 a b=F;simp only [RX,seval,B4] at hF;refine Ab ok.k324 rfl fun x hx=>?_;refine eX ?_;simp only [PE,Rk,Hz,LZ,seval];repeat refine sd ?_
 subst hF;exact Ap.mkZ hx [] ⟨rfl,rfl,rfl⟩
def apW (op:Nat) (a b c:BitVec 64):BitVec 64 :=
 if op=1 then a + b else if op=2 then a - b else if op=3 then a * b
 else if op=4 ∨ op=5 ∨ op=6 ∨ op=7 then Ag1 op a b
 else if op=8 then (if c=0#64 then 0#64 else BitVec.ofNat 64 ((a.toNat + b.toNat) % c.toNat))
 else if op=9 then (if c=0#64 then 0#64 else BitVec.ofNat 64 ((a.toNat * b.toNat) % c.toNat))
 else if op=10 then pwr 64 a b 1#64
 else if op=11 ∨ op=12 ∨ op=13 ∨ op=14 ∨ op=15 then RX op a b
 else if op=16 then flg (decide (a < b)) else if op=17 then flg (decide (b < a))
 else if op=18 then flg (decide (a.toInt < b.toInt)) else if op=19 then flg (decide (b.toInt < a.toInt))
 else if op=20 then flg (decide (a=b)) else if op=21 then flg (decide (a=0#64))
 else if op=22 then a &&& b else if op=23 then a ||| b else if op=24 then a ^^^ b else a ^^^ 18446744073709551615#64
theorem Aik {w:BitVec 64} {n:Nat} {c:BitVec 64} (h1:c ≠ 0#64→w.toNat=n % c.toNat) (h2:c=0#64→w=0#64):w=(if c=0#64 then 0#64 else BitVec.ofNat 64 (n % c.toNat)):=by
 split
 ·rename_i h;exact h2 h
 ·rename_i h;apply BitVec.eq_of_toNat_eq;have hc:=c.isLt;have h0:0 < c.toNat:=Nat.pos_of_ne_zero fun e=>h (BitVec.eq_of_toNat_eq (by simpa using e));rw [h1 h,BitVec.toNat_ofNat];exact (Nat.mod_eq_of_lt (Nat.lt_trans (Nat.mod_lt _ h0) hc)).symm
theorem HJ (ok:OkP M) (op:Nat) (h1:1≤op) (h2:op≤25) (a b c:BitVec 64):Ae M 215 [.int .i64 op,W a,W b,W c] [] 0 (Q3 (Ai (W (apW op a b c)) .nili) [] 0):=by
 have c1:((1:Nat):Int)=1:=rfl;have hd:=fun (op:Nat) h=>Pp ok op h a b;have h4:=hd 4 Al;have h5:=hd 5 Al;have h6:=hd 6 Al;have h7:=hd 7 Al;obtain ⟨w8,p8,z8,h8⟩:=Sv ok a b c;obtain ⟨w9,p9,z9,h9⟩:=Su ok a b c;rw [Aik p8 z8] at h8;rw [Aik p9 z9] at h9;have h10:=TE ok a b;have h11:=Mx ok a b;have h12:=Mk ok a b;have h13:=M9 ok a b;have h14:=L1 ok a b;have h15:=Lc ok a b;have hf:=fun t=>W6 ok t;have hop:op=1 ∨ op=2 ∨ op=3 ∨ op=22 ∨ op=23 ∨ op=24 ∨ op=25 ∨ op=16 ∨ op=17 ∨ op=18 ∨ op=19 ∨ op=20 ∨ op=21 ∨ op=4 ∨ op=5 ∨ op=6 ∨ op=7 ∨ op=8 ∨ op=9 ∨ op=10 ∨ op=11 ∨ op=12 ∨ op=13 ∨ op=14 ∨ op=15:=Aa;rcases hop with rfl | rfl | rfl | rfl | rfl | rfl | rfl | rfl | rfl | rfl | rfl | rfl | rfl | rfl | rfl | rfl | rfl | rfl | rfl | rfl | rfl | rfl | rfl | rfl | rfl;all_goals
  generalize hF:apW _ a b c=F;simp only [apW,seval,B4,or_true,true_or,or_self,or_false] at hF
 iterate 7
  focus
   refine Ab ok.k215 rfl fun x hx=>?_;refine eX ?_;simp only [YT,Afi,c1,Lbp,seval];subst hF;exact Ap.mkZ hx [] ⟨rfl,rfl,rfl⟩
 iterate 6
  focus
   refine Ab ok.k215 rfl fun x hx=>?_;refine eX ?_;simp only [YT,Afi,Lbp,seval];refine Aj (hf _) ?_;simp only [LZ,seval];subst hF;exact Ap.mkZ hx [] ⟨rfl,rfl,rfl⟩
 all_goals
  refine Ab ok.k215 rfl fun x hx=>?_;refine eX ?_;simp only [YT,Afi,Lbp,seval];first
   | (refine Aj (h4) ?_)
   | (refine Aj (h5) ?_)
   | (refine Aj (h6) ?_)
   | (refine Aj (h7) ?_)
   | (refine Aj (h8) ?_)
   | (refine Aj (h9) ?_)
   | (refine Aj (h10) ?_)
   | (refine Aj (h11) ?_)
   | (refine Aj (h12) ?_)
   | (refine Aj (h13) ?_)
   | (refine Aj (h14) ?_)
   | (refine Aj (h15) ?_)
  simp only [LZ,seval];subst hF;exact Ap.mkZ hx [] ⟨rfl,rfl,rfl⟩
theorem Y7 (ok:OkP M) (op:Nat) (h1:1≤op) (h2:op≤25) (a b c:BitVec 64):∃ w,Ae M 215 [.int .i64 op,W a,W b,W c] [] 0 (Q3 (Ai (W w) .nili) [] 0):=⟨_,HJ ok op h1 h2 a b c⟩
def Aps:LC:=(sr [aB 2 32] (sr [kl 6 418 [],mt 3 6] (sr [mt 7 3,mt 8 0,kl 9 419 [(.t 7),(.t 8)]] (sr [mt 11 3,kl 12 420 [(.t 11)],mt 10 12,ee 13 10 0,ee 14 10 1,
  aB 4 32,sb 32 4 13,mt 5 14] (sr [la 15 32 4,sb 32 2 15] .ret)))))
def Ato:LF:=⟨Aps,1,0,16,[.cell 2 true 32]⟩
def Arm:LC:=(sr [A1 0 (.mv (.c .nilp))] (sr [A1 1 (.build (.st (.cons (.ar 25 zU) (.cons .slice .nil))) []),
  bX 2 1,mt 0 2] .ret))
def Aqb:LF:=⟨Arm,0,0,3,[.tmp 0]⟩
def Auk:LC:=(sr [mn 4] (.seq (sr [mt 5 0,A1 6 (.eq false true .ptr (.t 5) (.c .nilp))] (.cond (.t 6) (sr [A1 7 (.mkif 74 (cI 1)),mt 4 7] .ret) .skip)) (sr [mt 8 0,mt 9 0,nc 10 9,fa 11 25 10,lb 12 1 11,mt 13 1,
  aP 14 1 1 12 13,nc 15 8,fa 16 25 15,sb 1 16 14] (.seq (.block 0 (.loop (.seq (sr [mt 17 0,nc 18 17,fa 19 25 18,lb 20 1 19,
  lN 21 0 20,aI 22 .geq 21 136]
 (DJ 22 0)) (.block 1 (.seq (.regd [⟨1,0,mt 24 0⟩,⟨2,1,nc 25 24⟩,⟨3,3,fa 26 0 25⟩,⟨4,7,la 27 25 26⟩,⟨5,0,mt 28 0⟩,⟨6,16,nc 29 28⟩,⟨7,48,fa 30 25 29⟩,⟨8,112,lb 31 1 30⟩,⟨9,240,A1 32 (.slsl 1 (.t 31) none (some (cI 136)))⟩,⟨10,511,kl 33 318 [(.t 27),(.t 32)]⟩,⟨0,0,mt 23 0⟩,⟨11,2047,nc 34 23⟩,⟨12,4095,fa 35 0 34⟩,⟨13,8191,sb 25 35 33⟩]) (.reg [mt 36 0,mt 37 0,nc 38 37,fa 39 25 38,lb 40 1 39,A1 41 (.slsl 1 (.t 40) (some (cI 136)) none),kl 42 277 [(.t 41)],nc 43 36,fa 44 25 43,sb 1 44 42])))))) (sr [mn 4] .ret)))))
def Aqf:LF:=⟨Auk,2,0,45,[.tmp 4]⟩
def Ash:LC:=(sr [aB 2 32,mn 3] (.seq (sr [mt 5 0,A1 6 (.eq false true .ptr (.t 5) (.c .nilp))] (.cond (.t 6) (sr [A1 7 (.build zD []),A1 8 (.mkif 74 (cI 1)),sb 32 2 7,mt 3 8] .ret) .skip)) (sr [A1 9 (.mksl 1 1 (.int .u8) (cI 136) (cI 136)),mt 4 9] (sr [mt 10 4,mt 11 0,nc 12 11,fa 13 25 12,lb 14 1 13,A1 15 (.copy 1 (.t 10) (.t 14))] (sr [mt 16 4,mt 17 0,nc 18 17,fa 19 25 18,lb 20 1 19,
  lN 21 0 20,ia 22 1 16 21,lb 23 1 22,A1 24 (.ari .xor (.t 23) (.c (.int .u8 1))),ia 25 1 16 21,sb 1 25 24] (sr [mt 26 4,
  iJ 27 1 26 135,lb 28 1 27,A1 29 (.ari .xor (.t 28) (.c (.int .u8 128))),
  iJ 30 1 26 135,sb 1 30 29] (sr [mt 31 0,nc 32 31,fa 33 0 32,la 34 25 33,mt 35 4,kl 36 318 [(.t 34),(.t 35)],kl 37 317 [(.t 36)],sb 32 2 37,mn 3] .ret)))))))
def As1:LF:=⟨Ash,1,0,38,[.cell 2 true 32,.tmp 3]⟩
def Att:LC:=(sr [mU 2 0] (sr [mU 3 0] (.seq (sr [mt 6 0,A1 7 (.slsl 1 (.t 6) none (some (cI 8))),
  lN 8 0 7,
  mI 9 0] (.block 0 (.loop (sr [ak 10 .lss 9 8] (.seq (DJ 10 0) (.seq (.block 1 (sr [ia 11 1 7 9,lb 12 1 11,mt 5 12] (.reg [mt 13 3,
  aU 14 .shl 13 8,mt 15 5,
  DL 16 .u64 15,ak 17 .or 14 16,mt 3 17]))) (.reg [aI 18 .add 9 1,mt 9 18]))))))) (sr [mt 19 3,mt 2 19] .ret))))
def Ar5:LF:=⟨Att,1,0,20,[.tmp 2]⟩
def Akv:LC:=(sr [A1 4 (.mv (.c .nils))] (sr [aB 5 8] (sr [A1 6 (.slarr 8 1 (.t 5) none none),mt 7 1,kl 8 312 [(.t 6),(.t 7)]] (sr [mt 9 0,A1 10 (.slarr 8 1 (.t 5) none none),
  aP 11 1 1 9 10,mt 4 11] .ret))))
def Ajp:LF:=⟨Akv,2,0,12,[.tmp 4]⟩
def c68:LC:=(sr [A1 0 (.mv (.c .nilp))] (sr [A1 5 (.mkmap zD (.ar 64 (.int .u8))),A1 6 (.mkmap zD (.ar 64 (.int .u8))),A1 7 (.build (.st (.cons .map (.cons (.ar 64 (.int .u8)) (.cons (.ar 64 (.int .u8)) (.cons .bool .nil))))) [(.f 0,1,(.t 6))]),
  bX 8 7,A1 9 (.mkmap zD .bool),A1 10 (.build (.st (.cons .map (.cons .ptr (.cons .map (.cons .slice .nil))))) [(.f 0,1,(.t 5)),(.f 1,1,(.t 8)),(.f 2,1,(.t 9))]),
  bX 11 10,mt 1 11] (.seq (sr [mI 12 0] (.block 0 (.loop (sr [aI 13 .lss 12 16] (.seq (DJ 13 0) (.seq (.block 1 (sr [mt 14 12,mt 2 14] (sr [mt 16 2,kl 17 197 [(.t 16)],mt 15 17,ee 18 15 0,ee 19 15 1,
  aB 3 32,sb 32 3 18,mt 4 19] (.reg [mt 20 1,la 21 32 3,la 22 32 3,kl 23 213 [(.t 21),(.t 22)],kl 24 212 [(.t 20),(.t 23)]])))) (.reg [aI 25 .add 12 1,mt 12 25]))))))) (sr [mt 26 1,mt 0 26] .ret))))
def f68:LF:=⟨c68,0,0,27,[.tmp 0]⟩
def Amx:LC:=(sr [bX 3 1,
 aB 4 32,mn 5] (.seq (sr [mt 7 0,A1 8 (.eq false true .ptr (.t 7) (.c .nilp))] (.cond (.t 8) (sr [A1 9 (.build zD []),A1 10 (.mkif 74 (cI 1)),sb 32 4 9,mt 5 10] .ret) .skip)) (sr [A1 11 (.slarr 64 1 (.t 3) none none),kl 12 319 [(.t 11)],
  aB 6 32,sb 32 6 12] (.seq (.regd [⟨0,0,mt 13 0⟩,⟨1,1,nc 14 13⟩,⟨2,3,fa 15 0 14⟩,⟨3,7,lb 16 1 15⟩,⟨4,0,la 17 32 6⟩,⟨5,0,la 18 64 3⟩,⟨6,63,A0 (.mupd (.ar 32 1 false .int) (.t 16) (.t 17) (.t 18))⟩]) (.seq (.regd [⟨0,0,mt 19 0⟩,⟨1,1,nc 20 19⟩,⟨2,3,fa 21 1 20⟩,⟨3,7,lb 22 1 21⟩,⟨4,0,la 23 32 6⟩,⟨5,0,la 24 64 3⟩,⟨6,63,kl 25 320 [(.t 22),(.t 23),(.t 24)]⟩]) (sr [la 26 32 6,sb 32 4 26,mn 5] .ret))))))
def Ai6:LF:=⟨Amx,2,0,27,[.cell 4 true 32,.tmp 5]⟩
def Asv:LC:=(sr [bX 2 0,
 bX 3 1,
 aB 4 64] (sr [aB 5 64] (.seq (.regd [⟨0,0,A1 6 (.slarr 64 1 (.t 5) none (some (cI 32)))⟩,⟨1,0,A1 7 (.slarr 32 1 (.t 2) none none)⟩,⟨2,3,A1 8 (.copy 1 (.t 6) (.t 7))⟩]) (.seq (.regd [⟨0,0,A1 9 (.slarr 64 1 (.t 5) (some (cI 32)) none)⟩,⟨1,0,A1 10 (.slarr 32 1 (.t 3) none none)⟩,⟨2,3,A1 11 (.copy 1 (.t 9) (.t 10))⟩]) (sr [la 12 64 5,sb 64 4 12] .ret)))))
def Aqc:LF:=⟨Asv,2,0,13,[.cell 4 true 64]⟩
def ZH:LC:=(sr [bX 4 1,
 bX 5 2] (.seq (.regd [⟨0,0,mt 9 0⟩,⟨1,1,nc 10 9⟩,⟨2,3,fa 11 0 10⟩,⟨3,7,lb 12 1 11⟩,⟨4,0,la 13 32 4⟩,⟨5,31,A1 14 (.mlook (.ar 32 1 false .int) (.ar 64 (.int .u8)) true (.t 12) (.t 13))⟩,⟨6,63,mt 8 14⟩,⟨7,127,ee 15 8 0⟩,⟨9,0,aB 6 64⟩,⟨10,511,sb 64 6 15⟩,⟨8,127,ee 16 8 1⟩,⟨11,2047,mt 7 16⟩]) (sr [mt 17 7,A1 18 (.un .not (.t 17))] (.cond (.t 18) (.regd [⟨0,0,mt 19 0⟩,⟨1,1,nc 20 19⟩,⟨2,3,fa 21 0 20⟩,⟨3,7,lb 22 1 21⟩,⟨4,0,la 23 32 4⟩,⟨5,0,la 24 64 5⟩,⟨6,63,A0 (.mupd (.ar 32 1 false .int) (.t 22) (.t 23) (.t 24))⟩]) (sr [la 25 64 6,la 26 64 5,A1 27 (.eq true false (.ar 64 1 false .int) (.t 25) (.t 26)),mt 28 27,mg 29 28 true 0,A2 30 28 true (.nilc (.t 29)),A2 31 28 true (.fadr 129 (.t 30)),A2 32 28 true (.load false 1 (.t 31)),A2 33 28 true (.un .not (.t 32)),
  HR 34 28 33] (.cond (.t 34) (.regd [⟨0,0,mt 35 0⟩,⟨3,0,la 38 64 6⟩,⟨5,3,nc 40 35⟩,⟨6,7,fa 41 1 40⟩,⟨7,15,sb 64 41 38⟩,⟨1,0,mt 36 0⟩,⟨4,0,la 39 64 5⟩,⟨8,127,nc 42 36⟩,⟨9,255,fa 43 65 42⟩,⟨10,511,sb 64 43 39⟩,⟨2,0,mt 37 0⟩,⟨11,2047,nc 44 37⟩,⟨12,4095,fa 45 129 44⟩,⟨13,8191,A0 (.store 1 (.t 45) (.c (.bool true)))⟩]) .skip))))))
def Aac:LF:=⟨ZH,3,0,46,[]⟩
def Xa:LC:=(sr [bX 3 1,
 aB 4 64,mn 5] (.seq (sr [mt 8 0,A1 9 (.eq false true .ptr (.t 8) (.c .nilp))] (.cond (.t 9) (sr [A1 10 (.build (.ar 64 (.int .u8)) []),A1 11 (.mkif 74 (cI 1)),sb 64 4 10,mt 5 11] .ret) .skip)) (.seq (.seq (.regd [⟨0,0,mt 12 0⟩,⟨1,1,nc 13 12⟩,⟨2,3,fa 14 2 13⟩,⟨3,7,lb 15 1 14⟩,⟨4,0,la 16 32 3⟩,⟨5,31,A1 17 (.mlook (.ar 32 1 false .int) .bool false (.t 15) (.t 16))⟩,⟨6,63,A1 18 (.un .not (.t 17))⟩]) (.cond (.t 18) (.seq (.regd [⟨0,0,mt 19 0⟩,⟨1,1,nc 20 19⟩,⟨2,3,fa 21 2 20⟩,⟨3,7,lb 22 1 21⟩,⟨4,0,la 23 32 3⟩,⟨5,31,A0 (.mupd (.ar 32 1 false .int) (.t 22) (.t 23) (.c (.bool true)))⟩])
 (.regd [⟨1,0,mt 25 0⟩,⟨2,1,nc 26 25⟩,⟨3,3,fa 27 3 26⟩,⟨4,7,lb 28 1 27⟩,⟨5,0,la 29 32 3⟩,⟨6,16,A1 30 (.bsl 32 1 zD [(.i 32 0,32,(.t 29))])⟩,⟨7,63,aP 31 32 32 28 30⟩,⟨0,0,mt 24 0⟩,⟨8,255,nc 32 24⟩,⟨9,511,fa 33 3 32⟩,⟨10,1023,sb 1 33 31⟩])) .skip)) (.seq (.regd [⟨0,0,mt 35 0⟩,⟨1,1,nc 36 35⟩,⟨2,3,fa 37 0 36⟩,⟨3,7,lb 38 1 37⟩,⟨4,0,la 39 32 3⟩,⟨5,31,A1 40 (.mlook (.ar 32 1 false .int) (.ar 64 (.int .u8)) true (.t 38) (.t 39))⟩,⟨6,63,mt 34 40⟩,⟨7,127,ee 41 34 0⟩,⟨9,0,aB 6 64⟩,⟨10,511,sb 64 6 41⟩,⟨8,127,ee 42 34 1⟩,⟨11,2047,mt 7 42⟩]) (.seq (sr [mt 43 7,A1 44 (.un .not (.t 43))] (.cond (.t 44) (sr [A1 45 (.build (.ar 64 (.int .u8)) []),A1 46 (.mkif 74 (cI 14)),sb 64 4 45,mt 5 46] .ret) .skip)) (sr [la 47 64 6,sb 64 4 47,mn 5] .ret))))))
def Xu:LF:=⟨Xa,2,0,48,[.cell 4 true 64,.tmp 5]⟩
variable {M:Seat}
structure OkH (M:Seat):Prop where
 k319:Ar M 319 Ato=true
 k418:Ar M 418 Aqb=true
 k419:Ar M 419 Aqf=true
 k420:Ar M 420 As1=true
def KY (p:Nat→BitVec 8) (j:Nat):BitVec 8:=if j < 64 then p j else if j=64 then 1 else if j=135 then 128 else 0
def HL (s:List (BitVec 64)) (rest:V):V:=.st 26 (.fcons 0 (.ar 1 25 (ws s)) (.fcons 25 rest .fnil))
def zst:List (BitVec 64):=List.replicate 25 0
theorem Anw (j:Nat):zst.getD j 0=0:=by
 simp only [zst,List.getD,List.getElem?_replicate];split <;> rfl
def Co (p:Nat→BitVec 8):Dg:=Yr (Nd zst (KY p))
theorem Wa (ok:OkH M):Ae M 418 [] [] 0 (Q3 (.ptr 0 []) [(0,HL zst .nils)] 1):=by
 refine Ab ok.k418 rfl fun x hx=>?_;refine eX ?_;simp only [Aqb,Arm,LZ,seval];refine Nb hx [32] (.ptr 0 []) ([(0,HL zst .nils)]) 1 ?_;simp only [HL,LY,seval];exact fun i _=>(Anw i).symm
theorem Wu (ok:OkH M) (s:List (BitVec 64)) (p:Nat→BitVec 8) :
 Ae M 419 [.ptr 0 [],.lst 1 64 (fun j=>B (p j))] [(0,HL s .nils)] 1 (Q3 .nili [(0,HL s (.sl 1 [] 0 64 1)),(1,.ar 1 64 (fun j=>B (p j)))] 2):=by
 refine Ab ok.k419 rfl fun x hx=>?_;refine eX ?_;simp only [Aqf,Auk,HL,LZ,seval];refine A5 ?_;refine eX ?_;simp only [LZ,seval];refine Nb hx [0,145] (.nili) ([(0,HL s (.sl 1 [] 0 64 1)),(1,.ar 1 64 (fun j=>B (p j)))]) 2 ?_;simp only [HL,LY,seval]
theorem WT (okA:OkM M) (ok:OkH M) (s:List (BitVec 64)) (p:Nat→BitVec 8) :
 Ae M 420 [.imm (HL s (.lst 1 64 (fun j=>B (p j))))] [] 0 (Q3 (Ai (dg (Yr (Nd s (KY p)))) .nili) [] 0):=by
 refine Ab ok.k420 rfl fun x hx=>?_;have m1:min 64 136=64:=rfl;have m2:∀ i:Nat,(0≤i)=True:=fun i=>eq_true (Nat.zero_le i);refine eX ?_;simp only [As1,Ash,HL,m1,m2,LZ,seval];refine cpK (Hl okA s (KY p)) (by (try simp only [Ns,LY,seval]) <;> first | exact q1 | ((intro j hj;simp only [KY];repeat' split <;> first | omega | rfl | simp_all | (subst_vars;rfl)))) (by simp only [Ns,LX]) ?_;simp only [LZ,seval];refine Aj (JL okA (Nd s (KY p))) ?_;simp only [LZ,seval];refine Ap.mk hx [] [] (Ai (dg (Yr (Nd s (KY p)))) .nili) [] 0 Al (by (simp only [Di,seval])) (by (try simp only [KR,seval]) <;> exact q2) trivial ⟨rfl,rfl,rfl⟩
theorem Du (okA:OkM M) (ok:OkH M) (p:Nat→BitVec 8) :
 Ae M 319 [.lst 1 64 (fun j=>B (p j))] [] 0 (Q3 (dg (Co p)) [] 0):=by
 refine Ab ok.k319 rfl fun x hx=>?_;refine eX ?_;simp only [Ato,Aps,LZ,seval];have zz:=@HL.eq_1;refine Jp (Wa ok) ?_;simp only [HL,LZ,seval];have zz:=@HL.eq_1;refine GY [16] (Wu ok zst p) ?_;simp only [HL,LZ,seval];have zz:=@HL.eq_1;refine Dh (WT okA ok zst p) ?_;simp only [Bb,seval];refine Ap.mk hx [] [] (dg (Yr (Nd zst (KY p)))) [] 0 Al (by (simp only [Di,seval])) (by (try simp only [KR,seval]) <;> exact q2) trivial ⟨rfl,rfl,rfl⟩
variable {M:Seat}
structure OkS (M:Seat):Prop extends OkH M where
 k68:Ar M 68 f68=true
 k212:Ar M 212 Ai6=true
 k213:Ar M 213 Aqc=true
 k320:Ar M 320 Aac=true
 k328:Ar M 328 Xu=true
def Rn (a b:Dg):Pr:=Pr.mk' fun j=>if j < 32 then a.at j else b.at (j - 32)
theorem Qc (ok:OkS M) (a b:Dg):Ae M 213 [dg a,dg b] [] 0 (Q3 (AL (Rn a b)) [] 0):=by
 refine Ab ok.k213 rfl fun x hx=>?_;have m1:min 32 32=32:=rfl;have m2:∀ i:Nat,(0≤i)=True:=fun i=>eq_true (Nat.zero_le i);refine eX ?_;simp only [Aqc,Asv,Bn,m1,m2,Ns,seval];refine Ap.mk hx [] [] (AL (Rn a b)) [] 0 Al (by simp only [EL,Ii,Fe,LZ,seval]) ?_ trivial ⟨rfl,rfl,rfl⟩;simp only [EL,Fe,AL,LZ,seval,LY];intro j hj;rw [Rn,Pr.at_mk' _ _ hj];by_cases h:j < 32
 ·rw [if_neg Aa,if_pos h,if_pos h]
 ·rw [if_pos Aa,if_neg h]
def Aq (ev:Nat) (a b:Pr) (met:Bool):V:=.st 130 (.fcons 0 (.map ev) (.fcons 1 (AL a) (.fcons 65 (AL b) (.fcons 129 (.bool met) .fnil))))
structure WS where
 pres:List (Dg × Pr)
 ever:List (Dg × Pr)
 a:Pr
 b:Pr
 met:Bool
def WS.kin (w:WS) (h:Dg) (p:Pr):WS:=match En h w.ever with
 | none=>{ w with ever:=Dx h p w.ever }
 | some q=>if ¬ q=p∧w.met=false then { w with a:=q,b:=p,met:=true } else w
theorem Qw (ok:OkS M) (w:WS) (h:Dg) (p:Pr) :
 Ae M 320 [.ptr 0 [],dg h,AL p] [(0,Aq 1 w.a w.b w.met),(1,BG AL Pr.zero w.ever)] 2
  (Q3 (.tup .fnil) [(0,Aq 1 (w.kin h p).a (w.kin h p).b (w.kin h p).met),(1,BG AL Pr.zero (w.kin h p).ever)] 2):=by
 refine Ab ok.k320 rfl fun x hx=>?_;cases hl:En h w.ever with
 | none =>
   refine eX ?_;simp only [Aac,ZH,Aq,hl,Bn,seval];have e:w.kin h p={ w with ever:=Dx h p w.ever }:=by simp only [WS.kin,hl]
   rw [e];refine Nb hx [0,1] (.tup .fnil) ([(0,Aq 1 w.a w.b w.met),(1,BG AL Pr.zero (Dx h p w.ever))]) 2 ?_;simp only [Aq,BI,seval]
 | some q =>
   by_cases hq:q=p
   ·have e:w.kin h p=w:=by simp only [WS.kin,hl,hq,not_true_eq_false,false_and,if_false]
    refine eX ?_;simp only [Aac,ZH,Aq,hl,hq,Bn,seval];rw [e];refine Nb hx [0,1] (.tup .fnil) ([(0,Aq 1 w.a w.b w.met),(1,BG AL Pr.zero w.ever)]) 2 ?_;simp only [Aq,BI,seval]
   ·cases hm:w.met with
    | true =>
      have e:w.kin h p=w:=by simp [WS.kin,hl,hm]
      refine eX ?_;simp only [Aac,ZH,Aq,hl,hq,Bn,hm,seval];rw [e];refine Nb hx [0,1] (.tup .fnil) ([(0,Aq 1 w.a w.b w.met),(1,BG AL Pr.zero w.ever)]) 2 ?_;simp only [Aq,hm,BI,seval]
    | false =>
      have e:w.kin h p={ w with a:=q,b:=p,met:=true }:=by simp [WS.kin,hl,hm,hq]
      refine eX ?_;simp only [Aac,ZH,Aq,hl,hq,Bn,hm,seval];rw [e];refine Nb hx [0,1] (.tup .fnil) ([(0,Aq 1 q p true),(1,BG AL Pr.zero w.ever)]) 2 ?_;simp only [Aq,hm,BI,seval]
def Uh (va:V):V:=.st 4 (.fcons 0 (.map 1) (.fcons 1 (.ptr 2 []) (.fcons 2 (.map 4) (.fcons 3 va .fnil))))
def MW:=(AY @Aq.eq_1 @Uh.eq_1)
def Gi (w:WS) (va:V):Hp:=[(0,Uh va),(1,BG AL Pr.zero w.pres),(2,Aq 3 w.a w.b w.met),(3,BG AL Pr.zero w.ever)]
def WS.add (w:WS) (p:Pr):WS:=({ w with pres:=Dx (Co p.at) p w.pres }:WS).kin (Co p.at) p
theorem PN (w:WS) (h:Dg) (p:Pr):(w.kin h p).pres=w.pres:=by
 unfold WS.kin;split <;> (try split) <;> rfl
theorem Aah (w:WS) (l:List (Dg × Pr)) (h:Dg) (p:Pr):({ w with pres:=l }:WS).kin h p={ w.kin h p with pres:=l }:=by
 unfold WS.kin;dsimp only;split <;> (try split) <;> rfl
theorem NL (okA:OkM M) (ok:OkS M) (w:WS) (p:Pr)  :
 Ae M 212 [.ptr 0 [],AL p] (Gi w (.nils)) 5 (Q3 (Ai (dg (Co p.at)) .nili) (Gi (w.add p) (.nils)) 5):=by
 refine Ab ok.k212 rfl fun x hx=>?_;have e:w.add p={ w.kin (Co p.at) p with pres:=Dx (Co p.at) p w.pres }:=by rw [WS.add,Aah]
 refine eX ?_;simp only [Ai6,Amx,Gi,Uh,Bn,seval];have zz:=@l6;refine Dh (Du okA ok.toOkH p.at) ?_;simp only [Bn,seval];have zz:=AY @Cg @Aq.eq_1;refine U2 [2,3] (Qw ok w (Co p.at) p) ?_;simp only [Bn,Aq,seval];refine Nb hx [0,1,2,3,4] (Ai (dg (Co p.at)) .nili) (Gi (w.add p) (.nils)) 5 ?_;all_goals simp only [Gi,MW,e,BI,seval]
theorem Xy (okA:OkM M) (ok:OkS M) (w:WS) (p:Pr) (n:Nat) :
 Ae M 212 [.ptr 0 [],AL p] (Gi w (.sl 5 [] 0 n 32)) 6 (Q3 (Ai (dg (Co p.at)) .nili) (Gi (w.add p) (.sl 5 [] 0 n 32)) 6):=by
 refine Ab ok.k212 rfl fun x hx=>?_;have e:w.add p={ w.kin (Co p.at) p with pres:=Dx (Co p.at) p w.pres }:=by rw [WS.add,Aah]
 refine eX ?_;simp only [Ai6,Amx,Gi,Uh,Bn,seval];have zz:=@l6;refine Dh (Du okA ok.toOkH p.at) ?_;simp only [Bn,seval];have zz:=AY @Cg @Aq.eq_1;refine U2 [2,3] (Qw ok w (Co p.at) p) ?_;simp only [Bn,Aq,seval];refine Nb hx [0,1,2,3,4,5] (Ai (dg (Co p.at)) .nili) (Gi (w.add p) (.sl 5 [] 0 n 32)) 6 ?_;all_goals simp only [Gi,MW,e,BI,seval]
def Gh:Nat→WS
 | 0=>⟨[],[],Pr.zero,Pr.zero,false⟩
 | n + 1=>(Gh n).add (Rn (A4 n) (A4 n))
def Cs (l:List (Dg × Bool)):V:=BG V.bool false l
def AS (w:WS) (va:V) (l:List (Dg × Bool)):Hp:=[(0,Uh va),(1,BG AL Pr.zero w.pres),(2,Aq 3 w.a w.b w.met),(3,BG AL Pr.zero w.ever),(4,Cs l)]
def Ka:=(Em @List.cons_append.{0} @List.nil_append.{0} @Aq.eq_1 @AS.eq_1 @Uh.eq_1)
def JU:=(AY @Ka @c7)
def GW:=(AY @JU @Bn)
theorem Bf (H:Hp) (m z:List Nat) (l:List (Dg × Bool)):Ay H m z (Cs l) (Cs l)=True:=eq_true (Ko H m z V.bool (fun _=>rfl) false l)
def Laa:=(Cv @Cg @Bf @b7)
def Fh:=(AY @LY @Laa)
theorem Fu (l:List (Dg × Bool)):AF (Cs l)=True:=eq_true (Qy V.bool (fun _=>trivial) false l)
def G9:=(AY @Laa @Fu)
theorem A3 (m:List Nat) (l:List (Dg × Bool)):(Cs l).ren m=Cs l:=UU m V.bool (fun _=>rfl) false l
def Lbh:=(Cv @Ka @Cz @A3)
theorem KO (okA:OkM M) (ok:OkS M):Ae M 68 [] [] 0 (Q3 (.ptr 0 []) (AS (Gh 16) .nils []) 5):=by
 refine Ab ok.k68 rfl fun x hx=>?_;refine eX ?_;simp only [f68,c68,Bn,seval];refine Am (σ:=Nat) (fun n=>n≤16) (fun n=>fr 27 [(1,.ptr 0 []),(12,.int .i64 n)]) (fun n=>AS (Gh n) .nils []) (fun _=>5) (fun n=>16 - n) 0 Aa ?_ ?_
 ·refine Ak.fr [112,16,64,32,80] [] hx AG Al ?_ ?_
  ·simp only [LY,seval]
  ·simp only [AS,MW,Gh,Cs,Vu,BI,seval]
 ·intro n hn;refine eX ?_;by_cases h16:n=16
  ·subst h16;simp only [LZ,seval];refine Nb hx [0,1,2,3,4] (.ptr 0 []) (AS (Gh 16) .nils []) 5 ?_;all_goals simp only [AS,MW,Bf,BI,seval]
  ·have d0:((n:Int) < 16)=True:=eq_true Aa;have w0:IntKind.i64.wrap ((n:Int) + 1)=((n + 1:Nat):Int):=AW;simp only [d0,AS,LZ,seval];refine Aj (VL okA n Aa) ?_;simp only [Bb,seval];have zz:=@Cg;refine Dh (Qc ok (A4 n) (A4 n)) ?_;simp only [Bn,seval];have zz:=Cv @Cg @Gi.eq_1 MW;refine Z8 [0,1,2,3,4] [0,1,2,3] (NL okA ok (Gh n) (Rn (A4 n) (A4 n))) ?_;simp only [Cz,Gi,MW,Bf,A3,w0,seval];refine ⟨n + 1,by omega,by omega,?_⟩;refine Ak.fr [0,1,2,3,4] [] hx AG Al ?_ ?_
   ·simp only [LY,seval]
   ·simp only [AS,MW,Gh,Bf,BI,seval]
def j5:=@Aq.eq_1
end Mv
