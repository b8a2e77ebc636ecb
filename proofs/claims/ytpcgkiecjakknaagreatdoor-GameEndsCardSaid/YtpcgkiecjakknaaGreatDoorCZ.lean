/- A part. -/
import Derived.Test.YtpcgkiecjakknaaGreatDoorCY
set_option linter.all false
set_option maxRecDepth 20000
set_option maxHeartbeats 4000000
namespace Mv
open Go
variable {M:Seat}
theorem VG {A B c:BitVec 64} (h1:A < c):Zy A B < c:=by
 rw [BitVec.lt_def] at *
 rw [Qx]
 have hB:=B.isLt
 apply (Nat.div_lt_iff_lt_mul Am).2
 exact Nat.lt_of_le_of_lt (Nat.mul_le_mul_left _ (Nat.le_of_lt hB)) (Nat.mul_lt_mul_of_pos_right h1 Am)
theorem WZ {A B c:BitVec 64} (h1:A < c) (h2:B < c):VV A B < c:=by
 rw [BitVec.lt_def] at *
 unfold VV
 split
 ·show 0 < _;omega
 ·show 1 < _;omega
theorem LJ (a c:BitVec 64) (hc:¬ c=0#64):HMod.hMod a c < c:=by
 rw [BitVec.lt_def,BitVec.toNat_umod]
 refine Nat.mod_lt _ (Nat.pos_of_ne_zero fun h=>hc (BitVec.eq_of_toNat_eq Ke))
theorem NV (a b:BitVec 64) (H:Hp):Po (W a) (W b) (W 0#64) H=⟨True,.tup (.fcons 0 (W (a + b)) (.fcons 1 (W (VV a b)) .fnil)),H⟩:=MP a b H
theorem XV (A B:BitVec 64):(VV A B).toNat * 18446744073709551616 + (A + B).toNat=A.toNat + B.toNat:=by
 have h1:=A.isLt
 have h2:=B.isLt
 rw [BitVec.toNat_add]
 unfold VV
 split
 ·show 0 * 18446744073709551616 + _=_
  omega
 ·show 1 * 18446744073709551616 + _=_
  omega
theorem Yd (a b c:BitVec 64):((VV (HMod.hMod a c) (HMod.hMod b c)).toNat * 18446744073709551616 + (HMod.hMod a c + HMod.hMod b c).toNat) % c.toNat=(a.toNat + b.toNat) % c.toNat:=by
 rw [XV,BitVec.toNat_umod,BitVec.toNat_umod,← Nat.add_mod]
theorem Yz (a b c:BitVec 64):((Zy (HMod.hMod a c) (HMod.hMod b c)).toNat * 18446744073709551616 + (HMod.hMod a c * HMod.hMod b c).toNat) % c.toNat=(a.toNat * b.toNat) % c.toNat:=by
 have e:(Zy (HMod.hMod a c) (HMod.hMod b c)).toNat * 18446744073709551616 + (HMod.hMod a c * HMod.hMod b c).toNat=(HMod.hMod a c).toNat * (HMod.hMod b c).toNat:=by
  rw [Qx,BitVec.toNat_mul]
  have:=Nat.div_add_mod ((HMod.hMod a c).toNat * (HMod.hMod b c).toNat) 18446744073709551616
  have e2:(2:Nat) ^ 64=18446744073709551616:=Am
  rw [e2]
  omega
 rw [e,BitVec.toNat_umod,BitVec.toNat_umod,← Nat.mul_mod]
theorem Qb (ok:OkP M) (a b c:BitVec 64):∃ w,(c ≠ 0#64→w.toNat=(a.toNat + b.toNat) % c.toNat)∧(c=0#64→w=0#64)∧Ag M 322 [.int .i64 8,W a,W b,W c] [] 0 (Q3 (W w) [] 0):=by
 by_cases hc:c=0#64
 ·subst hc
  refine ⟨0#64,fun h=>absurd rfl h,fun _=>rfl,Ab ok.k322 rfl fun x hx=>?_⟩
  refine es 2000 ?_;(simp only [Vg,T6,LZ,seval])
  exact Ar.mkZ hx [] ⟨rfl,rfl,rfl⟩
 ·have hcn:(c ≠ 0)=True:=eq_true hc
  have hA':=LJ a c hc
  have hB':=LJ b c hc
  obtain ⟨A,hA⟩:∃ A,HMod.hMod a c=A:=⟨_,rfl⟩
  obtain ⟨B,hB⟩:∃ B,HMod.hMod b c=B:=⟨_,rfl⟩
  rw [hA] at hA'
  rw [hB] at hB'
  obtain ⟨q,r,hrn,hr⟩:=MC ok (VV A B) (A + B) c (WZ hA' hB')
  refine ⟨r,fun _=>by rw [hrn,← hA,← hB];exact Yd a b c,fun h=>absurd h hc,Ab ok.k322 rfl fun x hx=>?_⟩
  obtain ⟨hi,hhi⟩:∃ hi,VV A B=hi:=⟨_,rfl⟩
  obtain ⟨lo,hlo⟩:∃ lo,A + B=lo:=⟨_,rfl⟩
  rw [hhi,hlo] at hr
  refine es 2000 ?_;(simp only [Vg,T6,hc,hcn,hA,hB,LZ,seval])
  repeat refine sd ?_
  refine Ak (Jj ok A B) ?_
  (simp only [AH,hhi,hlo,NV,seval])
  repeat refine sd ?_
  refine Ak (hr) ?_
  (simp only [AH,seval])
  exact Ar.mkZ hx [] ⟨rfl,rfl,rfl⟩
theorem Pe (ok:OkP M) (a b c:BitVec 64):∃ w,(c ≠ 0#64→w.toNat=(a.toNat * b.toNat) % c.toNat)∧(c=0#64→w=0#64)∧Ag M 322 [.int .i64 9,W a,W b,W c] [] 0 (Q3 (W w) [] 0):=by
 by_cases hc:c=0#64
 ·subst hc
  refine ⟨0#64,fun h=>absurd rfl h,fun _=>rfl,Ab ok.k322 rfl fun x hx=>?_⟩
  refine es 2000 ?_;(simp only [Vg,T6,LZ,seval])
  exact Ar.mkZ hx [] ⟨rfl,rfl,rfl⟩
 ·have hcn:(c ≠ 0)=True:=eq_true hc
  have hA':=LJ a c hc
  have hB':=LJ b c hc
  obtain ⟨A,hA⟩:∃ A,HMod.hMod a c=A:=⟨_,rfl⟩
  obtain ⟨B,hB⟩:∃ B,HMod.hMod b c=B:=⟨_,rfl⟩
  rw [hA] at hA'
  rw [hB] at hB'
  obtain ⟨q,r,hrn,hr⟩:=MC ok (Zy A B) (A * B) c (VG hA')
  refine ⟨r,fun _=>by rw [hrn,← hA,← hB];exact Yz a b c,fun h=>absurd h hc,Ab ok.k322 rfl fun x hx=>?_⟩
  obtain ⟨hi,hhi⟩:∃ hi,Zy A B=hi:=⟨_,rfl⟩
  obtain ⟨lo,hlo⟩:∃ lo,A * B=lo:=⟨_,rfl⟩
  rw [hhi,hlo] at hr
  refine es 2000 ?_;(simp only [Vg,T6,hc,hcn,hA,hB,LZ,seval])
  repeat refine sd ?_
  refine Ak (Jj ok A B) ?_
  (simp only [AH,hhi,hlo,NV,seval])
  repeat refine sd ?_
  refine Ak (hr) ?_
  (simp only [AH,seval])
  exact Ar.mkZ hx [] ⟨rfl,rfl,rfl⟩
theorem FK (b:BitVec 64) (n:Nat):BitVec.ofInt 64 (b.toInt.fdiv (2 ^ min n 64))=b.sshiftRight n:=by
 rw [Int.fdiv_eq_ediv_of_nonneg _ (Int.pow_nonneg Am),BitVec.sshiftRight,Int.shiftRight_eq_div_pow]
 congr 1
 have h1:=BitVec.toInt_lt (x:=b)
 have h2:=BitVec.le_toInt b
 by_cases h:n≤64
 ·rw [Nat.min_eq_left h,Acv]
 ·rw [Nat.min_eq_right Aa]
  have hp:(18446744073709551616:Int)≤((2 ^ n:Nat):Int):=by
   have:=Nat.pow_le_pow_right (n:=2) Am (show 64≤n by omega)
   have e:(2:Nat) ^ 64=18446744073709551616:=Am
   omega
  have e64:(2:Int) ^ 64=18446744073709551616:=Am
  rw [e64]
  generalize ((2 ^ n:Nat):Int)=m at hp
  have e63:(2:Int) ^ (64 - 1)=9223372036854775808:=Am
  rw [e63] at h1 h2
  by_cases hb:0≤b.toInt
  ·rw [Int.ediv_eq_zero_of_lt hb Aa,Int.ediv_eq_zero_of_lt hb Aa]
  ·have k1:b.toInt / 18446744073709551616 = -1:=Aa
   have k2:b.toInt / m = -1:=by
    have l1:-1≤b.toInt / m:=(Int.le_ediv_iff_mul_le Aa).2 Aa
    have l2:b.toInt / m < 0:=Int.ediv_neg_of_neg_of_pos Aa Aa
    omega
   rw [k1,k2]
def Og (op:Nat) (a b:BitVec 64):BitVec 64 :=
 if op=11 then (if 7#64≤a then b else (b <<< (56#64 - 8#64 * a)).sshiftRight (56#64 - 8#64 * a).toNat)
 else if op=12 then (if 7#64 < a then 0#64 else (b >>> (56#64 - 8#64 * a)) &&& 255#64)
 else if op=13 then b <<< a else if op=14 then b >>> a else b.sshiftRight a.toNat
theorem JU (ok:OkP M) (a b:BitVec 64):Ag M 324 [.int .i64 11,W a,W b] [] 0 (Q3 (W (Og 11 a b)) [] 0):=by
 generalize hF:Og 11 a b=F
 simp only [Og,seval,CL] at hF
 rcases Classical.propComplete (7#64≤a) with h | h
 ·refine Ab ok.k324 rfl fun x hx=>?_
  simp only [h,if_true] at hF
  refine es 2000 ?_;(simp only [NX,MK,h,FK,LZ,seval])
  repeat refine sd ?_
  subst hF
  exact Ar.mkZ hx [] ⟨rfl,rfl,rfl⟩
 ·refine Ab ok.k324 rfl fun x hx=>?_
  simp only [h,if_false] at hF
  refine es 2000 ?_;(simp only [NX,MK,h,FK,LZ,seval])
  repeat refine sd ?_
  subst hF
  exact Ar.mkZ hx [] ⟨rfl,rfl,rfl⟩
theorem Is (ok:OkP M) (a b:BitVec 64):Ag M 324 [.int .i64 12,W a,W b] [] 0 (Q3 (W (Og 12 a b)) [] 0):=by
 generalize hF:Og 12 a b=F
 simp only [Og,seval,CL] at hF
 rcases Classical.propComplete (7#64 < a) with h | h
 ·refine Ab ok.k324 rfl fun x hx=>?_
  simp only [h,if_true] at hF
  refine es 2000 ?_;(simp only [NX,MK,h,FK,LZ,seval])
  repeat refine sd ?_
  subst hF
  exact Ar.mkZ hx [] ⟨rfl,rfl,rfl⟩
 ·refine Ab ok.k324 rfl fun x hx=>?_
  simp only [h,if_false] at hF
  refine es 2000 ?_;(simp only [NX,MK,h,FK,LZ,seval])
  repeat refine sd ?_
  subst hF
  exact Ar.mkZ hx [] ⟨rfl,rfl,rfl⟩
theorem IF (ok:OkP M) (a b:BitVec 64):Ag M 324 [.int .i64 13,W a,W b] [] 0 (Q3 (W (Og 13 a b)) [] 0):=by
 generalize hF:Og 13 a b=F
 simp only [Og,seval,CL] at hF
 refine Ab ok.k324 rfl fun x hx=>?_
 refine es 2000 ?_;(simp only [NX,MK,FK,LZ,seval])
 repeat refine sd ?_
 subst hF
 exact Ar.mkZ hx [] ⟨rfl,rfl,rfl⟩
theorem ID (ok:OkP M) (a b:BitVec 64):Ag M 324 [.int .i64 14,W a,W b] [] 0 (Q3 (W (Og 14 a b)) [] 0):=by
 generalize hF:Og 14 a b=F
 simp only [Og,seval,CL] at hF
 refine Ab ok.k324 rfl fun x hx=>?_
 refine es 2000 ?_;(simp only [NX,MK,FK,LZ,seval])
 repeat refine sd ?_
 subst hF
 exact Ar.mkZ hx [] ⟨rfl,rfl,rfl⟩
theorem J4 (ok:OkP M) (a b:BitVec 64):Ag M 324 [.int .i64 15,W a,W b] [] 0 (Q3 (W (Og 15 a b)) [] 0):=by
 generalize hF:Og 15 a b=F
 simp only [Og,seval,CL] at hF
 refine Ab ok.k324 rfl fun x hx=>?_
 refine es 2000 ?_;(simp only [NX,MK,FK,LZ,seval])
 repeat refine sd ?_
 subst hF
 exact Ar.mkZ hx [] ⟨rfl,rfl,rfl⟩
def apW (op:Nat) (a b c:BitVec 64):BitVec 64 :=
 if op=1 then a + b else if op=2 then a - b else if op=3 then a * b
 else if op=4 ∨ op=5 ∨ op=6 ∨ op=7 then Y1 op a b
 else if op=8 then (if c=0#64 then 0#64 else BitVec.ofNat 64 ((a.toNat + b.toNat) % c.toNat))
 else if op=9 then (if c=0#64 then 0#64 else BitVec.ofNat 64 ((a.toNat * b.toNat) % c.toNat))
 else if op=10 then pwr 64 a b 1#64
 else if op=11 ∨ op=12 ∨ op=13 ∨ op=14 ∨ op=15 then Og op a b
 else if op=16 then Z2 (decide (a < b)) else if op=17 then Z2 (decide (b < a))
 else if op=18 then Z2 (decide (a.toInt < b.toInt)) else if op=19 then Z2 (decide (b.toInt < a.toInt))
 else if op=20 then Z2 (decide (a=b)) else if op=21 then Z2 (decide (a=0#64))
 else if op=22 then a &&& b else if op=23 then a ||| b else if op=24 then a ^^^ b else a ^^^ 18446744073709551615#64
theorem Z7 {w:BitVec 64} {n:Nat} {c:BitVec 64} (h1:c ≠ 0#64→w.toNat=n % c.toNat) (h2:c=0#64→w=0#64):w=(if c=0#64 then 0#64 else BitVec.ofNat 64 (n % c.toNat)):=by
 split
 ·rename_i h;exact h2 h
 ·rename_i h
  apply BitVec.eq_of_toNat_eq
  have hc:=c.isLt
  have h0:0 < c.toNat:=Nat.pos_of_ne_zero fun e=>h (BitVec.eq_of_toNat_eq (by simpa using e))
  rw [h1 h,BitVec.toNat_ofNat]
  exact (Nat.mod_eq_of_lt (Nat.lt_trans (Nat.mod_lt _ h0) hc)).symm
theorem Qa (ok:OkP M) (op:Nat) (h1:1≤op) (h2:op≤25) (a b c:BitVec 64):Ag M 215 [.int .i64 op,W a,W b,W c] [] 0 (Q3 (Ah (W (apW op a b c)) .nili) [] 0):=by
 have c1:((1:Nat):Int)=1:=rfl
 have hd:=fun (op:Nat) h=>Mu ok op h a b
 have h4:=hd 4 Am
 have h5:=hd 5 Am
 have h6:=hd 6 Am
 have h7:=hd 7 Am
 obtain ⟨w8,p8,z8,h8⟩:=Qb ok a b c
 obtain ⟨w9,p9,z9,h9⟩:=Pe ok a b c
 rw [Z7 p8 z8] at h8
 rw [Z7 p9 z9] at h9
 have h10:=Pc ok a b
 have h11:=JU ok a b
 have h12:=Is ok a b
 have h13:=IF ok a b
 have h14:=ID ok a b
 have h15:=J4 ok a b
 have hf:=fun t=>Sk ok t
 have hop:op=1 ∨ op=2 ∨ op=3 ∨ op=22 ∨ op=23 ∨ op=24 ∨ op=25 ∨ op=16 ∨ op=17 ∨ op=18 ∨ op=19 ∨ op=20 ∨ op=21 ∨ op=4 ∨ op=5 ∨ op=6 ∨ op=7 ∨ op=8 ∨ op=9 ∨ op=10 ∨ op=11 ∨ op=12 ∨ op=13 ∨ op=14 ∨ op=15:=Aa
 rcases hop with rfl | rfl | rfl | rfl | rfl | rfl | rfl | rfl | rfl | rfl | rfl | rfl | rfl | rfl | rfl | rfl | rfl | rfl | rfl | rfl | rfl | rfl | rfl | rfl | rfl
 all_goals
  generalize hF:apW _ a b c=F
  simp only [apW,seval,CL,or_true,true_or,or_self,or_false] at hF
 iterate 7
  focus
   refine Ab ok.k215 rfl fun x hx=>?_
   refine es 2000 ?_;(simp only [f215,Us,c1,Lbp,seval])
   subst hF
   exact Ar.mkZ hx [] ⟨rfl,rfl,rfl⟩
 iterate 6
  focus
   refine Ab ok.k215 rfl fun x hx=>?_
   refine es 2000 ?_;(simp only [f215,Us,Lbp,seval])
   refine Ak (hf _) ?_
   (simp only [LZ,seval])
   subst hF
   exact Ar.mkZ hx [] ⟨rfl,rfl,rfl⟩
 all_goals
  refine Ab ok.k215 rfl fun x hx=>?_
  refine es 2000 ?_;(simp only [f215,Us,Lbp,seval])
  first
   | (refine Ak (h4) ?_)
   | (refine Ak (h5) ?_)
   | (refine Ak (h6) ?_)
   | (refine Ak (h7) ?_)
   | (refine Ak (h8) ?_)
   | (refine Ak (h9) ?_)
   | (refine Ak (h10) ?_)
   | (refine Ak (h11) ?_)
   | (refine Ak (h12) ?_)
   | (refine Ak (h13) ?_)
   | (refine Ak (h14) ?_)
   | (refine Ak (h15) ?_)
  (simp only [LZ,seval])
  subst hF
  exact Ar.mkZ hx [] ⟨rfl,rfl,rfl⟩
def Aie:LC:=(sr [aB 2 32] (sr [kl 6 418 [],mt 3 6] (sr [mt 7 3,mt 8 0,kl 9 419 [(.t 7),(.t 8)]] (sr [mt 11 3,kl 12 420 [(.t 11)],mt 10 12,ee 13 10 0,ee 14 10 1,
  aB 4 32,sb 32 4 13,mt 5 14] (sr [la 15 32 4,sb 32 2 15] .ret)))))
def Agn:LF:=⟨Aie,1,0,16,[.cell 2 true 32]⟩
def Aih:LC:=(sr [A1 0 (.mv (.c .nilp))] (sr [A1 1 (.build (.st (.cons (.ar 25 (.int .u64)) (.cons .slice .nil))) []),
  bX 2 1,mt 0 2] .ret))
def Ah6:LF:=⟨Aih,0,0,3,[.tmp 0]⟩
def Afd:LC:=(sr [mn 4] (.seq (sr [mt 5 0,A1 6 (.eq false true .ptr (.t 5) (.c .nilp))] (.cond (.t 6) (sr [A1 7 (.mkif 74 (cI 1)),mt 4 7] .ret) .skip)) (sr [mt 8 0,mt 9 0,nc 10 9,fa 11 25 10,lb 12 1 11,mt 13 1,
  aP 14 1 1 12 13,nc 15 8,fa 16 25 15,sb 1 16 14] (.seq (.block 0 (.loop (.seq (sr [mt 17 0,nc 18 17,fa 19 25 18,lb 20 1 19,
  lN 21 0 20,aI 22 .geq 21 136]
 (Dd 22 0)) (.block 1 (.seq (.regd [⟨1,0,mt 24 0⟩,⟨2,1,nc 25 24⟩,⟨3,3,fa 26 0 25⟩,⟨4,7,la 27 25 26⟩,⟨5,0,mt 28 0⟩,⟨6,16,nc 29 28⟩,⟨7,48,fa 30 25 29⟩,⟨8,112,lb 31 1 30⟩,⟨9,240,A1 32 (.slsl 1 (.t 31) none (some (cI 136)))⟩,⟨10,511,kl 33 318 [(.t 27),(.t 32)]⟩,⟨0,0,mt 23 0⟩,⟨11,2047,nc 34 23⟩,⟨12,4095,fa 35 0 34⟩,⟨13,8191,sb 25 35 33⟩]) (.reg [mt 36 0,mt 37 0,nc 38 37,fa 39 25 38,lb 40 1 39,A1 41 (.slsl 1 (.t 40) (some (cI 136)) none),kl 42 277 [(.t 41)],nc 43 36,fa 44 25 43,sb 1 44 42])))))) (sr [mn 4] .ret)))))
def Air:LF:=⟨Afd,2,0,45,[.tmp 4]⟩
def Ahn:LC:=(sr [aB 2 32,mn 3] (.seq (sr [mt 5 0,A1 6 (.eq false true .ptr (.t 5) (.c .nilp))] (.cond (.t 6) (sr [A1 7 (.build (.ar 32 (.int .u8)) []),A1 8 (.mkif 74 (cI 1)),sb 32 2 7,mt 3 8] .ret) .skip)) (sr [A1 9 (.mksl 1 1 (.int .u8) (cI 136) (cI 136)),mt 4 9] (sr [mt 10 4,mt 11 0,nc 12 11,fa 13 25 12,lb 14 1 13,A1 15 (.copy 1 (.t 10) (.t 14))] (sr [mt 16 4,mt 17 0,nc 18 17,fa 19 25 18,lb 20 1 19,
  lN 21 0 20,ia 22 1 16 21,lb 23 1 22,A1 24 (.ari .xor (.t 23) (.c (.int .u8 1))),ia 25 1 16 21,sb 1 25 24] (sr [mt 26 4,
  iJ 27 1 26 135,lb 28 1 27,A1 29 (.ari .xor (.t 28) (.c (.int .u8 128))),
  iJ 30 1 26 135,sb 1 30 29] (sr [mt 31 0,nc 32 31,fa 33 0 32,la 34 25 33,mt 35 4,kl 36 318 [(.t 34),(.t 35)],kl 37 317 [(.t 36)],sb 32 2 37,mn 3] .ret)))))))
def Agp:LF:=⟨Ahn,1,0,38,[.cell 2 true 32,.tmp 3]⟩
def Agy:LC:=(sr [mU 2 0] (sr [mU 3 0] (.seq (sr [mt 6 0,A1 7 (.slsl 1 (.t 6) none (some (cI 8))),
  lN 8 0 7,
  mI 9 0] (.block 0 (.loop (sr [ak 10 .lss 9 8] (.seq (Dd 10 0) (.seq (.block 1 (sr [ia 11 1 7 9,lb 12 1 11,mt 5 12] (.reg [mt 13 3,
  aU 14 .shl 13 8,mt 15 5,
  D0 16 .u64 15,ak 17 .or 14 16,mt 3 17]))) (.reg [aI 18 .add 9 1,mt 9 18]))))))) (sr [mt 19 3,mt 2 19] .ret))))
def Afc:LF:=⟨Agy,1,0,20,[.tmp 2]⟩
def Aam:LC:=(sr [A1 4 (.mv (.c .nils))] (sr [aB 5 8] (sr [A1 6 (.slarr 8 1 (.t 5) none none),mt 7 1,kl 8 312 [(.t 6),(.t 7)]] (sr [mt 9 0,A1 10 (.slarr 8 1 (.t 5) none none),
  aP 11 1 1 9 10,mt 4 11] .ret))))
def Ad1:LF:=⟨Aam,2,0,12,[.tmp 4]⟩
def c68:LC:=(sr [A1 0 (.mv (.c .nilp))] (sr [A1 5 (.mkmap (.ar 32 (.int .u8)) (.ar 64 (.int .u8))),A1 6 (.mkmap (.ar 32 (.int .u8)) (.ar 64 (.int .u8))),A1 7 (.build (.st (.cons .map (.cons (.ar 64 (.int .u8)) (.cons (.ar 64 (.int .u8)) (.cons .bool .nil))))) [(.f 0,1,(.t 6))]),
  bX 8 7,A1 9 (.mkmap (.ar 32 (.int .u8)) .bool),A1 10 (.build (.st (.cons .map (.cons .ptr (.cons .map (.cons .slice .nil))))) [(.f 0,1,(.t 5)),(.f 1,1,(.t 8)),(.f 2,1,(.t 9))]),
  bX 11 10,mt 1 11] (.seq (sr [mI 12 0] (.block 0 (.loop (sr [aI 13 .lss 12 16] (.seq (Dd 13 0) (.seq (.block 1 (sr [mt 14 12,mt 2 14] (sr [mt 16 2,kl 17 197 [(.t 16)],mt 15 17,ee 18 15 0,ee 19 15 1,
  aB 3 32,sb 32 3 18,mt 4 19] (.reg [mt 20 1,la 21 32 3,la 22 32 3,kl 23 213 [(.t 21),(.t 22)],kl 24 212 [(.t 20),(.t 23)]])))) (.reg [aI 25 .add 12 1,mt 12 25]))))))) (sr [mt 26 1,mt 0 26] .ret))))
def f68:LF:=⟨c68,0,0,27,[.tmp 0]⟩
def Af6:LC:=(sr [bX 3 1,
 aB 4 32,mn 5] (.seq (sr [mt 7 0,A1 8 (.eq false true .ptr (.t 7) (.c .nilp))] (.cond (.t 8) (sr [A1 9 (.build (.ar 32 (.int .u8)) []),A1 10 (.mkif 74 (cI 1)),sb 32 4 9,mt 5 10] .ret) .skip)) (sr [A1 11 (.slarr 64 1 (.t 3) none none),kl 12 319 [(.t 11)],
  aB 6 32,sb 32 6 12] (.seq (.regd [⟨0,0,mt 13 0⟩,⟨1,1,nc 14 13⟩,⟨2,3,fa 15 0 14⟩,⟨3,7,lb 16 1 15⟩,⟨4,0,la 17 32 6⟩,⟨5,0,la 18 64 3⟩,⟨6,63,A0 (.mupd (.ar 32 1 false .int) (.t 16) (.t 17) (.t 18))⟩]) (.seq (.regd [⟨0,0,mt 19 0⟩,⟨1,1,nc 20 19⟩,⟨2,3,fa 21 1 20⟩,⟨3,7,lb 22 1 21⟩,⟨4,0,la 23 32 6⟩,⟨5,0,la 24 64 3⟩,⟨6,63,kl 25 320 [(.t 22),(.t 23),(.t 24)]⟩]) (sr [la 26 32 6,sb 32 4 26,mn 5] .ret))))))
def Aet:LF:=⟨Af6,2,0,27,[.cell 4 true 32,.tmp 5]⟩
def Aeo:LC:=(sr [bX 2 0,
 bX 3 1,
 aB 4 64] (sr [aB 5 64] (.seq (.regd [⟨0,0,A1 6 (.slarr 64 1 (.t 5) none (some (cI 32)))⟩,⟨1,0,A1 7 (.slarr 32 1 (.t 2) none none)⟩,⟨2,3,A1 8 (.copy 1 (.t 6) (.t 7))⟩]) (.seq (.regd [⟨0,0,A1 9 (.slarr 64 1 (.t 5) (some (cI 32)) none)⟩,⟨1,0,A1 10 (.slarr 32 1 (.t 3) none none)⟩,⟨2,3,A1 11 (.copy 1 (.t 9) (.t 10))⟩]) (sr [la 12 64 5,sb 64 4 12] .ret)))))
def f213:LF:=⟨Aeo,2,0,13,[.cell 4 true 64]⟩
def Uf:LC:=(sr [bX 4 1,
 bX 5 2] (.seq (.regd [⟨0,0,mt 9 0⟩,⟨1,1,nc 10 9⟩,⟨2,3,fa 11 0 10⟩,⟨3,7,lb 12 1 11⟩,⟨4,0,la 13 32 4⟩,⟨5,31,A1 14 (.mlook (.ar 32 1 false .int) (.ar 64 (.int .u8)) true (.t 12) (.t 13))⟩,⟨6,63,mt 8 14⟩,⟨7,127,ee 15 8 0⟩,⟨9,0,aB 6 64⟩,⟨10,511,sb 64 6 15⟩,⟨8,127,ee 16 8 1⟩,⟨11,2047,mt 7 16⟩]) (sr [mt 17 7,A1 18 (.un .not (.t 17))] (.cond (.t 18) (.regd [⟨0,0,mt 19 0⟩,⟨1,1,nc 20 19⟩,⟨2,3,fa 21 0 20⟩,⟨3,7,lb 22 1 21⟩,⟨4,0,la 23 32 4⟩,⟨5,0,la 24 64 5⟩,⟨6,63,A0 (.mupd (.ar 32 1 false .int) (.t 22) (.t 23) (.t 24))⟩]) (sr [la 25 64 6,la 26 64 5,A1 27 (.eq true false (.ar 64 1 false .int) (.t 25) (.t 26)),mt 28 27,mg 29 28 true 0,A2 30 28 true (.nilc (.t 29)),A2 31 28 true (.fadr 129 (.t 30)),A2 32 28 true (.load false 1 (.t 31)),A2 33 28 true (.un .not (.t 32)),
  Fq 34 28 33] (.cond (.t 34) (.regd [⟨0,0,mt 35 0⟩,⟨3,0,la 38 64 6⟩,⟨5,3,nc 40 35⟩,⟨6,7,fa 41 1 40⟩,⟨7,15,sb 64 41 38⟩,⟨1,0,mt 36 0⟩,⟨4,0,la 39 64 5⟩,⟨8,127,nc 42 36⟩,⟨9,255,fa 43 65 42⟩,⟨10,511,sb 64 43 39⟩,⟨2,0,mt 37 0⟩,⟨11,2047,nc 44 37⟩,⟨12,4095,fa 45 129 44⟩,⟨13,8191,A0 (.store 1 (.t 45) (.c (.bool true)))⟩]) .skip))))))
def Tq:LF:=⟨Uf,3,0,46,[]⟩
def Agh:LC:=(sr [bX 3 1,
 aB 4 64,mn 5] (.seq (sr [mt 8 0,A1 9 (.eq false true .ptr (.t 8) (.c .nilp))] (.cond (.t 9) (sr [A1 10 (.build (.ar 64 (.int .u8)) []),A1 11 (.mkif 74 (cI 1)),sb 64 4 10,mt 5 11] .ret) .skip)) (.seq (.seq (.regd [⟨0,0,mt 12 0⟩,⟨1,1,nc 13 12⟩,⟨2,3,fa 14 2 13⟩,⟨3,7,lb 15 1 14⟩,⟨4,0,la 16 32 3⟩,⟨5,31,A1 17 (.mlook (.ar 32 1 false .int) .bool false (.t 15) (.t 16))⟩,⟨6,63,A1 18 (.un .not (.t 17))⟩]) (.cond (.t 18) (.seq (.regd [⟨0,0,mt 19 0⟩,⟨1,1,nc 20 19⟩,⟨2,3,fa 21 2 20⟩,⟨3,7,lb 22 1 21⟩,⟨4,0,la 23 32 3⟩,⟨5,31,A0 (.mupd (.ar 32 1 false .int) (.t 22) (.t 23) (.c (.bool true)))⟩])
 (.regd [⟨1,0,mt 25 0⟩,⟨2,1,nc 26 25⟩,⟨3,3,fa 27 3 26⟩,⟨4,7,lb 28 1 27⟩,⟨5,0,la 29 32 3⟩,⟨6,16,A1 30 (.bsl 32 1 (.ar 32 (.int .u8)) [(.i 32 0,32,(.t 29))])⟩,⟨7,63,aP 31 32 32 28 30⟩,⟨0,0,mt 24 0⟩,⟨8,255,nc 32 24⟩,⟨9,511,fa 33 3 32⟩,⟨10,1023,sb 1 33 31⟩])) .skip)) (.seq (.regd [⟨0,0,mt 35 0⟩,⟨1,1,nc 36 35⟩,⟨2,3,fa 37 0 36⟩,⟨3,7,lb 38 1 37⟩,⟨4,0,la 39 32 3⟩,⟨5,31,A1 40 (.mlook (.ar 32 1 false .int) (.ar 64 (.int .u8)) true (.t 38) (.t 39))⟩,⟨6,63,mt 34 40⟩,⟨7,127,ee 41 34 0⟩,⟨9,0,aB 6 64⟩,⟨10,511,sb 64 6 41⟩,⟨8,127,ee 42 34 1⟩,⟨11,2047,mt 7 42⟩]) (.seq (sr [mt 43 7,A1 44 (.un .not (.t 43))] (.cond (.t 44) (sr [A1 45 (.build (.ar 64 (.int .u8)) []),A1 46 (.mkif 74 (cI 14)),sb 64 4 45,mt 5 46] .ret) .skip)) (sr [la 47 64 6,sb 64 4 47,mn 5] .ret))))))
def Aha:LF:=⟨Agh,2,0,48,[.cell 4 true 64,.tmp 5]⟩
variable {M:Seat}
structure OkH (M:Seat):Prop where
 k319:Au M 319 Agn=true
 k418:Au M 418 Ah6=true
 k419:Au M 419 Air=true
 k420:Au M 420 Agp=true
def Jf (p:Nat→BitVec 8) (j:Nat):BitVec 8:=if j < 64 then p j else if j=64 then 1 else if j=135 then 128 else 0
def FP (s:List (BitVec 64)) (rest:V):V:=.st 26 (.fcons 0 (.ar 1 25 (ws s)) (.fcons 25 rest .fnil))
def Zn:List (BitVec 64):=List.replicate 25 0
theorem Adg (j:Nat):Zn.getD j 0=0:=by
 simp only [Zn,List.getD,List.getElem?_replicate];split <;> rfl
def DW (p:Nat→BitVec 8):Dg:=Xg (Lf Zn (Jf p))
theorem Ss (ok:OkH M):Ag M 418 [] [] 0 (Q3 (.ptr 0 []) [(0,FP Zn .nils)] 1):=by
 refine Ab ok.k418 rfl fun x hx=>?_
 refine es 2000 ?_;(simp only [Ah6,Aih,LZ,seval])
 refine Rv hx [32] (.ptr 0 []) ([(0,FP Zn .nils)]) 1 ?_
 simp only [FP,LY,seval]
 exact fun i _=>(Adg i).symm
theorem SA (ok:OkH M) (s:List (BitVec 64)) (p:Nat→BitVec 8) :
 Ag M 419 [.ptr 0 [],.lst 1 64 (fun j=>B (p j))] [(0,FP s .nils)] 1 (Q3 .nili [(0,FP s (.sl 1 [] 0 64 1)),(1,.ar 1 64 (fun j=>B (p j)))] 2):=by
 refine Ab ok.k419 rfl fun x hx=>?_
 refine es 2000 ?_;(simp only [Air,Afd,FP,LZ,seval])
 refine AW ?_
 refine es 2000 ?_
 (simp only [LZ,seval])
 refine Rv hx [0,145] (.nili) ([(0,FP s (.sl 1 [] 0 64 1)),(1,.ar 1 64 (fun j=>B (p j)))]) 2 ?_
 simp only [FP,LY,seval]
theorem Sg (okA:OkM M) (ok:OkH M) (s:List (BitVec 64)) (p:Nat→BitVec 8) :
 Ag M 420 [.imm (FP s (.lst 1 64 (fun j=>B (p j))))] [] 0 (Q3 (Ah (dg (Xg (Lf s (Jf p)))) .nili) [] 0):=by
 refine Ab ok.k420 rfl fun x hx=>?_
 have m1:min 64 136=64:=rfl
 have m2:∀ i:Nat,(0≤i)=True:=fun i=>eq_true (Nat.zero_le i)
 refine es 2000 ?_;(simp only [Agp,Ahn,FP,m1,m2,LZ,seval])
 refine cpK (F4 okA s (Jf p)) (by (try simp only [KU,LY,seval]) <;> first | exact q1 | ((intro j hj;simp only [Jf];repeat' split <;> first | omega | rfl | simp_all | (subst_vars;rfl)))) (by simp only [KU,LX]) ?_
 (simp only [LZ,seval])
 refine Ak (HI okA (Lf s (Jf p))) ?_
 (simp only [LZ,seval])
 refine Ar.mk hx [] [] (Ah (dg (Xg (Lf s (Jf p)))) .nili) [] 0 Am (by (simp only [CU,seval])) (by (try simp only [OJ,seval]) <;> exact q2) trivial ⟨rfl,rfl,rfl⟩
theorem C9 (okA:OkM M) (ok:OkH M) (p:Nat→BitVec 8) :
 Ag M 319 [.lst 1 64 (fun j=>B (p j))] [] 0 (Q3 (dg (DW p)) [] 0):=by
 refine Ab ok.k319 rfl fun x hx=>?_
 refine es 2000 ?_;(simp only [Agn,Aie,LZ,seval])
 have zz:=@FP.eq_1;refine Kb (Ss ok) ?_
 (simp only [FP,LZ,seval])
 have zz:=@FP.eq_1;refine SM [16] (SA ok Zn p) ?_
 (simp only [FP,LZ,seval])
 have zz:=@FP.eq_1;refine Ce (Sg okA ok Zn p) ?_
 (simp only [AH,seval])
 refine Ar.mk hx [] [] (dg (Xg (Lf Zn (Jf p)))) [] 0 Am (by (simp only [CU,seval])) (by (try simp only [OJ,seval]) <;> exact q2) trivial ⟨rfl,rfl,rfl⟩
variable {M:Seat}
structure OkS (M:Seat):Prop extends OkH M where
 k68:Au M 68 f68=true
 k212:Au M 212 Aet=true
 k213:Au M 213 f213=true
 k320:Au M 320 Tq=true
 k328:Au M 328 Aha=true
def MA (a b:Dg):Pr:=Pr.mk' fun j=>if j < 32 then a.at j else b.at (j - 32)
theorem NR (ok:OkS M) (a b:Dg):Ag M 213 [dg a,dg b] [] 0 (Q3 (Bk (MA a b)) [] 0):=by
 refine Ab ok.k213 rfl fun x hx=>?_
 have m1:min 32 32=32:=rfl
 have m2:∀ i:Nat,(0≤i)=True:=fun i=>eq_true (Nat.zero_le i)
 refine es 2000 ?_;(simp only [f213,Aeo,EE,m1,m2,KU,seval])
 refine Ar.mk hx [] [] (Bk (MA a b)) [] 0 Am (by simp only [Dz,G1,DC,LZ,seval]) ?_ trivial ⟨rfl,rfl,rfl⟩
 simp only [Dz,DC,Bk,LZ,seval,LY]
 intro j hj
 rw [MA,Pr.at_mk' _ _ hj]
 by_cases h:j < 32
 ·rw [if_neg Aa,if_pos h,if_pos h]
 ·rw [if_pos Aa,if_neg h]
def DV (ev:Nat) (a b:Pr) (met:Bool):V:=.st 130 (.fcons 0 (.map ev) (.fcons 1 (Bk a) (.fcons 65 (Bk b) (.fcons 129 (.bool met) .fnil))))
structure WS where
 pres:List (Dg × Pr)
 ever:List (Dg × Pr)
 a:Pr
 b:Pr
 met:Bool
def WS.kin (w:WS) (h:Dg) (p:Pr):WS:=match Q7 h w.ever with
 | none=>{ w with ever:=Hm h p w.ever }
 | some q=>if ¬ q=p∧w.met=false then { w with a:=q,b:=p,met:=true } else w
theorem SW (ok:OkS M) (w:WS) (h:Dg) (p:Pr) :
 Ag M 320 [.ptr 0 [],dg h,Bk p] [(0,DV 1 w.a w.b w.met),(1,BR Bk Pr.zero w.ever)] 2
  (Q3 (.tup .fnil) [(0,DV 1 (w.kin h p).a (w.kin h p).b (w.kin h p).met),(1,BR Bk Pr.zero (w.kin h p).ever)] 2):=by
 refine Ab ok.k320 rfl fun x hx=>?_
 cases hl:Q7 h w.ever with
 | none =>
   refine es 2000 ?_;(simp only [Tq,Uf,DV,hl,EE,seval])
   have e:w.kin h p={ w with ever:=Hm h p w.ever }:=by simp only [WS.kin,hl]
   rw [e]
   refine Rv hx [0,1] (.tup .fnil) ([(0,DV 1 w.a w.b w.met),(1,BR Bk Pr.zero (Hm h p w.ever))]) 2 ?_
   simp only [DV,Fz,seval]
 | some q =>
   by_cases hq:q=p
   ·have e:w.kin h p=w:=by simp only [WS.kin,hl,hq,not_true_eq_false,false_and,if_false]
    refine es 2000 ?_;(simp only [Tq,Uf,DV,hl,hq,EE,seval])
    rw [e]
    refine Rv hx [0,1] (.tup .fnil) ([(0,DV 1 w.a w.b w.met),(1,BR Bk Pr.zero w.ever)]) 2 ?_
    simp only [DV,Fz,seval]
   ·cases hm:w.met with
    | true =>
      have e:w.kin h p=w:=by simp [WS.kin,hl,hm]
      refine es 2000 ?_;(simp only [Tq,Uf,DV,hl,hq,EE,hm,seval])
      rw [e]
      refine Rv hx [0,1] (.tup .fnil) ([(0,DV 1 w.a w.b w.met),(1,BR Bk Pr.zero w.ever)]) 2 ?_
      simp only [DV,hm,Fz,seval]
    | false =>
      have e:w.kin h p={ w with a:=q,b:=p,met:=true }:=by simp [WS.kin,hl,hm,hq]
      refine es 2000 ?_;(simp only [Tq,Uf,DV,hl,hq,EE,hm,seval])
      rw [e]
      refine Rv hx [0,1] (.tup .fnil) ([(0,DV 1 q p true),(1,BR Bk Pr.zero w.ever)]) 2 ?_
      simp only [DV,hm,Fz,seval]
def VU (va:V):V:=.st 4 (.fcons 0 (.map 1) (.fcons 1 (.ptr 2 []) (.fcons 2 (.map 4) (.fcons 3 va .fnil))))
def Zm:=(Bb @DV.eq_1 @VU.eq_1)
def PF (w:WS) (va:V):Hp:=[(0,VU va),(1,BR Bk Pr.zero w.pres),(2,DV 3 w.a w.b w.met),(3,BR Bk Pr.zero w.ever)]
def WS.add (w:WS) (p:Pr):WS:=({ w with pres:=Hm (DW p.at) p w.pres }:WS).kin (DW p.at) p
theorem Ac4 (w:WS) (l:List (Dg × Pr)) (h:Dg) (p:Pr):({ w with pres:=l }:WS).kin h p={ w.kin h p with pres:=l }:=by
 unfold WS.kin;dsimp only;split <;> (try split) <;> rfl
theorem S4 (okA:OkM M) (ok:OkS M) (w:WS) (p:Pr)  :
 Ag M 212 [.ptr 0 [],Bk p] (PF w (.nils)) 5 (Q3 (Ah (dg (DW p.at)) .nili) (PF (w.add p) (.nils)) 5):=by
 refine Ab ok.k212 rfl fun x hx=>?_
 have e:w.add p={ w.kin (DW p.at) p with pres:=Hm (DW p.at) p w.pres }:=by rw [WS.add,Ac4]
 refine es 2000 ?_;(simp only [Aet,Af6,PF,VU,EE,seval])
 have zz:=@Bk.eq_1;refine Ce (C9 okA ok.toOkH p.at) ?_
 (simp only [EE,seval])
 have zz:=Bb @J3 @DV.eq_1;refine omY [2,3] (SW ok w (DW p.at) p) ?_
 (simp only [EE,DV,seval])
 refine Rv hx [0,1,2,3,4] (Ah (dg (DW p.at)) .nili) (PF (w.add p) (.nils)) 5 ?_
 all_goals simp only [PF,Zm,e,Fz,seval]
def C7:Nat→WS
 | 0=>⟨[],[],Pr.zero,Pr.zero,false⟩
 | n + 1=>(C7 n).add (MA (At n) (At n))
def E8 (l:List (Dg × Bool)):V:=BR V.bool false l
def EZ (w:WS) (va:V) (l:List (Dg × Bool)):Hp:=[(0,VU va),(1,BR Bk Pr.zero w.pres),(2,DV 3 w.a w.b w.met),(3,BR Bk Pr.zero w.ever),(4,E8 l)]
def La2:=(GM @List.cons_append.{0} @List.nil_append.{0} @DV.eq_1 @EZ.eq_1 @VU.eq_1)
theorem Du (H:Hp) (m z:List Nat) (l:List (Dg × Bool)):Az H m z (E8 l) (E8 l)=True:=eq_true (HW H m z V.bool (fun _=>rfl) false l)
def Laa:=(C4 @J3 @Du @dg.eq_1)
def Lbx:=(Bb @LY @Laa)
theorem RP (l:List (Dg × Bool)):AC (E8 l)=True:=eq_true (NQ V.bool (fun _=>trivial) false l)
theorem Iu (m:List Nat) (l:List (Dg × Bool)):(E8 l).ren m=E8 l:=QE m V.bool (fun _=>rfl) false l
theorem Tc (okA:OkM M) (ok:OkS M):Ag M 68 [] [] 0 (Q3 (.ptr 0 []) (EZ (C7 16) .nils []) 5):=by
 refine Ab ok.k68 rfl fun x hx=>?_
 refine es 2000 ?_;(simp only [f68,c68,EE,seval])
 refine An (σ:=Nat) (fun n=>n≤16) (fun n=>fr 27 [(1,.ptr 0 []),(12,.int .i64 n)]) (fun n=>EZ (C7 n) .nils []) (fun _=>5) (fun n=>16 - n) 0 Aa ?_ ?_
 ·refine Ao.fr [112,16,64,32,80] [] hx AQ Am ?_ ?_
  ·simp only [LY,seval]
  ·simp only [EZ,Zm,C7,E8,Zl,Fz,seval]
 ·intro n hn
  refine es 2000 ?_
  by_cases h16:n=16
  ·subst h16
   (simp only [LZ,seval])
   refine Rv hx [0,1,2,3,4] (.ptr 0 []) (EZ (C7 16) .nils []) 5 ?_
   all_goals simp only [EZ,Zm,Du,Fz,seval]
  ·have d0:((n:Int) < 16)=True:=eq_true Aa
   have w0:IntKind.i64.wrap ((n:Int) + 1)=((n + 1:Nat):Int):=AZ
   (simp only [d0,EZ,LZ,seval])
   refine Ak (R4 okA n Aa) ?_
   (simp only [AH,seval])
   have zz:=@J3;refine Ce (NR ok (At n) (At n)) ?_
   (simp only [EE,seval])
   have zz:=C4 @J3 @PF.eq_1 Zm;refine Om [0,1,2,3,4] [0,1,2,3] (S4 okA ok (C7 n) (MA (At n) (At n))) ?_
   (simp only [NC,PF,Zm,Du,Iu,w0,seval])
   refine ⟨n + 1,by omega,by omega,?_⟩
   refine Ao.fr [0,1,2,3,4] [] hx AQ Am ?_ ?_
   ·simp only [LY,seval]
   ·simp only [EZ,Zm,C7,Du,Fz,seval]
end Mv
