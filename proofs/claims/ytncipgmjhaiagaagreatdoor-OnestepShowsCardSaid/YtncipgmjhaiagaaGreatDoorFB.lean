/- A part. -/
import Derived.Test.YtncipgmjhaiagaaGreatDoorFA
set_option linter.all false
set_option maxRecDepth 20000
set_option maxHeartbeats 4000000
namespace Mv
open Go
variable {M:Seat}
theorem Wk {A B c:BitVec 64} (h1:A < c):UH A B < c:=by
 rw [BitVec.lt_def] at *
 rw [NJ]
 have hB:=B.isLt
 apply (Nat.div_lt_iff_lt_mul Ak).2
 exact Nat.lt_of_le_of_lt (Nat.mul_le_mul_left _ (Nat.le_of_lt hB)) (Nat.mul_lt_mul_of_pos_right h1 Ak)
theorem Ab2 {A B c:BitVec 64} (h1:A < c) (h2:B < c):VN A B < c:=by
 rw [BitVec.lt_def] at *
 unfold VN
 split
 ·show 0 < _;omega
 ·show 1 < _;omega
theorem N2 (a c:BitVec 64) (hc:¬ c=0#64):HMod.hMod a c < c:=by
 rw [BitVec.lt_def,BitVec.toNat_umod]
 refine Nat.mod_lt _ (Nat.pos_of_ne_zero fun h=>hc (BitVec.eq_of_toNat_eq Jk))
theorem Pz (a b:BitVec 64) (H:Hp):Qw (W a) (W b) (W 0#64) H=⟨True,.tup (.fcons 0 (W (a + b)) (.fcons 1 (W (VN a b)) .fnil)),H⟩:=Pg a b H
theorem Aca (A B:BitVec 64):(VN A B).toNat * 18446744073709551616 + (A + B).toNat=A.toNat + B.toNat:=by
 have h1:=A.isLt
 have h2:=B.isLt
 rw [BitVec.toNat_add]
 unfold VN
 split
 ·show 0 * 18446744073709551616 + _=_
  omega
 ·show 1 * 18446744073709551616 + _=_
  omega
theorem ZD (a b c:BitVec 64):((VN (HMod.hMod a c) (HMod.hMod b c)).toNat * 18446744073709551616 + (HMod.hMod a c + HMod.hMod b c).toNat) % c.toNat=(a.toNat + b.toNat) % c.toNat:=by
 rw [Aca,BitVec.toNat_umod,BitVec.toNat_umod,← Nat.add_mod]
theorem Zk (a b c:BitVec 64):((UH (HMod.hMod a c) (HMod.hMod b c)).toNat * 18446744073709551616 + (HMod.hMod a c * HMod.hMod b c).toNat) % c.toNat=(a.toNat * b.toNat) % c.toNat:=by
 have e:(UH (HMod.hMod a c) (HMod.hMod b c)).toNat * 18446744073709551616 + (HMod.hMod a c * HMod.hMod b c).toNat=(HMod.hMod a c).toNat * (HMod.hMod b c).toNat:=by
  rw [NJ,BitVec.toNat_mul]
  have:=Nat.div_add_mod ((HMod.hMod a c).toNat * (HMod.hMod b c).toNat) 18446744073709551616
  have e2:(2:Nat) ^ 64=18446744073709551616:=Ak
  rw [e2]
  omega
 rw [e,BitVec.toNat_umod,BitVec.toNat_umod,← Nat.mul_mod]
theorem QX (ok:OkP M) (a b c:BitVec 64):∃ w,(c ≠ 0#64→w.toNat=(a.toNat + b.toNat) % c.toNat)∧(c=0#64→w=0#64)∧Af M 322 [.int .i64 8,W a,W b,W c] [] 0 (Q3 (W w) [] 0):=by
 by_cases hc:c=0#64
 ·subst hc
  refine ⟨0#64,fun h=>absurd rfl h,fun _=>rfl,Ac ok.k322 rfl fun x hx=>?_⟩
  refine es 2000 ?_;(simp only [UD,Wl,LZ,seval])
  exact Aq.mkZ hx [] ⟨rfl,rfl,rfl⟩
 ·have hcn:(c ≠ 0)=True:=eq_true hc
  have hA':=N2 a c hc
  have hB':=N2 b c hc
  obtain ⟨A,hA⟩:∃ A,HMod.hMod a c=A:=⟨_,rfl⟩
  obtain ⟨B,hB⟩:∃ B,HMod.hMod b c=B:=⟨_,rfl⟩
  rw [hA] at hA'
  rw [hB] at hB'
  obtain ⟨q,r,hrn,hr⟩:=OD ok (VN A B) (A + B) c (Ab2 hA' hB')
  refine ⟨r,fun _=>by rw [hrn,← hA,← hB];exact ZD a b c,fun h=>absurd h hc,Ac ok.k322 rfl fun x hx=>?_⟩
  obtain ⟨hi,hhi⟩:∃ hi,VN A B=hi:=⟨_,rfl⟩
  obtain ⟨lo,hlo⟩:∃ lo,A + B=lo:=⟨_,rfl⟩
  rw [hhi,hlo] at hr
  refine es 2000 ?_;(simp only [UD,Wl,hc,hcn,hA,hB,LZ,seval])
  repeat refine sd ?_
  refine Ah (KE ok A B) ?_
  (simp only [Cb,hhi,hlo,Pz,seval])
  repeat refine sd ?_
  refine Ah (hr) ?_
  (simp only [Cb,seval])
  exact Aq.mkZ hx [] ⟨rfl,rfl,rfl⟩
theorem Rq (ok:OkP M) (a b c:BitVec 64):∃ w,(c ≠ 0#64→w.toNat=(a.toNat * b.toNat) % c.toNat)∧(c=0#64→w=0#64)∧Af M 322 [.int .i64 9,W a,W b,W c] [] 0 (Q3 (W w) [] 0):=by
 by_cases hc:c=0#64
 ·subst hc
  refine ⟨0#64,fun h=>absurd rfl h,fun _=>rfl,Ac ok.k322 rfl fun x hx=>?_⟩
  refine es 2000 ?_;(simp only [UD,Wl,LZ,seval])
  exact Aq.mkZ hx [] ⟨rfl,rfl,rfl⟩
 ·have hcn:(c ≠ 0)=True:=eq_true hc
  have hA':=N2 a c hc
  have hB':=N2 b c hc
  obtain ⟨A,hA⟩:∃ A,HMod.hMod a c=A:=⟨_,rfl⟩
  obtain ⟨B,hB⟩:∃ B,HMod.hMod b c=B:=⟨_,rfl⟩
  rw [hA] at hA'
  rw [hB] at hB'
  obtain ⟨q,r,hrn,hr⟩:=OD ok (UH A B) (A * B) c (Wk hA')
  refine ⟨r,fun _=>by rw [hrn,← hA,← hB];exact Zk a b c,fun h=>absurd h hc,Ac ok.k322 rfl fun x hx=>?_⟩
  obtain ⟨hi,hhi⟩:∃ hi,UH A B=hi:=⟨_,rfl⟩
  obtain ⟨lo,hlo⟩:∃ lo,A * B=lo:=⟨_,rfl⟩
  rw [hhi,hlo] at hr
  refine es 2000 ?_;(simp only [UD,Wl,hc,hcn,hA,hB,LZ,seval])
  repeat refine sd ?_
  refine Ah (KE ok A B) ?_
  (simp only [Cb,hhi,hlo,Pz,seval])
  repeat refine sd ?_
  refine Ah (hr) ?_
  (simp only [Cb,seval])
  exact Aq.mkZ hx [] ⟨rfl,rfl,rfl⟩
theorem G6 (b:BitVec 64) (n:Nat):BitVec.ofInt 64 (b.toInt.fdiv (2 ^ min n 64))=b.sshiftRight n:=by
 rw [Int.fdiv_eq_ediv_of_nonneg _ (Int.pow_nonneg Ak),BitVec.sshiftRight,Int.shiftRight_eq_div_pow]
 congr 1
 have h1:=BitVec.toInt_lt (x:=b)
 have h2:=BitVec.le_toInt b
 by_cases h:n≤64
 ·rw [Nat.min_eq_left h,Aes]
 ·rw [Nat.min_eq_right Aa]
  have hp:(18446744073709551616:Int)≤((2 ^ n:Nat):Int):=by
   have:=Nat.pow_le_pow_right (n:=2) Ak (show 64≤n by omega)
   have e:(2:Nat) ^ 64=18446744073709551616:=Ak
   omega
  have e64:(2:Int) ^ 64=18446744073709551616:=Ak
  rw [e64]
  generalize ((2 ^ n:Nat):Int)=m at hp
  have e63:(2:Int) ^ (64 - 1)=9223372036854775808:=Ak
  rw [e63] at h1 h2
  by_cases hb:0≤b.toInt
  ·rw [Int.ediv_eq_zero_of_lt hb Aa,Int.ediv_eq_zero_of_lt hb Aa]
  ·have k1:b.toInt / 18446744073709551616 = -1:=Aa
   have k2:b.toInt / m = -1:=by
    have l1:-1≤b.toInt / m:=(Int.le_ediv_iff_mul_le Aa).2 Aa
    have l2:b.toInt / m < 0:=Int.ediv_neg_of_neg_of_pos Aa Aa
    omega
   rw [k1,k2]
def Fn (op:Nat) (a b:BitVec 64):BitVec 64 :=
 if op=11 then (if 7#64≤a then b else (b <<< (56#64 - 8#64 * a)).sshiftRight (56#64 - 8#64 * a).toNat)
 else if op=12 then (if 7#64 < a then 0#64 else (b >>> (56#64 - 8#64 * a)) &&& 255#64)
 else if op=13 then b <<< a else if op=14 then b >>> a else b.sshiftRight a.toNat
theorem Kd (ok:OkP M) (a b:BitVec 64):Af M 324 [.int .i64 11,W a,W b] [] 0 (Q3 (W (Fn 11 a b)) [] 0):=by
 generalize hF:Fn 11 a b=F
 simp only [Fn,seval,CD] at hF
 rcases Classical.propComplete (7#64≤a) with h | h
 ·refine Ac ok.k324 rfl fun x hx=>?_
  simp only [h,if_true] at hF
  refine es 2000 ?_;(simp only [NF,OQ,h,G6,LZ,seval])
  repeat refine sd ?_
  subst hF
  exact Aq.mkZ hx [] ⟨rfl,rfl,rfl⟩
 ·refine Ac ok.k324 rfl fun x hx=>?_
  simp only [h,if_false] at hF
  refine es 2000 ?_;(simp only [NF,OQ,h,G6,LZ,seval])
  repeat refine sd ?_
  subst hF
  exact Aq.mkZ hx [] ⟨rfl,rfl,rfl⟩
theorem Kj (ok:OkP M) (a b:BitVec 64):Af M 324 [.int .i64 12,W a,W b] [] 0 (Q3 (W (Fn 12 a b)) [] 0):=by
 generalize hF:Fn 12 a b=F
 simp only [Fn,seval,CD] at hF
 rcases Classical.propComplete (7#64 < a) with h | h
 ·refine Ac ok.k324 rfl fun x hx=>?_
  simp only [h,if_true] at hF
  refine es 2000 ?_;(simp only [NF,OQ,h,G6,LZ,seval])
  repeat refine sd ?_
  subst hF
  exact Aq.mkZ hx [] ⟨rfl,rfl,rfl⟩
 ·refine Ac ok.k324 rfl fun x hx=>?_
  simp only [h,if_false] at hF
  refine es 2000 ?_;(simp only [NF,OQ,h,G6,LZ,seval])
  repeat refine sd ?_
  subst hF
  exact Aq.mkZ hx [] ⟨rfl,rfl,rfl⟩
theorem KZ (ok:OkP M) (a b:BitVec 64):Af M 324 [.int .i64 13,W a,W b] [] 0 (Q3 (W (Fn 13 a b)) [] 0):=by
 generalize hF:Fn 13 a b=F
 simp only [Fn,seval,CD] at hF
 refine Ac ok.k324 rfl fun x hx=>?_
 refine es 2000 ?_;(simp only [NF,OQ,G6,LZ,seval])
 repeat refine sd ?_
 subst hF
 exact Aq.mkZ hx [] ⟨rfl,rfl,rfl⟩
theorem Km (ok:OkP M) (a b:BitVec 64):Af M 324 [.int .i64 14,W a,W b] [] 0 (Q3 (W (Fn 14 a b)) [] 0):=by
 generalize hF:Fn 14 a b=F
 simp only [Fn,seval,CD] at hF
 refine Ac ok.k324 rfl fun x hx=>?_
 refine es 2000 ?_;(simp only [NF,OQ,G6,LZ,seval])
 repeat refine sd ?_
 subst hF
 exact Aq.mkZ hx [] ⟨rfl,rfl,rfl⟩
theorem KY (ok:OkP M) (a b:BitVec 64):Af M 324 [.int .i64 15,W a,W b] [] 0 (Q3 (W (Fn 15 a b)) [] 0):=by
 generalize hF:Fn 15 a b=F
 simp only [Fn,seval,CD] at hF
 refine Ac ok.k324 rfl fun x hx=>?_
 refine es 2000 ?_;(simp only [NF,OQ,G6,LZ,seval])
 repeat refine sd ?_
 subst hF
 exact Aq.mkZ hx [] ⟨rfl,rfl,rfl⟩
def P1 (op:Nat) (a b c:BitVec 64):BitVec 64 :=
 if op=1 then a + b else if op=2 then a - b else if op=3 then a * b
 else if op=4 ∨ op=5 ∨ op=6 ∨ op=7 then E3 op a b
 else if op=8 then (if c=0#64 then 0#64 else BitVec.ofNat 64 ((a.toNat + b.toNat) % c.toNat))
 else if op=9 then (if c=0#64 then 0#64 else BitVec.ofNat 64 ((a.toNat * b.toNat) % c.toNat))
 else if op=10 then Yd 64 a b 1#64
 else if op=11 ∨ op=12 ∨ op=13 ∨ op=14 ∨ op=15 then Fn op a b
 else if op=16 then Vg (decide (a < b)) else if op=17 then Vg (decide (b < a))
 else if op=18 then Vg (decide (a.toInt < b.toInt)) else if op=19 then Vg (decide (b.toInt < a.toInt))
 else if op=20 then Vg (decide (a=b)) else if op=21 then Vg (decide (a=0#64))
 else if op=22 then a &&& b else if op=23 then a ||| b else if op=24 then a ^^^ b else a ^^^ 18446744073709551615#64
theorem Adk {w:BitVec 64} {n:Nat} {c:BitVec 64} (h1:c ≠ 0#64→w.toNat=n % c.toNat) (h2:c=0#64→w=0#64):w=(if c=0#64 then 0#64 else BitVec.ofNat 64 (n % c.toNat)):=by
 split
 ·rename_i h;exact h2 h
 ·rename_i h
  apply BitVec.eq_of_toNat_eq
  have hc:=c.isLt
  have h0:0 < c.toNat:=Nat.pos_of_ne_zero fun e=>h (BitVec.eq_of_toNat_eq (by simpa using e))
  rw [h1 h,BitVec.toNat_ofNat]
  exact (Nat.mod_eq_of_lt (Nat.lt_trans (Nat.mod_lt _ h0) hc)).symm
theorem JY (ok:OkP M) (op:Nat) (h1:1≤op) (h2:op≤25) (a b c:BitVec 64):Af M 215 [.int .i64 op,W a,W b,W c] [] 0 (Q3 (Ao (W (P1 op a b c)) .nili) [] 0):=by
 have c1:((1:Nat):Int)=1:=rfl
 have hd:=fun (op:Nat) h=>MV ok op h a b
 have h4:=hd 4 Ak
 have h5:=hd 5 Ak
 have h6:=hd 6 Ak
 have h7:=hd 7 Ak
 obtain ⟨w8,p8,z8,h8⟩:=QX ok a b c
 obtain ⟨w9,p9,z9,h9⟩:=Rq ok a b c
 rw [Adk p8 z8] at h8
 rw [Adk p9 z9] at h9
 have h10:=QD ok a b
 have h11:=Kd ok a b
 have h12:=Kj ok a b
 have h13:=KZ ok a b
 have h14:=Km ok a b
 have h15:=KY ok a b
 have hf:=fun t=>UA ok t
 have hop:op=1 ∨ op=2 ∨ op=3 ∨ op=22 ∨ op=23 ∨ op=24 ∨ op=25 ∨ op=16 ∨ op=17 ∨ op=18 ∨ op=19 ∨ op=20 ∨ op=21 ∨ op=4 ∨ op=5 ∨ op=6 ∨ op=7 ∨ op=8 ∨ op=9 ∨ op=10 ∨ op=11 ∨ op=12 ∨ op=13 ∨ op=14 ∨ op=15:=Aa
 rcases hop with rfl | rfl | rfl | rfl | rfl | rfl | rfl | rfl | rfl | rfl | rfl | rfl | rfl | rfl | rfl | rfl | rfl | rfl | rfl | rfl | rfl | rfl | rfl | rfl | rfl
 all_goals
  generalize hF:P1 _ a b c=F
  simp only [P1,seval,CD,or_true,true_or,or_self,or_false] at hF
 iterate 7
  focus
   refine Ac ok.k215 rfl fun x hx=>?_
   refine es 2000 ?_;(simp only [Ua,Ab4,c1,Lbp,seval])
   subst hF
   exact Aq.mkZ hx [] ⟨rfl,rfl,rfl⟩
 iterate 6
  focus
   refine Ac ok.k215 rfl fun x hx=>?_
   refine es 2000 ?_;(simp only [Ua,Ab4,Lbp,seval])
   refine Ah (hf _) ?_
   (simp only [LZ,seval])
   subst hF
   exact Aq.mkZ hx [] ⟨rfl,rfl,rfl⟩
 all_goals
  refine Ac ok.k215 rfl fun x hx=>?_
  refine es 2000 ?_;(simp only [Ua,Ab4,Lbp,seval])
  first
   | (refine Ah (h4) ?_)
   | (refine Ah (h5) ?_)
   | (refine Ah (h6) ?_)
   | (refine Ah (h7) ?_)
   | (refine Ah (h8) ?_)
   | (refine Ah (h9) ?_)
   | (refine Ah (h10) ?_)
   | (refine Ah (h11) ?_)
   | (refine Ah (h12) ?_)
   | (refine Ah (h13) ?_)
   | (refine Ah (h14) ?_)
   | (refine Ah (h15) ?_)
  (simp only [LZ,seval])
  subst hF
  exact Aq.mkZ hx [] ⟨rfl,rfl,rfl⟩
def ZW:LC:=(sr [A1 8 (.mv (cU 0)),
 A1 9 (.mv (cI 0))]
 (.seq (sr [mt 18 0]
 (.block 0 (sr [A1 20 (.ari .eql (.t 18) (cI 1)),
  mt 19 20]
 (.cond (.t 19) (sr [mt 21 1,
  mt 22 2,
  A1 23 (.ari .add (.t 21) (.t 22)),
  mt 8 23,
  A1 9 (.mv (cI 0))]
 (.ret)) (sr [A1 25 (.ari .eql (.t 18) (cI 2)),
  mt 24 25]
 (.cond (.t 24) (sr [mt 26 1,
  mt 27 2,
  A1 28 (.ari .sub (.t 26) (.t 27)),
  mt 8 28,
  A1 9 (.mv (cI 0))]
 (.ret)) (sr [A1 30 (.ari .eql (.t 18) (cI 3)),
  mt 29 30]
 (.cond (.t 29) (sr [mt 32 1,
  mt 33 2,
  kl 34 226 [(.t 32),(.t 33)],
  mt 31 34,
  A1 35 (.ext (.t 31) 0),
  A1 36 (.ext (.t 31) 1),
  mt 10 35,
  mt 11 36]
 (sr [mt 37 11,
  mt 8 37,
  A1 9 (.mv (cI 0))]
 (.ret))) (.seq (sr [A1 39 (.ari .eql (.t 18) (cI 4)),
  mt 38 39]
 (.cond (.t 38) (.skip) (sr [A1 40 (.ari .eql (.t 18) (cI 5)),
  mt 38 40]
 (.cond (.t 38) (.skip) (sr [A1 41 (.ari .eql (.t 18) (cI 6)),
  mt 38 41]
 (.cond (.t 38) (.skip) (.reg [A1 42 (.ari .eql (.t 18) (cI 7)),
  mt 38 42])))))))
 (.cond (.t 38) (sr [mt 43 0,
  mt 44 1,
  mt 45 2,
  kl 46 227 [(.t 43),(.t 44),(.t 45)],
  mt 8 46,
  A1 9 (.mv (cI 0))]
 (.ret)) (.seq (sr [A1 48 (.ari .eql (.t 18) (cI 8)),
  mt 47 48]
 (.cond (.t 47) (.skip) (.reg [A1 49 (.ari .eql (.t 18) (cI 9)),
  mt 47 49])))
 (.cond (.t 47) (.seq (sr [mt 50 3,
  A1 51 (.ari .eql (.t 50) (cU 0))]
 (.cond (.t 51) (sr [A1 8 (.mv (cU 0)),
  A1 9 (.mv (cI 0))]
 (.ret)) (.skip)))
 (sr [mt 53 1,
  mt 54 2,
  kl 55 226 [(.t 53),(.t 54)],
  mt 52 55,
  A1 56 (.ext (.t 52) 0),
  A1 57 (.ext (.t 52) 1),
  mt 12 56,
  mt 13 57]
 (.seq (sr [mt 58 0,
  A1 59 (.ari .eql (.t 58) (cI 8))]
 (.cond (.t 59) (sr [mt 60 1,
  mt 61 2,
  A1 62 (.ari .add (.t 60) (.t 61)),
  mt 13 62]
 (.reg [mt 63 13,
  mt 64 1,
  A1 65 (.ari .lss (.t 63) (.t 64)),
  kl 66 228 [(.t 65)],
  mt 12 66])) (.skip)))
 (sr [mt 68 12,
  mt 69 13,
  mt 70 3,
  kl 71 229 [(.t 68),(.t 69),(.t 70)],
  mt 67 71,
  A1 72 (.ext (.t 67) 0),
  A1 73 (.ext (.t 67) 1),
  mt 14 72,
  mt 15 73]
 (sr [mt 74 15,
  mt 8 74,
  A1 9 (.mv (cI 0))]
 (.ret)))))) (sr [A1 76 (.ari .eql (.t 18) (cI 10)),
  mt 75 76]
 (.cond (.t 75) (sr [A1 16 (.mv (cU 1))]
 (.seq (sr [A1 17 (.mv (cI 63))]
 (.block 1 (.loop (.seq (sr [mt 77 17,
  A1 78 (.ari .geq (.t 77) (cI 0))]
 (.cond (.t 78) (.skip) (.exit 1)))
 (.seq (.block 2 (sr [mt 81 16,
  mt 82 16,
  A1 83 (.ari .mul (.t 81) (.t 82)),
  mt 16 83]
 (sr [mt 84 2,
  mt 85 17,
  A1 86 (.conv .u64 (.t 85)),
  A1 87 (.ari .shr (.t 84) (.t 86)),
  A1 88 (.ari .and (.t 87) (cU 1)),
  A1 89 (.ari .eql (.t 88) (cU 1))]
 (.cond (.t 89) (.reg [mt 90 16,
  mt 91 1,
  A1 92 (.ari .mul (.t 90) (.t 91)),
  mt 16 92]) (.skip)))))
 (.reg [mt 79 17,
  A1 80 (.ari .sub (.t 79) (cI 1)),
  mt 17 80]))))))
 (sr [mt 93 16,
  mt 8 93,
  A1 9 (.mv (cI 0))]
 (.ret)))) (.seq (sr [A1 95 (.ari .eql (.t 18) (cI 11)),
  mt 94 95]
 (.cond (.t 94) (.skip) (sr [A1 96 (.ari .eql (.t 18) (cI 12)),
  mt 94 96]
 (.cond (.t 94) (.skip) (sr [A1 97 (.ari .eql (.t 18) (cI 13)),
  mt 94 97]
 (.cond (.t 94) (.skip) (sr [A1 98 (.ari .eql (.t 18) (cI 14)),
  mt 94 98]
 (.cond (.t 94) (.skip) (.reg [A1 99 (.ari .eql (.t 18) (cI 15)),
  mt 94 99])))))))))
 (.cond (.t 94) (sr [mt 100 0,
  mt 101 1,
  mt 102 2,
  kl 103 230 [(.t 100),(.t 101),(.t 102)],
  mt 8 103,
  A1 9 (.mv (cI 0))]
 (.ret)) (sr [A1 105 (.ari .eql (.t 18) (cI 16)),
  mt 104 105]
 (.cond (.t 104) (sr [mt 106 1,
  mt 107 2,
  A1 108 (.ari .lss (.t 106) (.t 107)),
  kl 109 228 [(.t 108)],
  mt 8 109,
  A1 9 (.mv (cI 0))]
 (.ret)) (sr [A1 111 (.ari .eql (.t 18) (cI 17)),
  mt 110 111]
 (.cond (.t 110) (sr [mt 112 1,
  mt 113 2,
  A1 114 (.ari .gtr (.t 112) (.t 113)),
  kl 115 228 [(.t 114)],
  mt 8 115,
  A1 9 (.mv (cI 0))]
 (.ret)) (sr [A1 117 (.ari .eql (.t 18) (cI 18)),
  mt 116 117]
 (.cond (.t 116) (sr [mt 118 1,
  A1 119 (.ari .xor (.t 118) (cU 9223372036854775808)),
  mt 120 2,
  A1 121 (.ari .xor (.t 120) (cU 9223372036854775808)),
  A1 122 (.ari .lss (.t 119) (.t 121)),
  kl 123 228 [(.t 122)],
  mt 8 123,
  A1 9 (.mv (cI 0))]
 (.ret)) (sr [A1 125 (.ari .eql (.t 18) (cI 19)),
  mt 124 125]
 (.cond (.t 124) (sr [mt 126 1,
  A1 127 (.ari .xor (.t 126) (cU 9223372036854775808)),
  mt 128 2,
  A1 129 (.ari .xor (.t 128) (cU 9223372036854775808)),
  A1 130 (.ari .gtr (.t 127) (.t 129)),
  kl 131 228 [(.t 130)],
  mt 8 131,
  A1 9 (.mv (cI 0))]
 (.ret)) (sr [A1 133 (.ari .eql (.t 18) (cI 20)),
  mt 132 133]
 (.cond (.t 132) (sr [mt 134 1,
  mt 135 2,
  A1 136 (.ari .eql (.t 134) (.t 135)),
  kl 137 228 [(.t 136)],
  mt 8 137,
  A1 9 (.mv (cI 0))]
 (.ret)) (sr [A1 139 (.ari .eql (.t 18) (cI 21)),
  mt 138 139]
 (.cond (.t 138) (sr [mt 140 1,
  A1 141 (.ari .eql (.t 140) (cU 0)),
  kl 142 228 [(.t 141)],
  mt 8 142,
  A1 9 (.mv (cI 0))]
 (.ret)) (sr [A1 144 (.ari .eql (.t 18) (cI 22)),
  mt 143 144]
 (.cond (.t 143) (sr [mt 145 1,
  mt 146 2,
  A1 147 (.ari .and (.t 145) (.t 146)),
  mt 8 147,
  A1 9 (.mv (cI 0))]
 (.ret)) (sr [A1 149 (.ari .eql (.t 18) (cI 23)),
  mt 148 149]
 (.cond (.t 148) (sr [mt 150 1,
  mt 151 2,
  A1 152 (.ari .or (.t 150) (.t 151)),
  mt 8 152,
  A1 9 (.mv (cI 0))]
 (.ret)) (sr [A1 154 (.ari .eql (.t 18) (cI 24)),
  mt 153 154]
 (.cond (.t 153) (sr [mt 155 1,
  mt 156 2,
  A1 157 (.ari .xor (.t 155) (.t 156)),
  mt 8 157,
  A1 9 (.mv (cI 0))]
 (.ret)) (sr [A1 159 (.ari .eql (.t 18) (cI 25)),
  mt 158 159]
 (.cond (.t 158) (sr [mt 160 1,
  A1 161 (.ari .xor (.t 160) (cU 18446744073709551615)),
  mt 8 161,
  A1 9 (.mv (cI 0))]
 (.ret)) (.skip)))))))))))))))))))))))))))))))))))))
 (sr [A1 8 (.mv (cU 0)),
  A1 9 (.mv (cI 10))]
 (.ret))))
def YK:LF:=⟨ZW,4,0,162,[.tmp 8,.tmp 9]⟩
def Ald:LC:=(sr [A1 4 (.mv (cU 0)),
 A1 5 (.mv (cU 0))]
 (sr [mt 13 0,
  A1 14 (.ari .and (.t 13) (cU 4294967295)),
  mt 15 0,
  A1 16 (.ari .shr (.t 15) (cU 32)),
  mt 6 14,
  mt 7 16]
 (sr [mt 17 1,
  A1 18 (.ari .and (.t 17) (cU 4294967295)),
  mt 19 1,
  A1 20 (.ari .shr (.t 19) (cU 32)),
  mt 8 18,
  mt 9 20]
 (sr [mt 21 6,
  mt 22 8,
  A1 23 (.ari .mul (.t 21) (.t 22)),
  mt 10 23]
 (sr [mt 24 7,
  mt 25 8,
  A1 26 (.ari .mul (.t 24) (.t 25)),
  mt 27 10,
  A1 28 (.ari .shr (.t 27) (cU 32)),
  A1 29 (.ari .add (.t 26) (.t 28)),
  mt 11 29]
 (sr [mt 30 6,
  mt 31 9,
  A1 32 (.ari .mul (.t 30) (.t 31)),
  mt 33 11,
  A1 34 (.ari .and (.t 33) (cU 4294967295)),
  A1 35 (.ari .add (.t 32) (.t 34)),
  mt 12 35]
 (sr [mt 36 7,
  mt 37 9,
  A1 38 (.ari .mul (.t 36) (.t 37)),
  mt 39 11,
  A1 40 (.ari .shr (.t 39) (cU 32)),
  A1 41 (.ari .add (.t 38) (.t 40)),
  mt 42 12,
  A1 43 (.ari .shr (.t 42) (cU 32)),
  A1 44 (.ari .add (.t 41) (.t 43)),
  mt 45 12,
  A1 46 (.ari .shl (.t 45) (cU 32)),
  mt 47 10,
  A1 48 (.ari .and (.t 47) (cU 4294967295)),
  A1 49 (.ari .or (.t 46) (.t 48)),
  mt 4 44,
  mt 5 49]
 (.ret))))))))
def Ah9:LF:=⟨Ald,2,0,50,[.tmp 4,.tmp 5]⟩
def Ob:LC:=(sr [A1 6 (.mv (cU 0))]
 (.seq (sr [mt 11 2,
  A1 12 (.ari .eql (.t 11) (cU 0))]
 (.cond (.t 12) (sr [A1 6 (.mv (cU 0))]
 (.ret)) (.skip)))
 (.seq (sr [mt 13 0,
  A1 14 (.ari .eql (.t 13) (cI 4)),
  mt 15 14,
  A2 16 15 false (.mv (.t 0)),
  A2 17 15 false (.ari .eql (.t 16) (cI 6)),
  A1 18 (.pick (.t 15) (.c (.bool true)) (.t 17))]
 (.cond (.t 18) (sr [mt 20 1,
  mt 21 2,
  kl 22 229 [(cU 0),(.t 20),(.t 21)],
  mt 19 22,
  A1 23 (.ext (.t 19) 0),
  A1 24 (.ext (.t 19) 1),
  mt 7 23,
  mt 8 24]
 (.seq (sr [mt 25 0,
  A1 26 (.ari .eql (.t 25) (cI 4))]
 (.cond (.t 26) (sr [mt 27 7,
  mt 6 27]
 (.ret)) (.skip)))
 (sr [mt 28 8,
  mt 6 28]
 (.ret)))) (.skip)))
 (sr [mt 30 1,
  kl 31 335 [(.t 30)],
  mt 32 2,
  kl 33 335 [(.t 32)],
  kl 34 229 [(cU 0),(.t 31),(.t 33)],
  mt 29 34,
  A1 35 (.ext (.t 29) 0),
  A1 36 (.ext (.t 29) 1),
  mt 9 35,
  mt 10 36]
 (.seq (sr [mt 37 0,
  A1 38 (.ari .eql (.t 37) (cI 5)),
  mt 39 38,
  A2 40 39 true (.mv (.t 1)),
  ⟨(some 41),.call 336 [(.t 40)],(some (39,true))⟩,
  A2 42 39 true (.mv (.t 2)),
  ⟨(some 43),.call 336 [(.t 42)],(some (39,true))⟩,
  A2 44 39 true (.eq true false .bool (.t 41) (.t 43)),
  A1 45 (.pick (.t 39) (.t 44) (.c (.bool false)))]
 (.cond (.t 45) (sr [mt 46 9,
  A1 47 (.ari .sub (cU 0) (.t 46)),
  mt 6 47]
 (.ret)) (.skip)))
 (.seq (sr [mt 48 0,
  A1 49 (.ari .eql (.t 48) (cI 5))]
 (.cond (.t 49) (sr [mt 50 9,
  mt 6 50]
 (.ret)) (.skip)))
 (.seq (sr [mt 51 1,
  kl 52 336 [(.t 51)]]
 (.cond (.t 52) (sr [mt 53 10,
  A1 54 (.ari .sub (cU 0) (.t 53)),
  mt 6 54]
 (.ret)) (.skip)))
 (sr [mt 55 10,
  mt 6 55]
 (.ret)))))))))
def Lf:LF:=⟨Ob,3,0,56,[.tmp 6]⟩
def Alz:LC:=(sr [A1 2 (.mv (cU 0))]
 (.seq (sr [mt 3 0]
 (.cond (.t 3) (sr [A1 2 (.mv (cU 1))]
 (.ret)) (.skip)))
 (sr [A1 2 (.mv (cU 0))]
 (.ret))))
def Ahc:LF:=⟨Alz,1,0,4,[.tmp 2]⟩
def Ajc:LC:=(sr [A1 6 (.mv (cU 0)),
 A1 7 (.mv (cU 0))]
 (sr [A1 8 (.mv (cU 0)),
  A1 9 (.mv (cU 0))]
 (.seq (sr [A1 10 (.mv (cI 127))]
 (.block 0 (.loop (.seq (sr [mt 13 10,
  A1 14 (.ari .geq (.t 13) (cI 0))]
 (.cond (.t 14) (.skip) (.exit 0)))
 (.seq (.block 1 (sr [A1 11 (.mv (cU 0))]
 (.seq (sr [mt 17 10,
  A1 18 (.ari .geq (.t 17) (cI 64))]
 (.cond (.t 18) (.reg [mt 19 0,
  mt 20 10,
  A1 21 (.ari .sub (.t 20) (cI 64)),
  A1 22 (.conv .u64 (.t 21)),
  A1 23 (.ari .shr (.t 19) (.t 22)),
  A1 24 (.ari .and (.t 23) (cU 1)),
  mt 11 24]) (.reg [mt 25 1,
  mt 26 10,
  A1 27 (.conv .u64 (.t 26)),
  A1 28 (.ari .shr (.t 25) (.t 27)),
  A1 29 (.ari .and (.t 28) (cU 1)),
  mt 11 29])))
 (sr [mt 30 9,
  A1 31 (.ari .shr (.t 30) (cU 63)),
  mt 12 31]
 (sr [mt 32 9,
  A1 33 (.ari .shl (.t 32) (cU 1)),
  mt 34 11,
  A1 35 (.ari .or (.t 33) (.t 34)),
  mt 9 35]
 (sr [mt 36 8,
  A1 37 (.ari .shl (.t 36) (cU 1)),
  mt 8 37]
 (sr [mt 38 12,
  A1 39 (.ari .eql (.t 38) (cU 1)),
  mt 40 39,
  A2 41 40 false (.mv (.t 9)),
  A2 42 40 false (.mv (.t 2)),
  A2 43 40 false (.ari .geq (.t 41) (.t 42)),
  A1 44 (.pick (.t 40) (.c (.bool true)) (.t 43))]
 (.cond (.t 44) (sr [mt 45 9,
  mt 46 2,
  A1 47 (.ari .sub (.t 45) (.t 46)),
  mt 9 47]
 (.reg [mt 48 8,
  A1 49 (.ari .or (.t 48) (cU 1)),
  mt 8 49])) (.skip)))))))))
 (.reg [mt 15 10,
  A1 16 (.ari .sub (.t 15) (cI 1)),
  mt 10 16]))))))
 (sr [mt 50 8,
  mt 51 9,
  mt 6 50,
  mt 7 51]
 (.ret)))))
def Agf:LF:=⟨Ajc,3,0,52,[.tmp 6,.tmp 7]⟩
def UE:LC:=(sr [A1 6 (.mv (cU 0))]
 (sr [A1 7 (.mv (cU 0))]
 (.seq (sr [A1 8 (.mv (cU 0))]
 (.block 0 (.loop (.seq (sr [mt 11 8,
  A1 12 (.ari .lss (.t 11) (cU 64))]
 (.cond (.t 12) (.skip) (.exit 0)))
 (.seq (.block 1 (sr [mt 15 8,
  mt 9 15]
 (sr [A1 10 (.mv (.c (.bool true)))]
 (.seq (sr [mt 16 0]
 (.block 2 (sr [A1 18 (.ari .eql (.t 16) (cI 11)),
  mt 17 18]
 (.cond (.t 17) (sr [mt 19 1,
  A1 20 (.ari .lss (.t 19) (cU 8))]
 (.cond (.t 20) (.reg [mt 21 8,
  mt 22 1,
  A1 23 (.ari .mul (cU 8) (.t 22)),
  A1 24 (.ari .add (.t 23) (cU 7)),
  A1 25 (.mm false (.t 21) (.t 24)),
  mt 9 25]) (.skip))) (sr [A1 27 (.ari .eql (.t 16) (cI 12)),
  mt 26 27]
 (.cond (.t 26) (sr [mt 28 8,
  A1 29 (.ari .lss (.t 28) (cU 8)),
  mt 30 29,
  A2 31 30 true (.mv (.t 1)),
  A2 32 30 true (.ari .lss (.t 31) (cU 8)),
  A1 33 (.pick (.t 30) (.t 32) (.c (.bool false))),
  mt 10 33]
 (.reg [mt 34 1,
  A1 35 (.mm false (.t 34) (cU 7)),
  A1 36 (.ari .mul (cU 8) (.t 35)),
  A1 37 (.ari .sub (cU 56) (.t 36)),
  mt 38 8,
  A1 39 (.ari .add (.t 37) (.t 38)),
  mt 9 39])) (sr [A1 41 (.ari .eql (.t 16) (cI 13)),
  mt 40 41]
 (.cond (.t 40) (sr [mt 42 1,
  mt 43 8,
  A1 44 (.ari .leq (.t 42) (.t 43)),
  mt 10 44]
 (.reg [mt 45 8,
  mt 46 1,
  A1 47 (.ari .sub (.t 45) (.t 46)),
  mt 9 47])) (.seq (sr [A1 49 (.ari .eql (.t 16) (cI 14)),
  mt 48 49]
 (.cond (.t 48) (.skip) (.reg [A1 50 (.ari .eql (.t 16) (cI 15)),
  mt 48 50])))
 (.cond (.t 48) (sr [mt 51 1,
  mt 52 8,
  A1 53 (.ari .sub (cU 64) (.t 52)),
  A1 54 (.ari .lss (.t 51) (.t 53)),
  mt 10 54]
 (sr [mt 55 8,
  mt 56 1,
  A1 57 (.ari .add (.t 55) (.t 56)),
  mt 9 57]
 (sr [mt 58 0,
  A1 59 (.ari .eql (.t 58) (cI 15)),
  mt 60 59,
  A2 61 60 true (.mv (.t 10)),
  A2 62 60 true (.un .not (.t 61)),
  A1 63 (.pick (.t 60) (.t 62) (.c (.bool false)))]
 (.cond (.t 63) (sr [A1 10 (.mv (.c (.bool true)))]
 (.reg [A1 9 (.mv (cU 63))])) (.skip))))) (.skip)))))))))))
 (sr [mt 64 10,
  mt 65 64,
  A2 66 65 true (.mv (.t 9)),
  A2 67 65 true (.ari .lss (.t 66) (cU 64)),
  A1 68 (.pick (.t 65) (.t 67) (.c (.bool false))),
  mt 69 68,
  A2 70 69 true (.mv (.t 2)),
  A2 71 69 true (.mv (.t 9)),
  A2 72 69 true (.ari .shr (.t 70) (.t 71)),
  A2 73 69 true (.ari .and (.t 72) (cU 1)),
  A2 74 69 true (.ari .eql (.t 73) (cU 1)),
  A1 75 (.pick (.t 69) (.t 74) (.c (.bool false)))]
 (.cond (.t 75) (.reg [mt 76 7,
  mt 77 8,
  A1 78 (.ari .shl (cU 1) (.t 77)),
  A1 79 (.ari .or (.t 76) (.t 78)),
  mt 7 79]) (.skip)))))))
 (.reg [mt 13 8,
  A1 14 (.ari .add (.t 13) (cU 1)),
  mt 8 14]))))))
 (sr [mt 80 7,
  mt 6 80]
 (.ret)))))
def QQ:LF:=⟨UE,3,0,81,[.tmp 6]⟩
def Agk:LC:=(sr [A1 2 (.mv (cU 0))]
 (.seq (sr [mt 3 0,
  kl 4 336 [(.t 3)]]
 (.cond (.t 4) (sr [mt 5 0,
  A1 6 (.ari .sub (cU 0) (.t 5)),
  mt 2 6]
 (.ret)) (.skip)))
 (sr [mt 7 0,
  mt 2 7]
 (.ret))))
def ZO:LF:=⟨Agk,1,0,8,[.tmp 2]⟩
def Amh:LC:=(sr [A1 2 (.mv (.c (.bool false)))]
 (sr [mt 3 0,
  A1 4 (.ari .geq (.t 3) (cU 9223372036854775808)),
  mt 2 4]
 (.ret)))
def Adt:LF:=⟨Amh,1,0,5,[.tmp 2]⟩
end Mv
