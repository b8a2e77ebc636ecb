/- A part. -/
import Derived.Test.YtlfkjfonpacelaaGreatDoorFD
set_option linter.all false
set_option maxRecDepth 20000
set_option maxHeartbeats 4000000
namespace Mv
open Go
variable {M:Seat}
theorem VG {A B c:BitVec 64} (h1:A < c):Zy A B < c:=by
 rw [BitVec.lt_def] at *
 rw [Qx]
 have hB:=B.isLt
 apply (Nat.div_lt_iff_lt_mul Am).2
 exact Nat.lt_of_le_of_lt (Nat.mul_le_mul_left _ (Nat.le_of_lt hB)) (Nat.mul_lt_mul_of_pos_right h1 Am)
theorem WZ {A B c:BitVec 64} (h1:A < c) (h2:B < c):VV A B < c:=by
 rw [BitVec.lt_def] at *
 unfold VV
 split
 ·show 0 < _;omega
 ·show 1 < _;omega
theorem LJ (a c:BitVec 64) (hc:¬ c=0#64):HMod.hMod a c < c:=by
 rw [BitVec.lt_def,BitVec.toNat_umod]
 refine Nat.mod_lt _ (Nat.pos_of_ne_zero fun h=>hc (BitVec.eq_of_toNat_eq Ke))
theorem NV (a b:BitVec 64) (H:Hp):Po (W a) (W b) (W 0#64) H=⟨True,.tup (.fcons 0 (W (a + b)) (.fcons 1 (W (VV a b)) .fnil)),H⟩:=MP a b H
theorem XV (A B:BitVec 64):(VV A B).toNat * 18446744073709551616 + (A + B).toNat=A.toNat + B.toNat:=by
 have h1:=A.isLt
 have h2:=B.isLt
 rw [BitVec.toNat_add]
 unfold VV
 split
 ·show 0 * 18446744073709551616 + _=_
  omega
 ·show 1 * 18446744073709551616 + _=_
  omega
theorem Yd (a b c:BitVec 64):((VV (HMod.hMod a c) (HMod.hMod b c)).toNat * 18446744073709551616 + (HMod.hMod a c + HMod.hMod b c).toNat) % c.toNat=(a.toNat + b.toNat) % c.toNat:=by
 rw [XV,BitVec.toNat_umod,BitVec.toNat_umod,← Nat.add_mod]
theorem Yz (a b c:BitVec 64):((Zy (HMod.hMod a c) (HMod.hMod b c)).toNat * 18446744073709551616 + (HMod.hMod a c * HMod.hMod b c).toNat) % c.toNat=(a.toNat * b.toNat) % c.toNat:=by
 have e:(Zy (HMod.hMod a c) (HMod.hMod b c)).toNat * 18446744073709551616 + (HMod.hMod a c * HMod.hMod b c).toNat=(HMod.hMod a c).toNat * (HMod.hMod b c).toNat:=by
  rw [Qx,BitVec.toNat_mul]
  have:=Nat.div_add_mod ((HMod.hMod a c).toNat * (HMod.hMod b c).toNat) 18446744073709551616
  have e2:(2:Nat) ^ 64=18446744073709551616:=Am
  rw [e2]
  omega
 rw [e,BitVec.toNat_umod,BitVec.toNat_umod,← Nat.mul_mod]
theorem Qb (ok:OkP M) (a b c:BitVec 64):∃ w,(c ≠ 0#64→w.toNat=(a.toNat + b.toNat) % c.toNat)∧(c=0#64→w=0#64)∧Ag M 322 [.int .i64 8,W a,W b,W c] [] 0 (Q3 (W w) [] 0):=by
 by_cases hc:c=0#64
 ·subst hc
  refine ⟨0#64,fun h=>absurd rfl h,fun _=>rfl,Ab ok.k322 rfl fun x hx=>?_⟩
  refine es 2000 ?_;(simp only [Vg,T6,LZ,seval])
  exact Ar.mkZ hx [] ⟨rfl,rfl,rfl⟩
 ·have hcn:(c ≠ 0)=True:=eq_true hc
  have hA':=LJ a c hc
  have hB':=LJ b c hc
  obtain ⟨A,hA⟩:∃ A,HMod.hMod a c=A:=⟨_,rfl⟩
  obtain ⟨B,hB⟩:∃ B,HMod.hMod b c=B:=⟨_,rfl⟩
  rw [hA] at hA'
  rw [hB] at hB'
  obtain ⟨q,r,hrn,hr⟩:=MC ok (VV A B) (A + B) c (WZ hA' hB')
  refine ⟨r,fun _=>by rw [hrn,← hA,← hB];exact Yd a b c,fun h=>absurd h hc,Ab ok.k322 rfl fun x hx=>?_⟩
  obtain ⟨hi,hhi⟩:∃ hi,VV A B=hi:=⟨_,rfl⟩
  obtain ⟨lo,hlo⟩:∃ lo,A + B=lo:=⟨_,rfl⟩
  rw [hhi,hlo] at hr
  refine es 2000 ?_;(simp only [Vg,T6,hc,hcn,hA,hB,LZ,seval])
  repeat refine sd ?_
  refine Ak (Jj ok A B) ?_
  (simp only [AH,hhi,hlo,NV,seval])
  repeat refine sd ?_
  refine Ak (hr) ?_
  (simp only [AH,seval])
  exact Ar.mkZ hx [] ⟨rfl,rfl,rfl⟩
theorem Pe (ok:OkP M) (a b c:BitVec 64):∃ w,(c ≠ 0#64→w.toNat=(a.toNat * b.toNat) % c.toNat)∧(c=0#64→w=0#64)∧Ag M 322 [.int .i64 9,W a,W b,W c] [] 0 (Q3 (W w) [] 0):=by
 by_cases hc:c=0#64
 ·subst hc
  refine ⟨0#64,fun h=>absurd rfl h,fun _=>rfl,Ab ok.k322 rfl fun x hx=>?_⟩
  refine es 2000 ?_;(simp only [Vg,T6,LZ,seval])
  exact Ar.mkZ hx [] ⟨rfl,rfl,rfl⟩
 ·have hcn:(c ≠ 0)=True:=eq_true hc
  have hA':=LJ a c hc
  have hB':=LJ b c hc
  obtain ⟨A,hA⟩:∃ A,HMod.hMod a c=A:=⟨_,rfl⟩
  obtain ⟨B,hB⟩:∃ B,HMod.hMod b c=B:=⟨_,rfl⟩
  rw [hA] at hA'
  rw [hB] at hB'
  obtain ⟨q,r,hrn,hr⟩:=MC ok (Zy A B) (A * B) c (VG hA')
  refine ⟨r,fun _=>by rw [hrn,← hA,← hB];exact Yz a b c,fun h=>absurd h hc,Ab ok.k322 rfl fun x hx=>?_⟩
  obtain ⟨hi,hhi⟩:∃ hi,Zy A B=hi:=⟨_,rfl⟩
  obtain ⟨lo,hlo⟩:∃ lo,A * B=lo:=⟨_,rfl⟩
  rw [hhi,hlo] at hr
  refine es 2000 ?_;(simp only [Vg,T6,hc,hcn,hA,hB,LZ,seval])
  repeat refine sd ?_
  refine Ak (Jj ok A B) ?_
  (simp only [AH,hhi,hlo,NV,seval])
  repeat refine sd ?_
  refine Ak (hr) ?_
  (simp only [AH,seval])
  exact Ar.mkZ hx [] ⟨rfl,rfl,rfl⟩
theorem FK (b:BitVec 64) (n:Nat):BitVec.ofInt 64 (b.toInt.fdiv (2 ^ min n 64))=b.sshiftRight n:=by
 rw [Int.fdiv_eq_ediv_of_nonneg _ (Int.pow_nonneg Am),BitVec.sshiftRight,Int.shiftRight_eq_div_pow]
 congr 1
 have h1:=BitVec.toInt_lt (x:=b)
 have h2:=BitVec.le_toInt b
 by_cases h:n≤64
 ·rw [Nat.min_eq_left h,Acv]
 ·rw [Nat.min_eq_right Aa]
  have hp:(18446744073709551616:Int)≤((2 ^ n:Nat):Int):=by
   have:=Nat.pow_le_pow_right (n:=2) Am (show 64≤n by omega)
   have e:(2:Nat) ^ 64=18446744073709551616:=Am
   omega
  have e64:(2:Int) ^ 64=18446744073709551616:=Am
  rw [e64]
  generalize ((2 ^ n:Nat):Int)=m at hp
  have e63:(2:Int) ^ (64 - 1)=9223372036854775808:=Am
  rw [e63] at h1 h2
  by_cases hb:0≤b.toInt
  ·rw [Int.ediv_eq_zero_of_lt hb Aa,Int.ediv_eq_zero_of_lt hb Aa]
  ·have k1:b.toInt / 18446744073709551616 = -1:=Aa
   have k2:b.toInt / m = -1:=by
    have l1:-1≤b.toInt / m:=(Int.le_ediv_iff_mul_le Aa).2 Aa
    have l2:b.toInt / m < 0:=Int.ediv_neg_of_neg_of_pos Aa Aa
    omega
   rw [k1,k2]
def Og (op:Nat) (a b:BitVec 64):BitVec 64 :=
 if op=11 then (if 7#64≤a then b else (b <<< (56#64 - 8#64 * a)).sshiftRight (56#64 - 8#64 * a).toNat)
 else if op=12 then (if 7#64 < a then 0#64 else (b >>> (56#64 - 8#64 * a)) &&& 255#64)
 else if op=13 then b <<< a else if op=14 then b >>> a else b.sshiftRight a.toNat
theorem JU (ok:OkP M) (a b:BitVec 64):Ag M 324 [.int .i64 11,W a,W b] [] 0 (Q3 (W (Og 11 a b)) [] 0):=by
 generalize hF:Og 11 a b=F
 simp only [Og,seval,CL] at hF
 rcases Classical.propComplete (7#64≤a) with h | h
 ·refine Ab ok.k324 rfl fun x hx=>?_
  simp only [h,if_true] at hF
  refine es 2000 ?_;(simp only [NX,MK,h,FK,LZ,seval])
  repeat refine sd ?_
  subst hF
  exact Ar.mkZ hx [] ⟨rfl,rfl,rfl⟩
 ·refine Ab ok.k324 rfl fun x hx=>?_
  simp only [h,if_false] at hF
  refine es 2000 ?_;(simp only [NX,MK,h,FK,LZ,seval])
  repeat refine sd ?_
  subst hF
  exact Ar.mkZ hx [] ⟨rfl,rfl,rfl⟩
theorem Is (ok:OkP M) (a b:BitVec 64):Ag M 324 [.int .i64 12,W a,W b] [] 0 (Q3 (W (Og 12 a b)) [] 0):=by
 generalize hF:Og 12 a b=F
 simp only [Og,seval,CL] at hF
 rcases Classical.propComplete (7#64 < a) with h | h
 ·refine Ab ok.k324 rfl fun x hx=>?_
  simp only [h,if_true] at hF
  refine es 2000 ?_;(simp only [NX,MK,h,FK,LZ,seval])
  repeat refine sd ?_
  subst hF
  exact Ar.mkZ hx [] ⟨rfl,rfl,rfl⟩
 ·refine Ab ok.k324 rfl fun x hx=>?_
  simp only [h,if_false] at hF
  refine es 2000 ?_;(simp only [NX,MK,h,FK,LZ,seval])
  repeat refine sd ?_
  subst hF
  exact Ar.mkZ hx [] ⟨rfl,rfl,rfl⟩
theorem IF (ok:OkP M) (a b:BitVec 64):Ag M 324 [.int .i64 13,W a,W b] [] 0 (Q3 (W (Og 13 a b)) [] 0):=by
 generalize hF:Og 13 a b=F
 simp only [Og,seval,CL] at hF
 refine Ab ok.k324 rfl fun x hx=>?_
 refine es 2000 ?_;(simp only [NX,MK,FK,LZ,seval])
 repeat refine sd ?_
 subst hF
 exact Ar.mkZ hx [] ⟨rfl,rfl,rfl⟩
theorem ID (ok:OkP M) (a b:BitVec 64):Ag M 324 [.int .i64 14,W a,W b] [] 0 (Q3 (W (Og 14 a b)) [] 0):=by
 generalize hF:Og 14 a b=F
 simp only [Og,seval,CL] at hF
 refine Ab ok.k324 rfl fun x hx=>?_
 refine es 2000 ?_;(simp only [NX,MK,FK,LZ,seval])
 repeat refine sd ?_
 subst hF
 exact Ar.mkZ hx [] ⟨rfl,rfl,rfl⟩
theorem J4 (ok:OkP M) (a b:BitVec 64):Ag M 324 [.int .i64 15,W a,W b] [] 0 (Q3 (W (Og 15 a b)) [] 0):=by
 generalize hF:Og 15 a b=F
 simp only [Og,seval,CL] at hF
 refine Ab ok.k324 rfl fun x hx=>?_
 refine es 2000 ?_;(simp only [NX,MK,FK,LZ,seval])
 repeat refine sd ?_
 subst hF
 exact Ar.mkZ hx [] ⟨rfl,rfl,rfl⟩
def apW (op:Nat) (a b c:BitVec 64):BitVec 64 :=
 if op=1 then a + b else if op=2 then a - b else if op=3 then a * b
 else if op=4 ∨ op=5 ∨ op=6 ∨ op=7 then Y1 op a b
 else if op=8 then (if c=0#64 then 0#64 else BitVec.ofNat 64 ((a.toNat + b.toNat) % c.toNat))
 else if op=9 then (if c=0#64 then 0#64 else BitVec.ofNat 64 ((a.toNat * b.toNat) % c.toNat))
 else if op=10 then pwr 64 a b 1#64
 else if op=11 ∨ op=12 ∨ op=13 ∨ op=14 ∨ op=15 then Og op a b
 else if op=16 then Z2 (decide (a < b)) else if op=17 then Z2 (decide (b < a))
 else if op=18 then Z2 (decide (a.toInt < b.toInt)) else if op=19 then Z2 (decide (b.toInt < a.toInt))
 else if op=20 then Z2 (decide (a=b)) else if op=21 then Z2 (decide (a=0#64))
 else if op=22 then a &&& b else if op=23 then a ||| b else if op=24 then a ^^^ b else a ^^^ 18446744073709551615#64
theorem Z7 {w:BitVec 64} {n:Nat} {c:BitVec 64} (h1:c ≠ 0#64→w.toNat=n % c.toNat) (h2:c=0#64→w=0#64):w=(if c=0#64 then 0#64 else BitVec.ofNat 64 (n % c.toNat)):=by
 split
 ·rename_i h;exact h2 h
 ·rename_i h
  apply BitVec.eq_of_toNat_eq
  have hc:=c.isLt
  have h0:0 < c.toNat:=Nat.pos_of_ne_zero fun e=>h (BitVec.eq_of_toNat_eq (by simpa using e))
  rw [h1 h,BitVec.toNat_ofNat]
  exact (Nat.mod_eq_of_lt (Nat.lt_trans (Nat.mod_lt _ h0) hc)).symm
theorem Qa (ok:OkP M) (op:Nat) (h1:1≤op) (h2:op≤25) (a b c:BitVec 64):Ag M 215 [.int .i64 op,W a,W b,W c] [] 0 (Q3 (Ah (W (apW op a b c)) .nili) [] 0):=by
 have c1:((1:Nat):Int)=1:=rfl
 have hd:=fun (op:Nat) h=>Mu ok op h a b
 have h4:=hd 4 Am
 have h5:=hd 5 Am
 have h6:=hd 6 Am
 have h7:=hd 7 Am
 obtain ⟨w8,p8,z8,h8⟩:=Qb ok a b c
 obtain ⟨w9,p9,z9,h9⟩:=Pe ok a b c
 rw [Z7 p8 z8] at h8
 rw [Z7 p9 z9] at h9
 have h10:=Pc ok a b
 have h11:=JU ok a b
 have h12:=Is ok a b
 have h13:=IF ok a b
 have h14:=ID ok a b
 have h15:=J4 ok a b
 have hf:=fun t=>Sk ok t
 have hop:op=1 ∨ op=2 ∨ op=3 ∨ op=22 ∨ op=23 ∨ op=24 ∨ op=25 ∨ op=16 ∨ op=17 ∨ op=18 ∨ op=19 ∨ op=20 ∨ op=21 ∨ op=4 ∨ op=5 ∨ op=6 ∨ op=7 ∨ op=8 ∨ op=9 ∨ op=10 ∨ op=11 ∨ op=12 ∨ op=13 ∨ op=14 ∨ op=15:=Aa
 rcases hop with rfl | rfl | rfl | rfl | rfl | rfl | rfl | rfl | rfl | rfl | rfl | rfl | rfl | rfl | rfl | rfl | rfl | rfl | rfl | rfl | rfl | rfl | rfl | rfl | rfl
 all_goals
  generalize hF:apW _ a b c=F
  simp only [apW,seval,CL,or_true,true_or,or_self,or_false] at hF
 iterate 7
  focus
   refine Ab ok.k215 rfl fun x hx=>?_
   refine es 2000 ?_;(simp only [Avy,Us,c1,Lbp,seval])
   subst hF
   exact Ar.mkZ hx [] ⟨rfl,rfl,rfl⟩
 iterate 6
  focus
   refine Ab ok.k215 rfl fun x hx=>?_
   refine es 2000 ?_;(simp only [Avy,Us,Lbp,seval])
   refine Ak (hf _) ?_
   (simp only [LZ,seval])
   subst hF
   exact Ar.mkZ hx [] ⟨rfl,rfl,rfl⟩
 all_goals
  refine Ab ok.k215 rfl fun x hx=>?_
  refine es 2000 ?_;(simp only [Avy,Us,Lbp,seval])
  first
   | (refine Ak (h4) ?_)
   | (refine Ak (h5) ?_)
   | (refine Ak (h6) ?_)
   | (refine Ak (h7) ?_)
   | (refine Ak (h8) ?_)
   | (refine Ak (h9) ?_)
   | (refine Ak (h10) ?_)
   | (refine Ak (h11) ?_)
   | (refine Ak (h12) ?_)
   | (refine Ak (h13) ?_)
   | (refine Ak (h14) ?_)
   | (refine Ak (h15) ?_)
  (simp only [LZ,seval])
  subst hF
  exact Ar.mkZ hx [] ⟨rfl,rfl,rfl⟩
def wi (a n:BitVec 64):Bool:=decide (a≤8192#64) && decide (n≤8192#64 - a)
variable {M:Seat}
def Gh (H H':Hp):Prop:=∀ i,Af H' i=Af H i∧hget H' i=hget H i
theorem GZ {i:Nat}:∀ {H:Hp},Af H i=false→hget H i = .junk
 | [],_=>rfl
 | (j, v) :: r, h => by
   simp only [Af,Bool.or_eq_false_iff,beq_eq_false_iff_ne,ne_eq] at h
   simp only [hget,if_neg h.1]
   exact GZ h.2
theorem Gh.symm {H H':Hp} (h:Gh H H'):Gh H' H:=fun i=>⟨(h i).1.symm,(h i).2.symm⟩
theorem Gh.swap {A B:Hp} (h:∀ i,Af A i=true→Af B i=false):Gh (A ++ B) (B ++ A):=fun i=>by
 rw [Ba,Ba,Bool.or_comm]
 refine ⟨rfl,?_⟩
 cases ha:Af A i with
 | true =>
   have hb:=h i ha
   rw [AN hb,Cn ha]
 | false =>
   rw [AN (H:=A) ha]
   cases hb:Af B i with
   | true=>rw [Cn hb]
   | false=>rw [AN hb,GZ ha,GZ hb]
theorem Inv.same {c:Ctx} {e:Env} {H H':Hp} (hI:Inv M c e H) (h:Gh H H'):Inv M c e H' where
 ev:=hI.ev
 blk id hid:=by
  rw [(h id).1] at hid
  rw [(h id).2];exact hI.blk id hid
 inj i j hi hj:=hI.inj i j ((h i).1 ▸ hi) ((h j).1 ▸ hj)
 imo:=hI.imo
 imb:=hI.imb
 rb:=hI.rb
 keep:=hI.keep
 low:=hI.low
 gs:=hI.gs
 φ:=hI.φ
 τ:=hI.τ
theorem AR.same {f:Nat} {us:List V} {H H2:Hp} {n:Nat} {K:V→Hp→Prop} (h:AR M f us H n K) (hs:Gh H2 H):AR M f us H2 n K :=
 fun c e vs hI hD hk ha=>h c e vs (hI.same hs) hD hk ha
theorem AR.out {f:Nat} {us:List V} {H:Hp} {n:Nat} {K K':V→Hp→Prop} (h:AR M f us H n K) (hK:∀ v H1,K v H1→∃ H2,Gh H1 H2∧K' v H2):AR M f us H n K':=by
 intro c e vs hI hD hk ha
 refine (h c e vs hI hD hk ha).mono ?_
 rintro en w' ⟨x,v,e',H',h1,h2,h3,h4,h5,h6,h7⟩
 obtain ⟨H2,k1,k2⟩:=hK v H' h7
 exact ⟨x,v,e',H2,h1,h2,h3,h4.same k1,h5,h6,k2⟩
def ow (b n:Nat) (own:Hp):Bool:=own.all fun p=>decide (17≤p.1) && decide (p.1 ≠ b) && decide (p.1 < n)
def owk (n:Nat) (own:Hp):Bool:=own.all fun p=>decide (17≤p.1) && decide (p.1 < n)
def XY (b n:Nat) (own:Hp):Prop:=∀ i,Af own i=true→17≤i∧i ≠ b∧i < n
theorem Ek {b n:Nat}:∀ {own:Hp},ow b n own=true→XY b n own
 | [],_,_,h=>by cases h
 | (j, v) :: r, ho, i, h => by
   simp only [ow,List.all_cons,Bool.and_eq_true,decide_eq_true_eq] at ho
   simp only [Pi,beq_iff_eq] at h
   rcases h with rfl | h
   ·exact ⟨ho.1.1.1,ho.1.1.2,ho.1.2⟩
   ·exact Ek (own:=r) ho.2 i h
theorem Gj {b n:Nat} (hb:b < 17):∀ {own:Hp},owk n own=true→XY b n own
 | [],_,_,h=>by cases h
 | (j, v) :: r, ho, i, h => by
   simp only [owk,List.all_cons,Bool.and_eq_true,decide_eq_true_eq] at ho
   simp only [Pi,beq_iff_eq] at h
   rcases h with rfl | h
   ·exact ⟨ho.1.1,by omega,ho.1.2⟩
   ·exact Gj hb (own:=r) ho.2 i h
theorem Fh {i:Nat}:∀ {H:Hp},Af H i=false→BS H i=H
 | [],_=>rfl
 | (j, v) :: r, h => by
   simp only [Af,Bool.or_eq_false_iff,beq_eq_false_iff_ne,ne_eq] at h
   simp only [BS,if_neg h.1]
   rw [Fh h.2]
theorem NN {lo hi:Nat}:∀ {H:Hp},(∀ i,Af H i=true→i < lo ∨ hi≤i)→CX lo hi H
 | [],_=>trivial
 | (j,v) :: r,h=>⟨h j (by simp [Af]),NN (H:=r) fun i hi=>h i (by simp [Af,hi])⟩
def B7:Option Int→V
 | none=>.nili
 | some a=>.ifc 74 (.int .i64 a)
structure Mm (σ:Type) where
 rd:σ→BitVec 64→BitVec 64 × Option Int × σ
 wr:σ→BitVec 64→BitVec 64→Option Int × σ
 pi:σ→Dg→Pr × Option Int × σ
def Ja (us us':List V):Prop:=∀ (H:Hp) (m z:List Nat),m[0]?=some 0→Bd H m z us us'
def JN (v:V):Prop:=∀ m:List Nat,v.ren m=v
structure MemI (M:Seat) where
 σ:Type
 t:Nat
 ht:t=422 ∨ t=426
 k0:Nat
 kk:Nat
 hk:1≤k0∧k0≤16∧k0≤kk∧kk≤k0 + 1
 E:σ→Nat→Hp
 E0:σ→Hp
 mm:Mm σ
 Z:σ→Prop
 len:σ→Nat
 lr:∀ s a,len (mm.rd s a).2.2≤len s + 1
 lw:∀ s a v,len (mm.wr s a v).2≤len s + 1
 lp:∀ s h,len (mm.pi s h).2.2≤len s
 lz:∀ s,Z s→len s=0
 hids:∀ s b i,Af (E s b) i=true→i < k0 ∨ i=b
 hids0:∀ s i,Af (E0 s) i=true→i < k0
 sim0:∀ (s:σ) (H:Hp) (m z:List Nat),(∀ i,i < k0→m[i]?=some i)→(∀ i,Af (E0 s) i=true→Af H i=true∧hget H i=hget (E0 s) i)→Br H m z (E0 s)
 simE:∀ (s:σ) (b b':Nat) (H:Hp) (m z:List Nat),k0≤b→(∀ i,i < k0→m[i]?=some i)→m[b']?=some b→(∀ i,Af (E s b) i=true→Af H i=true∧hget H i=hget (E s b) i)→Br H m z (E s b')
 c0:∀ {f:Nat} {us us':List V} {v:V} {s s':σ} (own:Hp) {n:Nat} {K:V→Hp→Prop},Ag M f us (E0 s) k0 (Q3 v (E s' k0) (k0 + 1))→Ja us us'→JN v→XY 0 n own→K v (own ++ E s' n)→AR M f us' (own ++ E0 s) n K
 ck:∀ {f:Nat} {us us':List V} {v:V} {s s':σ} {b:Nat} (own:Hp) {n:Nat} {K:V→Hp→Prop},Ag M f us (E s k0) kk (Q3 v (E s' kk) (kk + 1))→Ja us us'→JN v→k0≤b→XY b n own→K v (own ++ E s' n)→AR M f us' (own ++ E s b) n K
 cu:∀ {f:Nat} {us us':List V} {v:V} {s s':σ} {b:Nat} (own:Hp) {n:Nat} {K:V→Hp→Prop},Ag M f us (E s k0) kk (Q3 v (E s' k0) (kk + 1))→Ja us us'→JN v→k0≤b→XY b n own→K v (own ++ E s' b)→AR M f us' (own ++ E s b) n K
 fr:Nat
 fw:Nat
 fp:Nat
 mr:AG M t 0 fr
 mw:AG M t 1 fw
 mp:AG M t 2 fp
 rr0:∀ (s:σ) (a:BitVec 64),Z s→¬ 8192#64≤a→Ag M fr [.ptr 0 [],W a] (E0 s) k0 (Q3 (Ah (W (mm.rd s a).1) (B7 (mm.rd s a).2.1)) (E (mm.rd s a).2.2 k0) (k0 + 1))
 rr:∀ (s:σ) (a:BitVec 64),len s≤100→¬ 8192#64≤a→Ag M fr [.ptr 0 [],W a] (E s k0) kk (Q3 (Ah (W (mm.rd s a).1) (B7 (mm.rd s a).2.1)) (E (mm.rd s a).2.2 kk) (kk + 1))
 rw:∀ (s:σ) (a v:BitVec 64),len s≤100→¬ 8192#64≤a→Ag M fw [.ptr 0 [],W a,W v] (E s k0) kk (Q3 (B7 (mm.wr s a v).1) (E (mm.wr s a v).2 kk) (kk + 1))
 rp:∀ (s:σ) (h:Dg),Ag M fp [.ptr 0 [],dg h] (E s k0) kk (Q3 (Ah (Bk (mm.pi s h).1) (B7 (mm.pi s h).2.1)) (E (mm.pi s h).2.2 k0) (kk + 1))
theorem EK (i:Nat):∀ (A B:Hp),BS (A ++ B) i=BS A i ++ BS B i
 | [],_=>rfl
 | (j, v) :: r, B => by
   simp only [List.cons_append,BS]
   split
   ·exact EK i r B
   ·rw [EK i r B];rfl
theorem K8 {own E:Hp}:∀ {m0:List Nat},(∀ i ∈ m0,Af own i=false)→A6 (own ++ E) m0=own ++ A6 E m0
 | [],_=>rfl
 | i :: r, h => by
   rw [A6,K8 (m0:=r) (fun j hj=>h j (by simp [hj])),EK,Fh (h i B5),A6]
theorem MQ {own E:Hp} {i:Nat}:∀ {m0:List Nat},(∀ p ∈ m0,Af own p=false)→GJ m0 (own ++ E) i=GJ m0 E i
 | [],_=>rfl
 | p :: r, h => by
   have hp:=h p B5
   have ih:=MQ (own:=own) (E:=E) (i:=i) (m0:=r) (fun q hq=>h q (by simp [hq]))
   unfold GJ at ih ⊢
   rw [List.any_cons,List.any_cons,ih,Ba,hp,Bool.false_or,AN hp]
theorem Iy {own E:Hp} (hd:∀ i,Af E i=true→Af own i=false) (i:Nat) (h:Af E i=true):Af (own ++ E) i=true∧hget (own ++ E) i=hget E i:=by
 have hn:=hd i h
 rw [Ba,hn,AN hn,h]
 exact ⟨rfl,rfl⟩
theorem DM {f:Nat} {us us':List V} {v:V} {own E E' H0 Hn:Hp} {n k kn:Nat} {K:V→Hp→Prop} (m m0:List Nat) (hr:Ag M f us H0 k (Q3 v Hn kn))
 (h0:∀ id i,Af H0 id=true→m[id]?=some i→i ∈ m0) (h0m:∀ i ∈ m0,i ∈ m) (hm:m.Nodup) (hk:m.length=k∧kn≤k + 16) (hall0:∀ i ∈ m0,Af E i=true∧Af own i=false) (hall:∀ i ∈ m,Af E i=true ∨ GJ m0 E i=true) (hus:Bd (own ++ E) m [] us us') (hH:Br (own ++ E) m [] H0)
 (hren:AV (Bh m n kn) Hn=E') (hrst:A6 E m0=[]) (hv:JN v) (hd:∀ i,Af E' i=true→Af own i=false) (hK:K v (own ++ E')):AR M f us' (own ++ E) n K:=by
 have key:AR M f us' (own ++ E) n (fun v' H'=>v'=v∧H'=E' ++ own):=by
  refine FV hr False m m0 [] h0 h0m hm B5 hk.1 (fun i hi=>by rw [Ba,(hall0 i hi).1,Bool.or_true]) (fun i hi=>?_) hus hH ?_
  ·rcases hall i hi with h | h
   ·left;rw [Ba,h,Bool.or_true]
   ·exact .inr (.inr ((MQ (fun p hp=>(hall0 p hp).2)).trans h))
  ·rintro v' H' k' ⟨rfl,rfl,rfl⟩
   refine ⟨⟨hk.2,fun h=>h.elim⟩,hv _,?_⟩
   rw [hren,if_neg (fun h:False=>h),List.append_nil,K8 (fun i hi=>(hall0 i hi).2),hrst,List.append_nil]
 refine AR.out key ?_
 rintro v' H' ⟨rfl,rfl⟩
 exact ⟨own ++ E',Gh.swap (fun i hi=>hd i hi),hK⟩
theorem HZ (e:Option Int) (m:List Nat):(B7 e).ren m=B7 e:=by cases e <;> rfl
theorem UW (e:Option Int) (H:Hp) (m z:List Nat):Az H m z (B7 e) (B7 e):=by cases e <;> simp [B7,Az]
namespace MemI
variable {M:Seat} (I:MemI M)
theorem noE {s:I.σ} {b i:Nat} (h:17≤i) (hb:i ≠ b):Af (I.E s b) i=false:=by
 cases hh:Af (I.E s b) i with
 | false=>rfl
 | true => rcases I.hids s b i hh with h' | h'
           ·have:=I.hk;omega
           ·exact absurd h' hb
theorem no0 {s:I.σ} {i:Nat} (h:17≤i):Af (I.E0 s) i=false:=by
 cases hh:Af (I.E0 s) i with
 | false=>rfl
 | true=>have:=I.hids0 s i hh;have:=I.hk;omega
theorem hdelE (s:I.σ) (b i:Nat) (h:17≤i) (hb:¬ i=b):BS (I.E s b) i=I.E s b:=Fh (I.noE h hb)
theorem hdel0 (s:I.σ) (i:Nat) (h:17≤i):BS (I.E0 s) i=I.E0 s:=Fh (I.no0 h)
theorem idsE (s:I.σ) (b lo hi:Nat) (h:17≤lo) (hb:b < lo ∨ hi≤b):CX lo hi (I.E s b)=True:=eq_true (NN fun i hi'=>by
 rcases I.hids s b i hi' with h' | h'
 ·have:=I.hk;exact .inl Aa
 ·subst h';exact hb)
theorem nil_in (v:Prop):(I.t ∈ [422,426]∧v)=v:=by
 rcases I.ht with h | h <;> rw [h] <;> simp
theorem tail {s:I.σ} {b n:Nat} {own:Hp} (ho:XY b n own) (i:Nat) (h:Af (I.E s b) i=true):Af (own ++ I.E s b) i=true∧hget (own ++ I.E s b) i=hget (I.E s b) i:=by
 have hn:Af own i=false:=by
  cases hh:Af own i with
  | false=>rfl
  | true =>
    obtain ⟨h1,h2,_⟩:=ho i hh
    rw [I.noE h1 h2] at h;cases h
 rw [Ba,hn,AN hn,h]
 exact ⟨rfl,rfl⟩
theorem tail0 {s:I.σ} {b n:Nat} {own:Hp} (ho:XY b n own) (i:Nat) (h:Af (I.E0 s) i=true):Af (own ++ I.E0 s) i=true∧hget (own ++ I.E0 s) i=hget (I.E0 s) i:=by
 have hn:Af own i=false:=by
  cases hh:Af own i with
  | false=>rfl
  | true =>
    obtain ⟨h1,_⟩:=ho i hh
    rw [I.no0 h1] at h;cases h
 rw [Ba,hn,AN hn,h]
 exact ⟨rfl,rfl⟩
theorem flatR (s:I.σ) (a:BitVec 64):JN (Ah (W (I.mm.rd s a).1) (B7 (I.mm.rd s a).2.1)):=fun m=>by simp only [Ah,V.ren,W,HZ]
theorem flatP (s:I.σ) (h:Dg):JN (Ah (Bk (I.mm.pi s h).1) (B7 (I.mm.pi s h).2.1)):=fun m=>by simp only [Ah,V.ren,Bk,B,HZ]
theorem Arq (a:BitVec 64):Ja [.ptr 0 [],W a] [.ptr 0 [],W a]:=fun H m z h=>by simp only [Bd,Bi,Az,W,h,and_self]
theorem Afb (a b:BitVec 64):Ja [.ptr 0 [],W a,W b] [.ptr 0 [],W a,W b]:=fun H m z h=>by simp only [Bd,Bi,Az,W,h,and_self]
theorem Agi {d:Dg} {v:V} (hv:∀ H m z,Bi H m z (dg d) v):Ja [.ptr 0 [],dg d] [.ptr 0 [],v]:=fun H m z h=>⟨by simp only [Bi,Az,h,and_self],hv H m z,trivial⟩
theorem dynR0 {n:Nat} {K:V→Hp→Prop} (own:Hp) {s:I.σ} (hz:I.Z s) {a:BitVec 64} {u w:V} (h:¬ 8192#64≤a) (ho:owk n own=true) (hK:K (Ah (W (I.mm.rd s a).1) (B7 (I.mm.rd s a).2.1)) (own ++ I.E (I.mm.rd s a).2.2 n)):Eo M (.fcons 0 u w) [.ifc I.t (.ptr 0 []),W a] (own ++ I.E0 s) n K :=
 ⟨rfl,I.fr,I.mr,I.c0 own (I.rr0 s a hz h) (Arq a) (I.flatR s a) (Gj Aa ho) hK⟩
theorem dynR {n:Nat} {K:V→Hp→Prop} (own:Hp) {s:I.σ} {b:Nat} {a:BitVec 64} {u w:V} (hL:I.len s≤100) (h:¬ 8192#64≤a) (hb:17≤b) (ho:ow b n own=true) (hK:K (Ah (W (I.mm.rd s a).1) (B7 (I.mm.rd s a).2.1)) (own ++ I.E (I.mm.rd s a).2.2 n)):Eo M (.fcons 0 u w) [.ifc I.t (.ptr 0 []),W a] (own ++ I.E s b) n K :=
 ⟨rfl,I.fr,I.mr,I.ck own (I.rr s a hL h) (Arq a) (I.flatR s a) F9 (Ek ho) hK⟩
theorem dynRk {n:Nat} {K:V→Hp→Prop} (own:Hp) {s:I.σ} {a:BitVec 64} {u w:V} (hL:I.len s≤100) (h:¬ 8192#64≤a) (ho:owk n own=true) (hK:K (Ah (W (I.mm.rd s a).1) (B7 (I.mm.rd s a).2.1)) (own ++ I.E (I.mm.rd s a).2.2 n)):Eo M (.fcons 0 u w) [.ifc I.t (.ptr 0 []),W a] (own ++ I.E s I.k0) n K :=
 ⟨rfl,I.fr,I.mr,I.ck own (I.rr s a hL h) (Arq a) (I.flatR s a) (Nat.le_refl _) (Gj F9 ho) hK⟩
theorem dynW {n:Nat} {K:V→Hp→Prop} (own:Hp) {s:I.σ} {b:Nat} {a v:BitVec 64} {u w:V} (hL:I.len s≤100) (h:¬ 8192#64≤a) (hb:17≤b) (ho:ow b n own=true) (hK:K (B7 (I.mm.wr s a v).1) (own ++ I.E (I.mm.wr s a v).2 n)):Eo M (.fcons 1 u w) [.ifc I.t (.ptr 0 []),W a,W v] (own ++ I.E s b) n K :=
 ⟨rfl,I.fw,I.mw,I.ck own (I.rw s a v hL h) (Afb a v) (fun m=>HZ _ m) F9 (Ek ho) hK⟩
theorem dynP {n:Nat} {K:V→Hp→Prop} (own:Hp) {s:I.σ} {b:Nat} {h:Dg} {u w v:V} (hv:∀ H m z,Bi H m z (dg h) v) (hb:17≤b) (ho:ow b n own=true) (hK:K (Ah (Bk (I.mm.pi s h).1) (B7 (I.mm.pi s h).2.1)) (own ++ I.E (I.mm.pi s h).2.2 b)):Eo M (.fcons 2 u w) [.ifc I.t (.ptr 0 []),v] (own ++ I.E s b) n K :=
 ⟨rfl,I.fp,I.mp,I.cu own (I.rp s h) (Agi hv) (I.flatP s h) F9 (Ek ho) hK⟩
theorem opyR {n:Nat} {C:V→Hp→Prop} (own:Hp) {s:I.σ} {b:Nat} {a:BitVec 64} {u w:V} (hL:I.len s≤100) (h:¬ 8192#64≤a) (hb:17≤b) (ho:ow b n own=true) (hC:C (Ah (W (I.mm.rd s a).1) (B7 (I.mm.rd s a).2.1)) (own ++ I.E (I.mm.rd s a).2.2 n)):SI M (.fcons 0 u w) [.ifc I.t (.ptr 0 []),W a] (own ++ I.E s b) n C :=
 ⟨_,_,I.dynR own hL h hb ho ⟨rfl,rfl⟩,hC⟩
theorem opyW {n:Nat} {C:V→Hp→Prop} (own:Hp) {s:I.σ} {b:Nat} {a v:BitVec 64} {u w:V} (hL:I.len s≤100) (h:¬ 8192#64≤a) (hb:17≤b) (ho:ow b n own=true) (hC:C (B7 (I.mm.wr s a v).1) (own ++ I.E (I.mm.wr s a v).2 n)):SI M (.fcons 1 u w) [.ifc I.t (.ptr 0 []),W a,W v] (own ++ I.E s b) n C :=
 ⟨_,_,I.dynW own hL h hb ho ⟨rfl,rfl⟩,hC⟩
theorem opyP {n:Nat} {C:V→Hp→Prop} (own:Hp) {s:I.σ} {b:Nat} {h:Dg} {u w v:V} (hv:∀ H m z,Bi H m z (dg h) v) (hb:17≤b) (ho:ow b n own=true) (hC:C (Ah (Bk (I.mm.pi s h).1) (B7 (I.mm.pi s h).2.1)) (own ++ I.E (I.mm.pi s h).2.2 b)):SI M (.fcons 2 u w) [.ifc I.t (.ptr 0 []),v] (own ++ I.E s b) n C :=
 ⟨_,_,I.dynP own hv hb ho ⟨rfl,rfl⟩,hC⟩
theorem rng {q b j:Nat} (h:j < q):(List.range q ++ [b])[j]?=some j:=by
 rw [List.getElem?_append_left Ke];simp [h]
theorem Ai8 {q b:Nat}:(List.range q ++ [b])[q]?=some b:=by
 rw [List.getElem?_append_right B5];simp
theorem Vm {q b:Nat} (h:q≤b):(decide (List.range q ++ [b]).Nodup && ([]:List Nat).all (fun i=>!(List.range q ++ [b]).contains i) && decide ((List.range q ++ [b]).length≤q + 1) && decide (q≤q + 1) && (List.range q).all (fun j=>(List.range q ++ [b])[j]? == some j))=true:=by
 simp only [Lc6,decide_eq_true_eq,List.all_nil,beq_iff_eq]
 refine ⟨⟨⟨⟨?_,trivial⟩,by simp⟩,by omega⟩,fun j hj=>rng (List.mem_range.1 hj)⟩
 rw [List.nodup_append]
 refine ⟨List.nodup_range,by simp,?_⟩
 intro a ha c hc
 simp only [List.mem_range,List.mem_singleton] at ha hc
 omega
theorem ret {x:Ctx} {rs:List RVr} {Q:V→Hp→Nat→Prop} {A:List V} (own:Hp) {s:I.σ} {b N q:Nat} {v:V} (hq:I.k0≤q∧q≤17) (hx:x.k=q) (hb:17≤b) (ho:(own.all fun p=>decide (17≤p.1) && decide (p.1 ≠ b))=true)
 (h4:Q v (I.E s q) (q + 1)) (h1:(Dz A (own ++ I.E s b) rs).1) (h2:Bi (own ++ I.E s b) (List.range q ++ [b]) [] v (Dz A (own ++ I.E s b) rs).2):Ar M x rs Q A (own ++ I.E s b) N:=by
 refine Ar.mk hx (List.range q ++ [b]) [] v (I.E s q) (q + 1) (Vm Aa) h1 h2 (I.simE s b q _ _ _ Aa (fun i hi=>rng Aa) Ai8 (I.tail (n:=own.foldl (fun a p=>max a (p.1 + 1)) 0) fun i hi=>?_)) h4
 have:∀ (own:Hp) (a:Nat),(own.all fun p=>decide (17≤p.1) && decide (p.1 ≠ b))=true→(Af own i=true→17≤i∧i ≠ b∧i < own.foldl (fun a p=>max a (p.1 + 1)) a)∧a≤own.foldl (fun a p=>max a (p.1 + 1)) a:=by
  intro own
  induction own with
  | nil=>intro a _;exact ⟨(fun h=>by cases h),Nat.le_refl _⟩
  | cons p r ih =>
    intro a ho
    simp only [List.all_cons,Bool.and_eq_true,decide_eq_true_eq] at ho
    obtain ⟨k1,k2⟩:=ih (max a (p.1 + 1)) ho.2
    simp only [List.foldl_cons]
    refine ⟨fun h=>?_,by omega⟩
    have h:(p.1 == i || Af r i)=true:=h
    simp only [Bool.or_eq_true,beq_iff_eq] at h
    rcases h with h | h
    ·subst h;exact ⟨ho.1.1,ho.1.2,by omega⟩
    ·exact k1 h
 exact (this own 0 ho).1 hi
theorem ret0 {x:Ctx} {rs:List RVr} {Q:V→Hp→Nat→Prop} {A:List V} (own:Hp) {s:I.σ} {N:Nat} {v:V} (hx:x.k=I.k0) {n:Nat} (ho:owk n own=true)
 (h4:Q v (I.E0 s) (I.k0 + 1)) (h1:(Dz A (own ++ I.E0 s) rs).1) (h2:Bi (own ++ I.E0 s) (List.range I.k0 ++ [n]) [] v (Dz A (own ++ I.E0 s) rs).2) (hn:17≤n):Ar M x rs Q A (own ++ I.E0 s) N:=by
 have:=I.hk
 exact Ar.mk hx (List.range I.k0 ++ [n]) [] v (I.E0 s) (I.k0 + 1) (Vm Aa) h1 h2 (I.sim0 s _ _ _ (fun i hi=>rng hi) (I.tail0 (Gj (b:=0) Aa ho))) h4
theorem retU {x:Ctx} {rs:List RVr} {Q:V→Hp→Nat→Prop} {A:List V} (own:Hp) {s:I.σ} {N n:Nat} {v:V} (hx:x.k=I.kk) (ho:owk n own=true)
 (h4:Q v (I.E s I.k0) (I.kk + 1)) (h1:(Dz A (own ++ I.E s I.k0) rs).1) (h2:Bi (own ++ I.E s I.k0) (List.range (I.k0 + 1)) [] v (Dz A (own ++ I.E s I.k0) rs).2):Ar M x rs Q A (own ++ I.E s I.k0) N:=by
 have:=I.hk
 refine Ar.mk hx (List.range (I.k0 + 1)) [] v (I.E s I.k0) (I.kk + 1) ?_ h1 h2 (I.simE s I.k0 I.k0 _ _ _ (Nat.le_refl _) (fun i hi=>?_) ?_ (I.tail (Gj Aa ho))) h4
 ·simp only [Lc6,decide_eq_true_eq,List.all_nil,beq_iff_eq]
  exact ⟨⟨⟨⟨List.nodup_range,trivial⟩,by simp;omega⟩,by omega⟩,fun j hj=>by rw [List.getElem?_range (by have:=List.mem_range.1 hj;omega)]⟩
 ·rw [List.getElem?_range Aa]
 ·rw [List.getElem?_range Aa]
theorem sm (own:Hp) {s:I.σ} {b b' n:Nat} {m z:List Nat} (h1:(List.range 17).all (fun j=>m[j]? == some j)=true) (h2:m[b']?=some b) (h3:ow b n own=true) (hb:17≤b:=by decide):Br (own ++ I.E s b) m z (I.E s b') :=
 I.simE s b b' _ m z F9 (fun i hi=>by have:=List.all_eq_true.1 h1 i (List.mem_range.2 F9);simpa using this) h2 (I.tail (Ek h3))
end MemI
theorem Ao.frK {c:Ctx} {A:List V} {H:Hp} {N n:Nat} (m:List Nat) (hck:c.k≤17) {l:List (Nat × V)} {H':Hp} {N':Nat} (hlen:A.length=n)
 (hm:(decide m.Nodup && decide (m.length≤N') && decide (17≤N') && (List.range 17).all (fun j=>m[j]? == some j))=true) (hA:Kj H m [] A l) (hH:Br H m [] H'):Ao M c A H N (Mv.fr n l) H' N':=by
 simp only [Bool.and_eq_true,decide_eq_true_eq] at hm
 refine Ao.sim m [] hm.1.1.1 B5 hm.1.1.2 Aa (fun j hj=>?_) (Mg (by rw [BL,hlen]) (fun t=>?_)) hH
 ·have:=List.all_eq_true.1 hm.2 j (List.mem_range.2 Aa);simpa using this
 ·by_cases ht:t < n
  ·exact Js hA t ht
  ·have:(Mv.fr n l).getD t .junk = .junk:=by rw [List.getD_eq_getElem?_getD,List.getElem?_eq_none (by rw [BL];omega)];rfl
   rw [this];trivial
theorem Bm.up {x:Ctx} {Q:List V→Hp→Nat→Prop} {k:List It} {N N':Nat} {A:List V} {H:Hp} (hN:N≤N') (h:Bm M x Q k N' A H):Bm M x Q k N A H:=by
 rintro a w kr ⟨e,h1,h2,h3,h4,h5,h6⟩ hm
 exact h a w kr ⟨e,h1,h2,h3,fun id hid=>h4 id (Nat.le_trans hN hid),Nat.le_trans h5 hN,h6⟩ hm
end Mv
