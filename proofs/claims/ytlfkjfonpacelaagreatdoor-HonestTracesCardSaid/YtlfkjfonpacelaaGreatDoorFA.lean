/- A part. -/
import Derived.Test.YtlfkjfonpacelaaGreatDoorEZ
set_option linter.all false
set_option maxRecDepth 20000
set_option maxHeartbeats 4000000
namespace Mv
open Go
theorem Ady (a b:BitVec 64):(a - a / b * b).toNat=a.toNat % b.toNat:=by
 have h:a / b * b=BitVec.ofNat 64 (a.toNat / b.toNat * b.toNat):=by
  apply BitVec.eq_of_toNat_eq
  rw [BitVec.toNat_mul,BitVec.toNat_udiv,BitVec.toNat_ofNat]
 have hl:a.toNat / b.toNat * b.toNat≤a.toNat:=Nat.div_mul_le_self _ _
 have ha:=a.isLt
 rw [h,BitVec.toNat_sub,BitVec.toNat_ofNat,Nat.mod_eq_of_lt (a:=a.toNat / b.toNat * b.toNat) Aa]
 have e:=Nat.div_add_mod a.toNat b.toNat
 rw [Nat.mul_comm] at e
 omega
theorem XF (q:Nat) (hq:q < 100):(BitVec.ofInt 64 (q:Int)).toNat=q:=by
 rw [Ru _ Aa Aa];rfl
theorem Aau (y:BitVec 64) (hy:y ≠ 0#64):∃ s:BitVec 64,BitVec.ofInt 64 ((64 - CZ y:Nat):Int)=s∧(s.toNat < 64∧y.toNat * 2 ^ s.toNat < 18446744073709551616)∧2147483648≤((y <<< s.toNat) >>> 32).toNat∧((y <<< s.toNat) >>> 32).toNat < 4294967296:=by
 obtain ⟨h1,h2⟩:=Kg y
 obtain ⟨h3,h4,h5⟩:=h2 hy
 refine ⟨_,rfl,?_⟩
 have hs:(BitVec.ofInt 64 ((64 - CZ y:Nat):Int)).toNat=64 - CZ y:=XF _ Aa
 rw [hs]
 generalize CZ y=n at *
 have e1:y.toNat * 2 ^ (64 - n) < 2 ^ 64:=by
  have:2 ^ 64=2 ^ n * 2 ^ (64 - n):=VX
  rw [this]
  exact Nat.mul_lt_mul_of_pos_right h5 (Nat.two_pow_pos _)
 have e2:2 ^ 63≤y.toNat * 2 ^ (64 - n):=by
  have:2 ^ 63=2 ^ (n - 1) * 2 ^ (64 - n):=VX
  rw [this]
  exact Nat.mul_le_mul_right _ h4
 refine ⟨⟨by omega,e1⟩,?_⟩
 rw [BitVec.toNat_ushiftRight,Nat.shiftRight_eq_div_pow,BitVec.toNat_shiftLeft,Nat.shiftLeft_eq,Nat.mod_eq_of_lt e1]
 omega
theorem PU {M:Seat} (ok:OkP M) (hi lo y:BitVec 64) (h:hi < y) :
 ∃ q r:BitVec 64,r.toNat=(hi.toNat * 18446744073709551616 + lo.toNat) % y.toNat∧Af M 423 [W hi,W lo,W y] [] 0 (fun v H' k'=>v=Ah (W q) (W r)∧H'=[]∧k'=0):=by
 have hy0:¬ y=0#64:=by rintro rfl;rw [BitVec.lt_def] at h;exact absurd h (Nat.not_lt_zero _)
 have hy0':(y ≠ 0)=True:=eq_true hy0
 have hle:¬ y≤hi:=by rw [BitVec.lt_def] at h;rw [BitVec.le_def];omega
 by_cases hz:hi=0#64
 ·subst hz
  refine ⟨lo / y,lo % y,by rw [BitVec.toNat_umod];simp,?_⟩
  refine Ab ok.k423 rfl fun x hx=>?_
  refine es 2000 ?_;(simp only [Af0,Afj,hy0,hy0',hle,LZ,seval])
  repeat refine sd ?_
  exact Ap.mkZ hx [] ⟨rfl,rfl,rfl⟩
 ·obtain ⟨s,hs,⟨hs64,hyl64⟩,b1,b2⟩:=Aau y hy0
  obtain ⟨Y,hY⟩:∃ Y,y <<< s.toNat=Y:=⟨_,rfl⟩
  rw [hY] at b1 b2
  obtain ⟨y1,hy1⟩:∃ y1,Y >>> 32=y1:=⟨_,rfl⟩
  rw [hy1] at b1 b2
  obtain ⟨yl,hyl⟩:∃ yl,Y &&& 4294967295#64=yl:=⟨_,rfl⟩
  obtain ⟨u,hu⟩:∃ u,hi <<< s.toNat ||| lo >>> (64#64 - s).toNat=u:=⟨_,rfl⟩
  obtain ⟨v,hv⟩:∃ v,lo <<< s.toNat=v:=⟨_,rfl⟩
  obtain ⟨v1,hv1⟩:∃ v1,v >>> 32=v1:=⟨_,rfl⟩
  obtain ⟨v0,hv0⟩:∃ v0,v &&& 4294967295#64=v0:=⟨_,rfl⟩
  obtain ⟨q1,hq1⟩:∃ q1,u / y1=q1:=⟨_,rfl⟩
  obtain ⟨r1,hr1⟩:∃ r1,u - q1 * y1=r1:=⟨_,rfl⟩
  obtain ⟨F,hF⟩:∃ F,dl y1 yl v1 4294967296 q1 r1=F:=⟨_,rfl⟩
  obtain ⟨u2,hu2⟩:∃ u2,u * 4294967296#64 + v1 - F * Y=u2:=⟨_,rfl⟩
  obtain ⟨q0,hq0⟩:∃ q0,u2 / y1=q0:=⟨_,rfl⟩
  obtain ⟨r0,hr0⟩:∃ r0,u2 - q0 * y1=r0:=⟨_,rfl⟩
  obtain ⟨G,hG⟩:∃ G,dl y1 yl v0 4294967296 q0 r0=G:=⟨_,rfl⟩
  have hy1n:(y1 ≠ 0)=True:=eq_true (by rintro rfl;exact absurd b1 Aj)
  have l1:r1.toNat < 4294967296:=by
   rw [← hr1,← hq1,Ady]
   exact Nat.lt_trans (Nat.mod_lt _ Aa) b2
  have l0:r0.toNat < 4294967296:=by
   rw [← hr0,← hq0,Ady]
   exact Nat.lt_trans (Nat.mod_lt _ Aa) b2
  have hadd:∀ r:BitVec 64,r.toNat < 4294967296→(r + y1).toNat=r.toNat + y1.toNat:=fun r hr=>X1 Aa
  have hsm:∀ r:BitVec 64,r.toNat < 4294967296→¬ 4294967296#64≤r + y1→(r + y1).toNat < 4294967296∧r.toNat + y1.toNat < 4294967296:=fun r hr h=>by
   rw [BitVec.le_def,hadd r hr] at h
   have e:(4294967296#64).toNat=4294967296:=rfl
   rw [e] at h
   rw [hadd r hr];omega
  have hy1z:¬ y1=0#64:=of_eq_true hy1n
  have e32:(32#64).toNat=32:=rfl
  refine ⟨F * 4294967296#64 + G,(u2 * 4294967296#64 + v0 - G * Y) >>> s.toNat,Aen hi lo y s Y u v y1 yl v1 v0 q1 r1 F u2 q0 r0 G h hs64 hyl64 hY hu hv hy1 b1 hyl hv1 hv0 hq1 hr1 hF hu2 hq0 hr0 hG,?_⟩
  refine Ab ok.k423 rfl fun x hx=>?_
  refine es 2000 ?_;(simp only [Af0,Afj,hy0,hle,hz,LZ,seval])
  refine Ai (Qc ok y) ?_
  (simp only [hs,hY,hy1,hyl,hu,hv,hv1,hv0,hq1,hr1,hy1n,hy1z,e32,LZ,seval])
  repeat refine sd ?_
  refine An (σ:=Nat × BitVec 64 × BitVec 64) (fun t=>dl y1 yl v1 t.1 t.2.1 t.2.2=F∧t.2.2.toNat < 4294967296∧4294967296 - t.2.2.toNat≤t.1) (fun t=>fr 135 [(2,W Y),(8,W s),(9,W y1),(10,W yl),(11,W u),(13,W v1),(14,W v0),(15,W t.2.1),(16,W t.2.2)]) (fun _=>[]) (fun _=>0) (fun t=>t.1) (4294967296,q1,r1) ⟨hF,l1,Nat.sub_le _ _⟩ ?_ ?_
  ·refine Ak.fr [] [] hx AQ Aj ?_ ?_
   ·simp only [LY,seval]
   ·trivial
  ·rintro ⟨k,q,r⟩ ⟨i1,i2,i3⟩
   dsimp only at i1 i2 i3
   cases k with
   | zero=>omega
   | succ k =>
     rw [dl] at i1
     refine es 2000 ?_
     by_cases c1:4294967296#64≤q
     ·rw [if_pos (.inl c1)] at i1
      by_cases c3:4294967296#64≤r + y1
      ·rw [if_pos c3] at i1
       (simp only [c1,c3,i1,hu2,hq0,hr0,hy1n,hy1z,LZ,seval])
       repeat refine sd ?_
       refine An (σ:=Nat × BitVec 64 × BitVec 64) (fun t=>dl y1 yl v0 t.1 t.2.1 t.2.2=G∧t.2.2.toNat < 4294967296∧4294967296 - t.2.2.toNat≤t.1) (fun t=>fr 135 [(2,W Y),(8,W s),(9,W y1),(10,W yl),(14,W v0),(15,W F),(17,W u2),(18,W t.2.1),(16,W t.2.2)]) (fun _=>[]) (fun _=>0) (fun t=>t.1) (4294967296,q0,r0) ⟨hG,l0,Nat.sub_le _ _⟩ ?_ ?_
       ·refine Ak.fr [] [] hx AQ Aj ?_ ?_
        ·simp only [LY,seval]
        ·trivial
       ·rintro ⟨k,q,r⟩ ⟨i1,i2,i3⟩
        dsimp only at i1 i2 i3
        cases k with
        | zero=>omega
        | succ k =>
          rw [dl] at i1
          refine es 2000 ?_
          by_cases c1:4294967296#64≤q
          ·rw [if_pos (.inl c1)] at i1
           by_cases c3:4294967296#64≤r + y1
           ·rw [if_pos c3] at i1
            (simp only [c1,c3,i1,e32,LZ,seval])
            repeat refine sd ?_
            exact Ap.mkZ hx [] ⟨rfl,rfl,rfl⟩
           ·rw [if_neg c3] at i1
            have n1:=hsm r i2 c3
            (simp only [c1,c3,LZ,seval])
            refine ⟨(k,q - 1#64,r + y1),i1,n1.1,by rw [hadd r i2];omega,by omega,?_⟩
            refine Ak.fr [] [] hx AQ Aj ?_ ?_
            ·simp only [LY,seval]
            ·trivial
          ·by_cases c2:4294967296#64 * r + v0 < q * yl
           ·rw [if_pos (.inr c2)] at i1
            by_cases c3:4294967296#64≤r + y1
            ·rw [if_pos c3] at i1
             (simp only [c1,c2,c3,i1,e32,LZ,seval])
             repeat refine sd ?_
             exact Ap.mkZ hx [] ⟨rfl,rfl,rfl⟩
            ·rw [if_neg c3] at i1
             have n1:=hsm r i2 c3
             (simp only [c1,c2,c3,LZ,seval])
             refine ⟨(k,q - 1#64,r + y1),i1,n1.1,by rw [hadd r i2];omega,by omega,?_⟩
             refine Ak.fr [] [] hx AQ Aj ?_ ?_
             ·simp only [LY,seval]
             ·trivial
           ·rw [if_neg (fun h=>h.elim c1 c2)] at i1
            have i1:=i1.symm
            subst i1
            (simp only [c1,c2,e32,LZ,seval])
            repeat refine sd ?_
            exact Ap.mkZ hx [] ⟨rfl,rfl,rfl⟩
      ·rw [if_neg c3] at i1
       have n1:=hsm r i2 c3
       (simp only [c1,c3,LZ,seval])
       refine ⟨(k,q - 1#64,r + y1),i1,n1.1,by rw [hadd r i2];omega,by omega,?_⟩
       refine Ak.fr [] [] hx AQ Aj ?_ ?_
       ·simp only [LY,seval]
       ·trivial
     ·by_cases c2:4294967296#64 * r + v1 < q * yl
      ·rw [if_pos (.inr c2)] at i1
       by_cases c3:4294967296#64≤r + y1
       ·rw [if_pos c3] at i1
        (simp only [c1,c2,c3,i1,hu2,hq0,hr0,hy1n,hy1z,LZ,seval])
        repeat refine sd ?_
        refine An (σ:=Nat × BitVec 64 × BitVec 64) (fun t=>dl y1 yl v0 t.1 t.2.1 t.2.2=G∧t.2.2.toNat < 4294967296∧4294967296 - t.2.2.toNat≤t.1) (fun t=>fr 135 [(2,W Y),(8,W s),(9,W y1),(10,W yl),(14,W v0),(15,W F),(17,W u2),(18,W t.2.1),(16,W t.2.2)]) (fun _=>[]) (fun _=>0) (fun t=>t.1) (4294967296,q0,r0) ⟨hG,l0,Nat.sub_le _ _⟩ ?_ ?_
        ·refine Ak.fr [] [] hx AQ Aj ?_ ?_
         ·simp only [LY,seval]
         ·trivial
        ·rintro ⟨k,q,r⟩ ⟨i1,i2,i3⟩
         dsimp only at i1 i2 i3
         cases k with
         | zero=>omega
         | succ k =>
           rw [dl] at i1
           refine es 2000 ?_
           by_cases c1:4294967296#64≤q
           ·rw [if_pos (.inl c1)] at i1
            by_cases c3:4294967296#64≤r + y1
            ·rw [if_pos c3] at i1
             (simp only [c1,c3,i1,e32,LZ,seval])
             repeat refine sd ?_
             exact Ap.mkZ hx [] ⟨rfl,rfl,rfl⟩
            ·rw [if_neg c3] at i1
             have n1:=hsm r i2 c3
             (simp only [c1,c3,LZ,seval])
             refine ⟨(k,q - 1#64,r + y1),i1,n1.1,by rw [hadd r i2];omega,by omega,?_⟩
             refine Ak.fr [] [] hx AQ Aj ?_ ?_
             ·simp only [LY,seval]
             ·trivial
           ·by_cases c2:4294967296#64 * r + v0 < q * yl
            ·rw [if_pos (.inr c2)] at i1
             by_cases c3:4294967296#64≤r + y1
             ·rw [if_pos c3] at i1
              (simp only [c1,c2,c3,i1,e32,LZ,seval])
              repeat refine sd ?_
              exact Ap.mkZ hx [] ⟨rfl,rfl,rfl⟩
             ·rw [if_neg c3] at i1
              have n1:=hsm r i2 c3
              (simp only [c1,c2,c3,LZ,seval])
              refine ⟨(k,q - 1#64,r + y1),i1,n1.1,by rw [hadd r i2];omega,by omega,?_⟩
              refine Ak.fr [] [] hx AQ Aj ?_ ?_
              ·simp only [LY,seval]
              ·trivial
            ·rw [if_neg (fun h=>h.elim c1 c2)] at i1
             have i1:=i1.symm
             subst i1
             (simp only [c1,c2,e32,LZ,seval])
             repeat refine sd ?_
             exact Ap.mkZ hx [] ⟨rfl,rfl,rfl⟩
       ·rw [if_neg c3] at i1
        have n1:=hsm r i2 c3
        (simp only [c1,c2,c3,LZ,seval])
        refine ⟨(k,q - 1#64,r + y1),i1,n1.1,by rw [hadd r i2];omega,by omega,?_⟩
        refine Ak.fr [] [] hx AQ Aj ?_ ?_
        ·simp only [LY,seval]
        ·trivial
      ·rw [if_neg (fun h=>h.elim c1 c2)] at i1
       have i1:=i1.symm
       subst i1
       (simp only [c1,c2,hu2,hq0,hr0,hy1n,hy1z,LZ,seval])
       repeat refine sd ?_
       refine An (σ:=Nat × BitVec 64 × BitVec 64) (fun t=>dl y1 yl v0 t.1 t.2.1 t.2.2=G∧t.2.2.toNat < 4294967296∧4294967296 - t.2.2.toNat≤t.1) (fun t=>fr 135 [(2,W Y),(8,W s),(9,W y1),(10,W yl),(14,W v0),(15,W F),(17,W u2),(18,W t.2.1),(16,W t.2.2)]) (fun _=>[]) (fun _=>0) (fun t=>t.1) (4294967296,q0,r0) ⟨hG,l0,Nat.sub_le _ _⟩ ?_ ?_
       ·refine Ak.fr [] [] hx AQ Aj ?_ ?_
        ·simp only [LY,seval]
        ·trivial
       ·rintro ⟨k,q,r⟩ ⟨i1,i2,i3⟩
        dsimp only at i1 i2 i3
        cases k with
        | zero=>omega
        | succ k =>
          rw [dl] at i1
          refine es 2000 ?_
          by_cases c1:4294967296#64≤q
          ·rw [if_pos (.inl c1)] at i1
           by_cases c3:4294967296#64≤r + y1
           ·rw [if_pos c3] at i1
            (simp only [c1,c3,i1,e32,LZ,seval])
            repeat refine sd ?_
            exact Ap.mkZ hx [] ⟨rfl,rfl,rfl⟩
           ·rw [if_neg c3] at i1
            have n1:=hsm r i2 c3
            (simp only [c1,c3,LZ,seval])
            refine ⟨(k,q - 1#64,r + y1),i1,n1.1,by rw [hadd r i2];omega,by omega,?_⟩
            refine Ak.fr [] [] hx AQ Aj ?_ ?_
            ·simp only [LY,seval]
            ·trivial
          ·by_cases c2:4294967296#64 * r + v0 < q * yl
           ·rw [if_pos (.inr c2)] at i1
            by_cases c3:4294967296#64≤r + y1
            ·rw [if_pos c3] at i1
             (simp only [c1,c2,c3,i1,e32,LZ,seval])
             repeat refine sd ?_
             exact Ap.mkZ hx [] ⟨rfl,rfl,rfl⟩
            ·rw [if_neg c3] at i1
             have n1:=hsm r i2 c3
             (simp only [c1,c2,c3,LZ,seval])
             refine ⟨(k,q - 1#64,r + y1),i1,n1.1,by rw [hadd r i2];omega,by omega,?_⟩
             refine Ak.fr [] [] hx AQ Aj ?_ ?_
             ·simp only [LY,seval]
             ·trivial
           ·rw [if_neg (fun h=>h.elim c1 c2)] at i1
            have i1:=i1.symm
            subst i1
            (simp only [c1,c2,e32,LZ,seval])
            repeat refine sd ?_
            exact Ap.mkZ hx [] ⟨rfl,rfl,rfl⟩
variable {M:Seat}
theorem Wc {A B c:BitVec 64} (h1:A < c):mhi A B < c:=by
 rw [BitVec.lt_def] at *
 rw [Sz]
 have hB:=B.isLt
 apply (Nat.div_lt_iff_lt_mul Aj).2
 exact Nat.lt_of_le_of_lt (Nat.mul_le_mul_left _ (Nat.le_of_lt hB)) (Nat.mul_lt_mul_of_pos_right h1 Aj)
theorem Acu {A B c:BitVec 64} (h1:A < c) (h2:B < c):XM A B < c:=by
 rw [BitVec.lt_def] at *
 unfold XM
 split
 ·show 0 < _;omega
 ·show 1 < _;omega
theorem Ni (a c:BitVec 64) (hc:¬ c=0#64):HMod.hMod a c < c:=by
 rw [BitVec.lt_def,BitVec.toNat_umod]
 refine Nat.mod_lt _ (Nat.pos_of_ne_zero fun h=>hc (BitVec.eq_of_toNat_eq L7))
theorem PV (a b:BitVec 64) (H:Hp):QE (W a) (W b) (W 0#64) H=⟨True,.tup (.fcons 0 (W (a + b)) (.fcons 1 (W (XM a b)) .fnil)),H⟩:=Qa a b H
theorem ZA (A B:BitVec 64):(XM A B).toNat * 18446744073709551616 + (A + B).toNat=A.toNat + B.toNat:=by
 have h1:=A.isLt
 have h2:=B.isLt
 rw [BitVec.toNat_add]
 unfold XM
 split
 ·show 0 * 18446744073709551616 + _=_
  omega
 ·show 1 * 18446744073709551616 + _=_
  omega
theorem Aab (a b c:BitVec 64):((XM (HMod.hMod a c) (HMod.hMod b c)).toNat * 18446744073709551616 + (HMod.hMod a c + HMod.hMod b c).toNat) % c.toNat=(a.toNat + b.toNat) % c.toNat:=by
 rw [ZA,BitVec.toNat_umod,BitVec.toNat_umod,← Nat.add_mod]
theorem ZX (a b c:BitVec 64):((mhi (HMod.hMod a c) (HMod.hMod b c)).toNat * 18446744073709551616 + (HMod.hMod a c * HMod.hMod b c).toNat) % c.toNat=(a.toNat * b.toNat) % c.toNat:=by
 have e:(mhi (HMod.hMod a c) (HMod.hMod b c)).toNat * 18446744073709551616 + (HMod.hMod a c * HMod.hMod b c).toNat=(HMod.hMod a c).toNat * (HMod.hMod b c).toNat:=by
  rw [Sz,BitVec.toNat_mul]
  have:=Nat.div_add_mod ((HMod.hMod a c).toNat * (HMod.hMod b c).toNat) 18446744073709551616
  have e2:(2:Nat) ^ 64=18446744073709551616:=Aj
  rw [e2]
  omega
 rw [e,BitVec.toNat_umod,BitVec.toNat_umod,← Nat.mul_mod]
theorem RX (ok:OkP M) (a b c:BitVec 64):∃ w,(c ≠ 0#64→w.toNat=(a.toNat + b.toNat) % c.toNat)∧(c=0#64→w=0#64)∧Af M 322 [.int .i64 8,W a,W b,W c] [] 0 (Q3 (W w) [] 0):=by
 by_cases hc:c=0#64
 ·subst hc
  refine ⟨0#64,fun h=>absurd rfl h,fun _=>rfl,Ab ok.k322 rfl fun x hx=>?_⟩
  refine es 2000 ?_;(simp only [YB,W1,LZ,seval])
  exact Ap.mkZ hx [] ⟨rfl,rfl,rfl⟩
 ·have hcn:(c ≠ 0)=True:=eq_true hc
  have hA':=Ni a c hc
  have hB':=Ni b c hc
  obtain ⟨A,hA⟩:∃ A,HMod.hMod a c=A:=⟨_,rfl⟩
  obtain ⟨B,hB⟩:∃ B,HMod.hMod b c=B:=⟨_,rfl⟩
  rw [hA] at hA'
  rw [hB] at hB'
  obtain ⟨q,r,hrn,hr⟩:=PU ok (XM A B) (A + B) c (Acu hA' hB')
  refine ⟨r,fun _=>by rw [hrn,← hA,← hB];exact Aab a b c,fun h=>absurd h hc,Ab ok.k322 rfl fun x hx=>?_⟩
  obtain ⟨hi,hhi⟩:∃ hi,XM A B=hi:=⟨_,rfl⟩
  obtain ⟨lo,hlo⟩:∃ lo,A + B=lo:=⟨_,rfl⟩
  rw [hhi,hlo] at hr
  refine es 2000 ?_;(simp only [YB,W1,hc,hcn,hA,hB,LZ,seval])
  repeat refine sd ?_
  refine Ai (K7 ok A B) ?_
  (simp only [BV,hhi,hlo,PV,seval])
  repeat refine sd ?_
  refine Ai (hr) ?_
  (simp only [BV,seval])
  exact Ap.mkZ hx [] ⟨rfl,rfl,rfl⟩
theorem Rg (ok:OkP M) (a b c:BitVec 64):∃ w,(c ≠ 0#64→w.toNat=(a.toNat * b.toNat) % c.toNat)∧(c=0#64→w=0#64)∧Af M 322 [.int .i64 9,W a,W b,W c] [] 0 (Q3 (W w) [] 0):=by
 by_cases hc:c=0#64
 ·subst hc
  refine ⟨0#64,fun h=>absurd rfl h,fun _=>rfl,Ab ok.k322 rfl fun x hx=>?_⟩
  refine es 2000 ?_;(simp only [YB,W1,LZ,seval])
  exact Ap.mkZ hx [] ⟨rfl,rfl,rfl⟩
 ·have hcn:(c ≠ 0)=True:=eq_true hc
  have hA':=Ni a c hc
  have hB':=Ni b c hc
  obtain ⟨A,hA⟩:∃ A,HMod.hMod a c=A:=⟨_,rfl⟩
  obtain ⟨B,hB⟩:∃ B,HMod.hMod b c=B:=⟨_,rfl⟩
  rw [hA] at hA'
  rw [hB] at hB'
  obtain ⟨q,r,hrn,hr⟩:=PU ok (mhi A B) (A * B) c (Wc hA')
  refine ⟨r,fun _=>by rw [hrn,← hA,← hB];exact ZX a b c,fun h=>absurd h hc,Ab ok.k322 rfl fun x hx=>?_⟩
  obtain ⟨hi,hhi⟩:∃ hi,mhi A B=hi:=⟨_,rfl⟩
  obtain ⟨lo,hlo⟩:∃ lo,A * B=lo:=⟨_,rfl⟩
  rw [hhi,hlo] at hr
  refine es 2000 ?_;(simp only [YB,W1,hc,hcn,hA,hB,LZ,seval])
  repeat refine sd ?_
  refine Ai (K7 ok A B) ?_
  (simp only [BV,hhi,hlo,PV,seval])
  repeat refine sd ?_
  refine Ai (hr) ?_
  (simp only [BV,seval])
  exact Ap.mkZ hx [] ⟨rfl,rfl,rfl⟩
theorem GF (b:BitVec 64) (n:Nat):BitVec.ofInt 64 (b.toInt.fdiv (2 ^ min n 64))=b.sshiftRight n:=by
 rw [Int.fdiv_eq_ediv_of_nonneg _ (Int.pow_nonneg Aj),BitVec.sshiftRight,Int.shiftRight_eq_div_pow]
 congr 1
 have h1:=BitVec.toInt_lt (x:=b)
 have h2:=BitVec.le_toInt b
 by_cases h:n≤64
 ·rw [Nat.min_eq_left h,Ahx]
 ·rw [Nat.min_eq_right Aa]
  have hp:(18446744073709551616:Int)≤((2 ^ n:Nat):Int):=by
   have:=Nat.pow_le_pow_right (n:=2) Aj (show 64≤n by omega)
   have e:(2:Nat) ^ 64=18446744073709551616:=Aj
   omega
  have e64:(2:Int) ^ 64=18446744073709551616:=Aj
  rw [e64]
  generalize ((2 ^ n:Nat):Int)=m at hp
  have e63:(2:Int) ^ (64 - 1)=9223372036854775808:=Aj
  rw [e63] at h1 h2
  by_cases hb:0≤b.toInt
  ·rw [Int.ediv_eq_zero_of_lt hb Aa,Int.ediv_eq_zero_of_lt hb Aa]
  ·have k1:b.toInt / 18446744073709551616 = -1:=Aa
   have k2:b.toInt / m = -1:=by
    have l1:-1≤b.toInt / m:=(Int.le_ediv_iff_mul_le Aa).2 Aa
    have l2:b.toInt / m < 0:=Int.ediv_neg_of_neg_of_pos Aa Aa
    omega
   rw [k1,k2]
def Qs (op:Nat) (a b:BitVec 64):BitVec 64 :=
 if op=11 then (if 7#64≤a then b else (b <<< (56#64 - 8#64 * a)).sshiftRight (56#64 - 8#64 * a).toNat)
 else if op=12 then (if 7#64 < a then 0#64 else (b >>> (56#64 - 8#64 * a)) &&& 255#64)
 else if op=13 then b <<< a else if op=14 then b >>> a else b.sshiftRight a.toNat
theorem K1 (ok:OkP M) (a b:BitVec 64):Af M 324 [.int .i64 11,W a,W b] [] 0 (Q3 (W (Qs 11 a b)) [] 0):=by
 generalize hF:Qs 11 a b=F
 simp only [Qs,seval,C2] at hF
 rcases Classical.propComplete (7#64≤a) with h | h
 ·refine Ab ok.k324 rfl fun x hx=>?_
  simp only [h,if_true] at hF
  refine es 2000 ?_;(simp only [P8,Oq,h,GF,LZ,seval])
  repeat refine sd ?_
  subst hF
  exact Ap.mkZ hx [] ⟨rfl,rfl,rfl⟩
 ·refine Ab ok.k324 rfl fun x hx=>?_
  simp only [h,if_false] at hF
  refine es 2000 ?_;(simp only [P8,Oq,h,GF,LZ,seval])
  repeat refine sd ?_
  subst hF
  exact Ap.mkZ hx [] ⟨rfl,rfl,rfl⟩
theorem JE (ok:OkP M) (a b:BitVec 64):Af M 324 [.int .i64 12,W a,W b] [] 0 (Q3 (W (Qs 12 a b)) [] 0):=by
 generalize hF:Qs 12 a b=F
 simp only [Qs,seval,C2] at hF
 rcases Classical.propComplete (7#64 < a) with h | h
 ·refine Ab ok.k324 rfl fun x hx=>?_
  simp only [h,if_true] at hF
  refine es 2000 ?_;(simp only [P8,Oq,h,GF,LZ,seval])
  repeat refine sd ?_
  subst hF
  exact Ap.mkZ hx [] ⟨rfl,rfl,rfl⟩
 ·refine Ab ok.k324 rfl fun x hx=>?_
  simp only [h,if_false] at hF
  refine es 2000 ?_;(simp only [P8,Oq,h,GF,LZ,seval])
  repeat refine sd ?_
  subst hF
  exact Ap.mkZ hx [] ⟨rfl,rfl,rfl⟩
theorem Ke (ok:OkP M) (a b:BitVec 64):Af M 324 [.int .i64 13,W a,W b] [] 0 (Q3 (W (Qs 13 a b)) [] 0):=by
 generalize hF:Qs 13 a b=F
 simp only [Qs,seval,C2] at hF
 refine Ab ok.k324 rfl fun x hx=>?_
 refine es 2000 ?_;(simp only [P8,Oq,GF,LZ,seval])
 repeat refine sd ?_
 subst hF
 exact Ap.mkZ hx [] ⟨rfl,rfl,rfl⟩
theorem JX (ok:OkP M) (a b:BitVec 64):Af M 324 [.int .i64 14,W a,W b] [] 0 (Q3 (W (Qs 14 a b)) [] 0):=by
 generalize hF:Qs 14 a b=F
 simp only [Qs,seval,C2] at hF
 refine Ab ok.k324 rfl fun x hx=>?_
 refine es 2000 ?_;(simp only [P8,Oq,GF,LZ,seval])
 repeat refine sd ?_
 subst hF
 exact Ap.mkZ hx [] ⟨rfl,rfl,rfl⟩
theorem JQ (ok:OkP M) (a b:BitVec 64):Af M 324 [.int .i64 15,W a,W b] [] 0 (Q3 (W (Qs 15 a b)) [] 0):=by
 generalize hF:Qs 15 a b=F
 simp only [Qs,seval,C2] at hF
 refine Ab ok.k324 rfl fun x hx=>?_
 refine es 2000 ?_;(simp only [P8,Oq,GF,LZ,seval])
 repeat refine sd ?_
 subst hF
 exact Ap.mkZ hx [] ⟨rfl,rfl,rfl⟩
def apW (op:Nat) (a b c:BitVec 64):BitVec 64 :=
 if op=1 then a + b else if op=2 then a - b else if op=3 then a * b
 else if op=4 ∨ op=5 ∨ op=6 ∨ op=7 then Abr op a b
 else if op=8 then (if c=0#64 then 0#64 else BitVec.ofNat 64 ((a.toNat + b.toNat) % c.toNat))
 else if op=9 then (if c=0#64 then 0#64 else BitVec.ofNat 64 ((a.toNat * b.toNat) % c.toNat))
 else if op=10 then pwr 64 a b 1#64
 else if op=11 ∨ op=12 ∨ op=13 ∨ op=14 ∨ op=15 then Qs op a b
 else if op=16 then flg (decide (a < b)) else if op=17 then flg (decide (b < a))
 else if op=18 then flg (decide (a.toInt < b.toInt)) else if op=19 then flg (decide (b.toInt < a.toInt))
 else if op=20 then flg (decide (a=b)) else if op=21 then flg (decide (a=0#64))
 else if op=22 then a &&& b else if op=23 then a ||| b else if op=24 then a ^^^ b else a ^^^ 18446744073709551615#64
theorem Adz {w:BitVec 64} {n:Nat} {c:BitVec 64} (h1:c ≠ 0#64→w.toNat=n % c.toNat) (h2:c=0#64→w=0#64):w=(if c=0#64 then 0#64 else BitVec.ofNat 64 (n % c.toNat)):=by
 split
 ·rename_i h;exact h2 h
 ·rename_i h
  apply BitVec.eq_of_toNat_eq
  have hc:=c.isLt
  have h0:0 < c.toNat:=Nat.pos_of_ne_zero fun e=>h (BitVec.eq_of_toNat_eq (by simpa using e))
  rw [h1 h,BitVec.toNat_ofNat]
  exact (Nat.mod_eq_of_lt (Nat.lt_trans (Nat.mod_lt _ h0) hc)).symm
theorem GJ (ok:OkP M) (op:Nat) (h1:1≤op) (h2:op≤25) (a b c:BitVec 64):Af M 215 [.int .i64 op,W a,W b,W c] [] 0 (Q3 (Ah (W (apW op a b c)) .nili) [] 0):=by
 have c1:((1:Nat):Int)=1:=rfl
 have hd:=fun (op:Nat) h=>N2 ok op h a b
 have h4:=hd 4 Aj
 have h5:=hd 5 Aj
 have h6:=hd 6 Aj
 have h7:=hd 7 Aj
 obtain ⟨w8,p8,z8,h8⟩:=RX ok a b c
 obtain ⟨w9,p9,z9,h9⟩:=Rg ok a b c
 rw [Adz p8 z8] at h8
 rw [Adz p9 z9] at h9
 have h10:=Sc ok a b
 have h11:=K1 ok a b
 have h12:=JE ok a b
 have h13:=Ke ok a b
 have h14:=JX ok a b
 have h15:=JQ ok a b
 have hf:=fun t=>UW ok t
 have hop:op=1 ∨ op=2 ∨ op=3 ∨ op=22 ∨ op=23 ∨ op=24 ∨ op=25 ∨ op=16 ∨ op=17 ∨ op=18 ∨ op=19 ∨ op=20 ∨ op=21 ∨ op=4 ∨ op=5 ∨ op=6 ∨ op=7 ∨ op=8 ∨ op=9 ∨ op=10 ∨ op=11 ∨ op=12 ∨ op=13 ∨ op=14 ∨ op=15:=Aa
 rcases hop with rfl | rfl | rfl | rfl | rfl | rfl | rfl | rfl | rfl | rfl | rfl | rfl | rfl | rfl | rfl | rfl | rfl | rfl | rfl | rfl | rfl | rfl | rfl | rfl | rfl
 all_goals
  generalize hF:apW _ a b c=F
  simp only [apW,seval,C2,or_true,true_or,or_self,or_false] at hF
 iterate 7
  focus
   refine Ab ok.k215 rfl fun x hx=>?_
   refine es 2000 ?_;(simp only [YH,Aai,c1,Lbp,seval])
   subst hF
   exact Ap.mkZ hx [] ⟨rfl,rfl,rfl⟩
 iterate 6
  focus
   refine Ab ok.k215 rfl fun x hx=>?_
   refine es 2000 ?_;(simp only [YH,Aai,Lbp,seval])
   refine Ai (hf _) ?_
   (simp only [LZ,seval])
   subst hF
   exact Ap.mkZ hx [] ⟨rfl,rfl,rfl⟩
 all_goals
  refine Ab ok.k215 rfl fun x hx=>?_
  refine es 2000 ?_;(simp only [YH,Aai,Lbp,seval])
  first
   | (refine Ai (h4) ?_)
   | (refine Ai (h5) ?_)
   | (refine Ai (h6) ?_)
   | (refine Ai (h7) ?_)
   | (refine Ai (h8) ?_)
   | (refine Ai (h9) ?_)
   | (refine Ai (h10) ?_)
   | (refine Ai (h11) ?_)
   | (refine Ai (h12) ?_)
   | (refine Ai (h13) ?_)
   | (refine Ai (h14) ?_)
   | (refine Ai (h15) ?_)
  (simp only [LZ,seval])
  subst hF
  exact Ap.mkZ hx [] ⟨rfl,rfl,rfl⟩
theorem XH (ok:OkP M) (op:Nat) (h1:1≤op) (h2:op≤25) (a b c:BitVec 64):∃ w,Af M 215 [.int .i64 op,W a,W b,W c] [] 0 (Q3 (Ah (W w) .nili) [] 0):=⟨_,GJ ok op h1 h2 a b c⟩
end Mv
