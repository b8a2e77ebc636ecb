/- A part. -/
import Derived.Test.YtncipgmjhaiagaaGreatDoorGY
import Derived.Test.YtncipgmjhaiagaaGreatDoorHB
set_option linter.all false
set_option maxRecDepth 20000
set_option maxHeartbeats 4000000
namespace Mv
open Go
theorem Ac6 (a b:BitVec 64):(a - a / b * b).toNat=a.toNat % b.toNat:=by
 have h:a / b * b=BitVec.ofNat 64 (a.toNat / b.toNat * b.toNat):=by
  apply BitVec.eq_of_toNat_eq
  rw [BitVec.toNat_mul,BitVec.toNat_udiv,BitVec.toNat_ofNat]
 have hl:a.toNat / b.toNat * b.toNat≤a.toNat:=Nat.div_mul_le_self _ _
 have ha:=a.isLt
 rw [h,BitVec.toNat_sub,BitVec.toNat_ofNat,Nat.mod_eq_of_lt (a:=a.toNat / b.toNat * b.toNat) Aa]
 have e:=Nat.div_add_mod a.toNat b.toNat
 rw [Nat.mul_comm] at e
 omega
theorem Ih (q:Nat) (hq:q < 100):(BitVec.ofInt 64 (q:Int)).toNat=q:=by
 rw [R2 _ Aa Aa];rfl
theorem Zd (y:BitVec 64) (hy:y ≠ 0#64):∃ s:BitVec 64,BitVec.ofInt 64 ((64 - Ec y:Nat):Int)=s∧(s.toNat < 64∧y.toNat * 2 ^ s.toNat < 18446744073709551616)∧2147483648≤((y <<< s.toNat) >>> 32).toNat∧((y <<< s.toNat) >>> 32).toNat < 4294967296:=by
 obtain ⟨h1,h2⟩:=PP y
 obtain ⟨h3,h4,h5⟩:=h2 hy
 refine ⟨_,rfl,?_⟩
 have hs:(BitVec.ofInt 64 ((64 - Ec y:Nat):Int)).toNat=64 - Ec y:=Ih _ Aa
 rw [hs]
 generalize Ec y=n at *
 have e1:y.toNat * 2 ^ (64 - n) < 2 ^ 64:=by
  have:2 ^ 64=2 ^ n * 2 ^ (64 - n):=Aau
  rw [this]
  exact Nat.mul_lt_mul_of_pos_right h5 (Nat.two_pow_pos _)
 have e2:2 ^ 63≤y.toNat * 2 ^ (64 - n):=by
  have:2 ^ 63=2 ^ (n - 1) * 2 ^ (64 - n):=Aau
  rw [this]
  exact Nat.mul_le_mul_right _ h4
 refine ⟨⟨by omega,e1⟩,?_⟩
 rw [BitVec.toNat_ushiftRight,Nat.shiftRight_eq_div_pow,BitVec.toNat_shiftLeft,Nat.shiftLeft_eq,Nat.mod_eq_of_lt e1]
 omega
theorem OD {M:Seat} (ok:OkP M) (hi lo y:BitVec 64) (h:hi < y) :
 ∃ q r:BitVec 64,r.toNat=(hi.toNat * 18446744073709551616 + lo.toNat) % y.toNat∧Af M 423 [W hi,W lo,W y] [] 0 (fun v H' k'=>v=Ao (W q) (W r)∧H'=[]∧k'=0):=by
 have hy0:¬ y=0#64:=by rintro rfl;rw [BitVec.lt_def] at h;exact absurd h (Nat.not_lt_zero _)
 have hy0':(y ≠ 0)=True:=eq_true hy0
 have hle:¬ y≤hi:=by rw [BitVec.lt_def] at h;rw [BitVec.le_def];omega
 by_cases hz:hi=0#64
 ·subst hz
  refine ⟨lo / y,lo % y,by rw [BitVec.toNat_umod];simp,?_⟩
  refine Ac ok.k423 rfl fun x hx=>?_
  refine es 2000 ?_;(simp only [Abi,Ags,hy0,hy0',hle,LZ,seval])
  repeat refine sd ?_
  exact Aq.mkZ hx [] ⟨rfl,rfl,rfl⟩
 ·obtain ⟨s,hs,⟨hs64,hyl64⟩,b1,b2⟩:=Zd y hy0
  obtain ⟨Y,hY⟩:∃ Y,y <<< s.toNat=Y:=⟨_,rfl⟩
  rw [hY] at b1 b2
  obtain ⟨y1,hy1⟩:∃ y1,Y >>> 32=y1:=⟨_,rfl⟩
  rw [hy1] at b1 b2
  obtain ⟨yl,hyl⟩:∃ yl,Y &&& 4294967295#64=yl:=⟨_,rfl⟩
  obtain ⟨u,hu⟩:∃ u,hi <<< s.toNat ||| lo >>> (64#64 - s).toNat=u:=⟨_,rfl⟩
  obtain ⟨v,hv⟩:∃ v,lo <<< s.toNat=v:=⟨_,rfl⟩
  obtain ⟨v1,hv1⟩:∃ v1,v >>> 32=v1:=⟨_,rfl⟩
  obtain ⟨v0,hv0⟩:∃ v0,v &&& 4294967295#64=v0:=⟨_,rfl⟩
  obtain ⟨q1,hq1⟩:∃ q1,u / y1=q1:=⟨_,rfl⟩
  obtain ⟨r1,hr1⟩:∃ r1,u - q1 * y1=r1:=⟨_,rfl⟩
  obtain ⟨F,hF⟩:∃ F,dl y1 yl v1 4294967296 q1 r1=F:=⟨_,rfl⟩
  obtain ⟨u2,hu2⟩:∃ u2,u * 4294967296#64 + v1 - F * Y=u2:=⟨_,rfl⟩
  obtain ⟨q0,hq0⟩:∃ q0,u2 / y1=q0:=⟨_,rfl⟩
  obtain ⟨r0,hr0⟩:∃ r0,u2 - q0 * y1=r0:=⟨_,rfl⟩
  obtain ⟨G,hG⟩:∃ G,dl y1 yl v0 4294967296 q0 r0=G:=⟨_,rfl⟩
  have hy1n:(y1 ≠ 0)=True:=eq_true (by rintro rfl;exact absurd b1 Ak)
  have l1:r1.toNat < 4294967296:=by
   rw [← hr1,← hq1,Ac6]
   exact Nat.lt_trans (Nat.mod_lt _ Aa) b2
  have l0:r0.toNat < 4294967296:=by
   rw [← hr0,← hq0,Ac6]
   exact Nat.lt_trans (Nat.mod_lt _ Aa) b2
  have hadd:∀ r:BitVec 64,r.toNat < 4294967296→(r + y1).toNat=r.toNat + y1.toNat:=fun r hr=>Rg Aa
  have hsm:∀ r:BitVec 64,r.toNat < 4294967296→¬ 4294967296#64≤r + y1→(r + y1).toNat < 4294967296∧r.toNat + y1.toNat < 4294967296:=fun r hr h=>by
   rw [BitVec.le_def,hadd r hr] at h
   have e:(4294967296#64).toNat=4294967296:=rfl
   rw [e] at h
   rw [hadd r hr];omega
  have hy1z:¬ y1=0#64:=of_eq_true hy1n
  have e32:(32#64).toNat=32:=rfl
  refine ⟨F * 4294967296#64 + G,(u2 * 4294967296#64 + v0 - G * Y) >>> s.toNat,Aep hi lo y s Y u v y1 yl v1 v0 q1 r1 F u2 q0 r0 G h hs64 hyl64 hY hu hv hy1 b1 hyl hv1 hv0 hq1 hr1 hF hu2 hq0 hr0 hG,?_⟩
  refine Ac ok.k423 rfl fun x hx=>?_
  refine es 2000 ?_;(simp only [Abi,Ags,hy0,hle,hz,LZ,seval])
  refine Ah (Pp ok y) ?_
  (simp only [hs,hY,hy1,hyl,hu,hv,hv1,hv0,hq1,hr1,hy1n,hy1z,e32,LZ,seval])
  repeat refine sd ?_
  refine Ag (σ:=Nat × BitVec 64 × BitVec 64) (fun t=>dl y1 yl v1 t.1 t.2.1 t.2.2=F∧t.2.2.toNat < 4294967296∧4294967296 - t.2.2.toNat≤t.1) (fun t=>fr 135 [(2,W Y),(8,W s),(9,W y1),(10,W yl),(11,W u),(13,W v1),(14,W v0),(15,W t.2.1),(16,W t.2.2)]) (fun _=>[]) (fun _=>0) (fun t=>t.1) (4294967296,q1,r1) ⟨hF,l1,Nat.sub_le _ _⟩ ?_ ?_
  ·refine Aj.fr [] [] hx Ax Ak ?_ ?_
   ·simp only [LY,seval]
   ·trivial
  ·rintro ⟨k,q,r⟩ ⟨i1,i2,i3⟩
   dsimp only at i1 i2 i3
   cases k with
   | zero=>omega
   | succ k =>
     rw [dl] at i1
     refine es 2000 ?_
     by_cases c1:4294967296#64≤q
     ·rw [if_pos (.inl c1)] at i1
      by_cases c3:4294967296#64≤r + y1
      ·rw [if_pos c3] at i1
       (simp only [c1,c3,i1,hu2,hq0,hr0,hy1n,hy1z,LZ,seval])
       repeat refine sd ?_
       refine Ag (σ:=Nat × BitVec 64 × BitVec 64) (fun t=>dl y1 yl v0 t.1 t.2.1 t.2.2=G∧t.2.2.toNat < 4294967296∧4294967296 - t.2.2.toNat≤t.1) (fun t=>fr 135 [(2,W Y),(8,W s),(9,W y1),(10,W yl),(14,W v0),(15,W F),(17,W u2),(18,W t.2.1),(16,W t.2.2)]) (fun _=>[]) (fun _=>0) (fun t=>t.1) (4294967296,q0,r0) ⟨hG,l0,Nat.sub_le _ _⟩ ?_ ?_
       ·refine Aj.fr [] [] hx Ax Ak ?_ ?_
        ·simp only [LY,seval]
        ·trivial
       ·rintro ⟨k,q,r⟩ ⟨i1,i2,i3⟩
        dsimp only at i1 i2 i3
        cases k with
        | zero=>omega
        | succ k =>
          rw [dl] at i1
          refine es 2000 ?_
          by_cases c1:4294967296#64≤q
          ·rw [if_pos (.inl c1)] at i1
           by_cases c3:4294967296#64≤r + y1
           ·rw [if_pos c3] at i1
            (simp only [c1,c3,i1,e32,LZ,seval])
            repeat refine sd ?_
            exact Aq.mkZ hx [] ⟨rfl,rfl,rfl⟩
           ·rw [if_neg c3] at i1
            have n1:=hsm r i2 c3
            (simp only [c1,c3,LZ,seval])
            refine ⟨(k,q - 1#64,r + y1),i1,n1.1,by rw [hadd r i2];omega,by omega,?_⟩
            refine Aj.fr [] [] hx Ax Ak ?_ ?_
            ·simp only [LY,seval]
            ·trivial
          ·by_cases c2:4294967296#64 * r + v0 < q * yl
           ·rw [if_pos (.inr c2)] at i1
            by_cases c3:4294967296#64≤r + y1
            ·rw [if_pos c3] at i1
             (simp only [c1,c2,c3,i1,e32,LZ,seval])
             repeat refine sd ?_
             exact Aq.mkZ hx [] ⟨rfl,rfl,rfl⟩
            ·rw [if_neg c3] at i1
             have n1:=hsm r i2 c3
             (simp only [c1,c2,c3,LZ,seval])
             refine ⟨(k,q - 1#64,r + y1),i1,n1.1,by rw [hadd r i2];omega,by omega,?_⟩
             refine Aj.fr [] [] hx Ax Ak ?_ ?_
             ·simp only [LY,seval]
             ·trivial
           ·rw [if_neg (fun h=>h.elim c1 c2)] at i1
            have i1:=i1.symm
            subst i1
            (simp only [c1,c2,e32,LZ,seval])
            repeat refine sd ?_
            exact Aq.mkZ hx [] ⟨rfl,rfl,rfl⟩
      ·rw [if_neg c3] at i1
       have n1:=hsm r i2 c3
       (simp only [c1,c3,LZ,seval])
       refine ⟨(k,q - 1#64,r + y1),i1,n1.1,by rw [hadd r i2];omega,by omega,?_⟩
       refine Aj.fr [] [] hx Ax Ak ?_ ?_
       ·simp only [LY,seval]
       ·trivial
     ·by_cases c2:4294967296#64 * r + v1 < q * yl
      ·rw [if_pos (.inr c2)] at i1
       by_cases c3:4294967296#64≤r + y1
       ·rw [if_pos c3] at i1
        (simp only [c1,c2,c3,i1,hu2,hq0,hr0,hy1n,hy1z,LZ,seval])
        repeat refine sd ?_
        refine Ag (σ:=Nat × BitVec 64 × BitVec 64) (fun t=>dl y1 yl v0 t.1 t.2.1 t.2.2=G∧t.2.2.toNat < 4294967296∧4294967296 - t.2.2.toNat≤t.1) (fun t=>fr 135 [(2,W Y),(8,W s),(9,W y1),(10,W yl),(14,W v0),(15,W F),(17,W u2),(18,W t.2.1),(16,W t.2.2)]) (fun _=>[]) (fun _=>0) (fun t=>t.1) (4294967296,q0,r0) ⟨hG,l0,Nat.sub_le _ _⟩ ?_ ?_
        ·refine Aj.fr [] [] hx Ax Ak ?_ ?_
         ·simp only [LY,seval]
         ·trivial
        ·rintro ⟨k,q,r⟩ ⟨i1,i2,i3⟩
         dsimp only at i1 i2 i3
         cases k with
         | zero=>omega
         | succ k =>
           rw [dl] at i1
           refine es 2000 ?_
           by_cases c1:4294967296#64≤q
           ·rw [if_pos (.inl c1)] at i1
            by_cases c3:4294967296#64≤r + y1
            ·rw [if_pos c3] at i1
             (simp only [c1,c3,i1,e32,LZ,seval])
             repeat refine sd ?_
             exact Aq.mkZ hx [] ⟨rfl,rfl,rfl⟩
            ·rw [if_neg c3] at i1
             have n1:=hsm r i2 c3
             (simp only [c1,c3,LZ,seval])
             refine ⟨(k,q - 1#64,r + y1),i1,n1.1,by rw [hadd r i2];omega,by omega,?_⟩
             refine Aj.fr [] [] hx Ax Ak ?_ ?_
             ·simp only [LY,seval]
             ·trivial
           ·by_cases c2:4294967296#64 * r + v0 < q * yl
            ·rw [if_pos (.inr c2)] at i1
             by_cases c3:4294967296#64≤r + y1
             ·rw [if_pos c3] at i1
              (simp only [c1,c2,c3,i1,e32,LZ,seval])
              repeat refine sd ?_
              exact Aq.mkZ hx [] ⟨rfl,rfl,rfl⟩
             ·rw [if_neg c3] at i1
              have n1:=hsm r i2 c3
              (simp only [c1,c2,c3,LZ,seval])
              refine ⟨(k,q - 1#64,r + y1),i1,n1.1,by rw [hadd r i2];omega,by omega,?_⟩
              refine Aj.fr [] [] hx Ax Ak ?_ ?_
              ·simp only [LY,seval]
              ·trivial
            ·rw [if_neg (fun h=>h.elim c1 c2)] at i1
             have i1:=i1.symm
             subst i1
             (simp only [c1,c2,e32,LZ,seval])
             repeat refine sd ?_
             exact Aq.mkZ hx [] ⟨rfl,rfl,rfl⟩
       ·rw [if_neg c3] at i1
        have n1:=hsm r i2 c3
        (simp only [c1,c2,c3,LZ,seval])
        refine ⟨(k,q - 1#64,r + y1),i1,n1.1,by rw [hadd r i2];omega,by omega,?_⟩
        refine Aj.fr [] [] hx Ax Ak ?_ ?_
        ·simp only [LY,seval]
        ·trivial
      ·rw [if_neg (fun h=>h.elim c1 c2)] at i1
       have i1:=i1.symm
       subst i1
       (simp only [c1,c2,hu2,hq0,hr0,hy1n,hy1z,LZ,seval])
       repeat refine sd ?_
       refine Ag (σ:=Nat × BitVec 64 × BitVec 64) (fun t=>dl y1 yl v0 t.1 t.2.1 t.2.2=G∧t.2.2.toNat < 4294967296∧4294967296 - t.2.2.toNat≤t.1) (fun t=>fr 135 [(2,W Y),(8,W s),(9,W y1),(10,W yl),(14,W v0),(15,W F),(17,W u2),(18,W t.2.1),(16,W t.2.2)]) (fun _=>[]) (fun _=>0) (fun t=>t.1) (4294967296,q0,r0) ⟨hG,l0,Nat.sub_le _ _⟩ ?_ ?_
       ·refine Aj.fr [] [] hx Ax Ak ?_ ?_
        ·simp only [LY,seval]
        ·trivial
       ·rintro ⟨k,q,r⟩ ⟨i1,i2,i3⟩
        dsimp only at i1 i2 i3
        cases k with
        | zero=>omega
        | succ k =>
          rw [dl] at i1
          refine es 2000 ?_
          by_cases c1:4294967296#64≤q
          ·rw [if_pos (.inl c1)] at i1
           by_cases c3:4294967296#64≤r + y1
           ·rw [if_pos c3] at i1
            (simp only [c1,c3,i1,e32,LZ,seval])
            repeat refine sd ?_
            exact Aq.mkZ hx [] ⟨rfl,rfl,rfl⟩
           ·rw [if_neg c3] at i1
            have n1:=hsm r i2 c3
            (simp only [c1,c3,LZ,seval])
            refine ⟨(k,q - 1#64,r + y1),i1,n1.1,by rw [hadd r i2];omega,by omega,?_⟩
            refine Aj.fr [] [] hx Ax Ak ?_ ?_
            ·simp only [LY,seval]
            ·trivial
          ·by_cases c2:4294967296#64 * r + v0 < q * yl
           ·rw [if_pos (.inr c2)] at i1
            by_cases c3:4294967296#64≤r + y1
            ·rw [if_pos c3] at i1
             (simp only [c1,c2,c3,i1,e32,LZ,seval])
             repeat refine sd ?_
             exact Aq.mkZ hx [] ⟨rfl,rfl,rfl⟩
            ·rw [if_neg c3] at i1
             have n1:=hsm r i2 c3
             (simp only [c1,c2,c3,LZ,seval])
             refine ⟨(k,q - 1#64,r + y1),i1,n1.1,by rw [hadd r i2];omega,by omega,?_⟩
             refine Aj.fr [] [] hx Ax Ak ?_ ?_
             ·simp only [LY,seval]
             ·trivial
           ·rw [if_neg (fun h=>h.elim c1 c2)] at i1
            have i1:=i1.symm
            subst i1
            (simp only [c1,c2,e32,LZ,seval])
            repeat refine sd ?_
            exact Aq.mkZ hx [] ⟨rfl,rfl,rfl⟩
variable {M:Seat}
theorem Wk {A B c:BitVec 64} (h1:A < c):UH A B < c:=by
 rw [BitVec.lt_def] at *
 rw [NJ]
 have hB:=B.isLt
 apply (Nat.div_lt_iff_lt_mul Ak).2
 exact Nat.lt_of_le_of_lt (Nat.mul_le_mul_left _ (Nat.le_of_lt hB)) (Nat.mul_lt_mul_of_pos_right h1 Ak)
theorem Ab2 {A B c:BitVec 64} (h1:A < c) (h2:B < c):VN A B < c:=by
 rw [BitVec.lt_def] at *
 unfold VN
 split
 ·show 0 < _;omega
 ·show 1 < _;omega
theorem N2 (a c:BitVec 64) (hc:¬ c=0#64):HMod.hMod a c < c:=by
 rw [BitVec.lt_def,BitVec.toNat_umod]
 refine Nat.mod_lt _ (Nat.pos_of_ne_zero fun h=>hc (BitVec.eq_of_toNat_eq Jk))
theorem Pz (a b:BitVec 64) (H:Hp):Qw (W a) (W b) (W 0#64) H=⟨True,.tup (.fcons 0 (W (a + b)) (.fcons 1 (W (VN a b)) .fnil)),H⟩:=Pg a b H
theorem Aca (A B:BitVec 64):(VN A B).toNat * 18446744073709551616 + (A + B).toNat=A.toNat + B.toNat:=by
 have h1:=A.isLt
 have h2:=B.isLt
 rw [BitVec.toNat_add]
 unfold VN
 split
 ·show 0 * 18446744073709551616 + _=_
  omega
 ·show 1 * 18446744073709551616 + _=_
  omega
theorem ZD (a b c:BitVec 64):((VN (HMod.hMod a c) (HMod.hMod b c)).toNat * 18446744073709551616 + (HMod.hMod a c + HMod.hMod b c).toNat) % c.toNat=(a.toNat + b.toNat) % c.toNat:=by
 rw [Aca,BitVec.toNat_umod,BitVec.toNat_umod,← Nat.add_mod]
theorem Zk (a b c:BitVec 64):((UH (HMod.hMod a c) (HMod.hMod b c)).toNat * 18446744073709551616 + (HMod.hMod a c * HMod.hMod b c).toNat) % c.toNat=(a.toNat * b.toNat) % c.toNat:=by
 have e:(UH (HMod.hMod a c) (HMod.hMod b c)).toNat * 18446744073709551616 + (HMod.hMod a c * HMod.hMod b c).toNat=(HMod.hMod a c).toNat * (HMod.hMod b c).toNat:=by
  rw [NJ,BitVec.toNat_mul]
  have:=Nat.div_add_mod ((HMod.hMod a c).toNat * (HMod.hMod b c).toNat) 18446744073709551616
  have e2:(2:Nat) ^ 64=18446744073709551616:=Ak
  rw [e2]
  omega
 rw [e,BitVec.toNat_umod,BitVec.toNat_umod,← Nat.mul_mod]
theorem QX (ok:OkP M) (a b c:BitVec 64):∃ w,(c ≠ 0#64→w.toNat=(a.toNat + b.toNat) % c.toNat)∧(c=0#64→w=0#64)∧Af M 322 [.int .i64 8,W a,W b,W c] [] 0 (Q3 (W w) [] 0):=by
 by_cases hc:c=0#64
 ·subst hc
  refine ⟨0#64,fun h=>absurd rfl h,fun _=>rfl,Ac ok.k322 rfl fun x hx=>?_⟩
  refine es 2000 ?_;(simp only [UD,Wl,LZ,seval])
  exact Aq.mkZ hx [] ⟨rfl,rfl,rfl⟩
 ·have hcn:(c ≠ 0)=True:=eq_true hc
  have hA':=N2 a c hc
  have hB':=N2 b c hc
  obtain ⟨A,hA⟩:∃ A,HMod.hMod a c=A:=⟨_,rfl⟩
  obtain ⟨B,hB⟩:∃ B,HMod.hMod b c=B:=⟨_,rfl⟩
  rw [hA] at hA'
  rw [hB] at hB'
  obtain ⟨q,r,hrn,hr⟩:=OD ok (VN A B) (A + B) c (Ab2 hA' hB')
  refine ⟨r,fun _=>by rw [hrn,← hA,← hB];exact ZD a b c,fun h=>absurd h hc,Ac ok.k322 rfl fun x hx=>?_⟩
  obtain ⟨hi,hhi⟩:∃ hi,VN A B=hi:=⟨_,rfl⟩
  obtain ⟨lo,hlo⟩:∃ lo,A + B=lo:=⟨_,rfl⟩
  rw [hhi,hlo] at hr
  refine es 2000 ?_;(simp only [UD,Wl,hc,hcn,hA,hB,LZ,seval])
  repeat refine sd ?_
  refine Ah (KE ok A B) ?_
  (simp only [Cb,hhi,hlo,Pz,seval])
  repeat refine sd ?_
  refine Ah (hr) ?_
  (simp only [Cb,seval])
  exact Aq.mkZ hx [] ⟨rfl,rfl,rfl⟩
theorem Rq (ok:OkP M) (a b c:BitVec 64):∃ w,(c ≠ 0#64→w.toNat=(a.toNat * b.toNat) % c.toNat)∧(c=0#64→w=0#64)∧Af M 322 [.int .i64 9,W a,W b,W c] [] 0 (Q3 (W w) [] 0):=by
 by_cases hc:c=0#64
 ·subst hc
  refine ⟨0#64,fun h=>absurd rfl h,fun _=>rfl,Ac ok.k322 rfl fun x hx=>?_⟩
  refine es 2000 ?_;(simp only [UD,Wl,LZ,seval])
  exact Aq.mkZ hx [] ⟨rfl,rfl,rfl⟩
 ·have hcn:(c ≠ 0)=True:=eq_true hc
  have hA':=N2 a c hc
  have hB':=N2 b c hc
  obtain ⟨A,hA⟩:∃ A,HMod.hMod a c=A:=⟨_,rfl⟩
  obtain ⟨B,hB⟩:∃ B,HMod.hMod b c=B:=⟨_,rfl⟩
  rw [hA] at hA'
  rw [hB] at hB'
  obtain ⟨q,r,hrn,hr⟩:=OD ok (UH A B) (A * B) c (Wk hA')
  refine ⟨r,fun _=>by rw [hrn,← hA,← hB];exact Zk a b c,fun h=>absurd h hc,Ac ok.k322 rfl fun x hx=>?_⟩
  obtain ⟨hi,hhi⟩:∃ hi,UH A B=hi:=⟨_,rfl⟩
  obtain ⟨lo,hlo⟩:∃ lo,A * B=lo:=⟨_,rfl⟩
  rw [hhi,hlo] at hr
  refine es 2000 ?_;(simp only [UD,Wl,hc,hcn,hA,hB,LZ,seval])
  repeat refine sd ?_
  refine Ah (KE ok A B) ?_
  (simp only [Cb,hhi,hlo,Pz,seval])
  repeat refine sd ?_
  refine Ah (hr) ?_
  (simp only [Cb,seval])
  exact Aq.mkZ hx [] ⟨rfl,rfl,rfl⟩
theorem G6 (b:BitVec 64) (n:Nat):BitVec.ofInt 64 (b.toInt.fdiv (2 ^ min n 64))=b.sshiftRight n:=by
 rw [Int.fdiv_eq_ediv_of_nonneg _ (Int.pow_nonneg Ak),BitVec.sshiftRight,Int.shiftRight_eq_div_pow]
 congr 1
 have h1:=BitVec.toInt_lt (x:=b)
 have h2:=BitVec.le_toInt b
 by_cases h:n≤64
 ·rw [Nat.min_eq_left h,Aes]
 ·rw [Nat.min_eq_right Aa]
  have hp:(18446744073709551616:Int)≤((2 ^ n:Nat):Int):=by
   have:=Nat.pow_le_pow_right (n:=2) Ak (show 64≤n by omega)
   have e:(2:Nat) ^ 64=18446744073709551616:=Ak
   omega
  have e64:(2:Int) ^ 64=18446744073709551616:=Ak
  rw [e64]
  generalize ((2 ^ n:Nat):Int)=m at hp
  have e63:(2:Int) ^ (64 - 1)=9223372036854775808:=Ak
  rw [e63] at h1 h2
  by_cases hb:0≤b.toInt
  ·rw [Int.ediv_eq_zero_of_lt hb Aa,Int.ediv_eq_zero_of_lt hb Aa]
  ·have k1:b.toInt / 18446744073709551616 = -1:=Aa
   have k2:b.toInt / m = -1:=by
    have l1:-1≤b.toInt / m:=(Int.le_ediv_iff_mul_le Aa).2 Aa
    have l2:b.toInt / m < 0:=Int.ediv_neg_of_neg_of_pos Aa Aa
    omega
   rw [k1,k2]
def Fn (op:Nat) (a b:BitVec 64):BitVec 64 :=
 if op=11 then (if 7#64≤a then b else (b <<< (56#64 - 8#64 * a)).sshiftRight (56#64 - 8#64 * a).toNat)
 else if op=12 then (if 7#64 < a then 0#64 else (b >>> (56#64 - 8#64 * a)) &&& 255#64)
 else if op=13 then b <<< a else if op=14 then b >>> a else b.sshiftRight a.toNat
theorem Kd (ok:OkP M) (a b:BitVec 64):Af M 324 [.int .i64 11,W a,W b] [] 0 (Q3 (W (Fn 11 a b)) [] 0):=by
 generalize hF:Fn 11 a b=F
 simp only [Fn,seval,CD] at hF
 rcases Classical.propComplete (7#64≤a) with h | h
 ·refine Ac ok.k324 rfl fun x hx=>?_
  simp only [h,if_true] at hF
  refine es 2000 ?_;(simp only [NF,OQ,h,G6,LZ,seval])
  repeat refine sd ?_
  subst hF
  exact Aq.mkZ hx [] ⟨rfl,rfl,rfl⟩
 ·refine Ac ok.k324 rfl fun x hx=>?_
  simp only [h,if_false] at hF
  refine es 2000 ?_;(simp only [NF,OQ,h,G6,LZ,seval])
  repeat refine sd ?_
  subst hF
  exact Aq.mkZ hx [] ⟨rfl,rfl,rfl⟩
theorem Kj (ok:OkP M) (a b:BitVec 64):Af M 324 [.int .i64 12,W a,W b] [] 0 (Q3 (W (Fn 12 a b)) [] 0):=by
 generalize hF:Fn 12 a b=F
 simp only [Fn,seval,CD] at hF
 rcases Classical.propComplete (7#64 < a) with h | h
 ·refine Ac ok.k324 rfl fun x hx=>?_
  simp only [h,if_true] at hF
  refine es 2000 ?_;(simp only [NF,OQ,h,G6,LZ,seval])
  repeat refine sd ?_
  subst hF
  exact Aq.mkZ hx [] ⟨rfl,rfl,rfl⟩
 ·refine Ac ok.k324 rfl fun x hx=>?_
  simp only [h,if_false] at hF
  refine es 2000 ?_;(simp only [NF,OQ,h,G6,LZ,seval])
  repeat refine sd ?_
  subst hF
  exact Aq.mkZ hx [] ⟨rfl,rfl,rfl⟩
theorem KZ (ok:OkP M) (a b:BitVec 64):Af M 324 [.int .i64 13,W a,W b] [] 0 (Q3 (W (Fn 13 a b)) [] 0):=by
 generalize hF:Fn 13 a b=F
 simp only [Fn,seval,CD] at hF
 refine Ac ok.k324 rfl fun x hx=>?_
 refine es 2000 ?_;(simp only [NF,OQ,G6,LZ,seval])
 repeat refine sd ?_
 subst hF
 exact Aq.mkZ hx [] ⟨rfl,rfl,rfl⟩
theorem Km (ok:OkP M) (a b:BitVec 64):Af M 324 [.int .i64 14,W a,W b] [] 0 (Q3 (W (Fn 14 a b)) [] 0):=by
 generalize hF:Fn 14 a b=F
 simp only [Fn,seval,CD] at hF
 refine Ac ok.k324 rfl fun x hx=>?_
 refine es 2000 ?_;(simp only [NF,OQ,G6,LZ,seval])
 repeat refine sd ?_
 subst hF
 exact Aq.mkZ hx [] ⟨rfl,rfl,rfl⟩
theorem KY (ok:OkP M) (a b:BitVec 64):Af M 324 [.int .i64 15,W a,W b] [] 0 (Q3 (W (Fn 15 a b)) [] 0):=by
 generalize hF:Fn 15 a b=F
 simp only [Fn,seval,CD] at hF
 refine Ac ok.k324 rfl fun x hx=>?_
 refine es 2000 ?_;(simp only [NF,OQ,G6,LZ,seval])
 repeat refine sd ?_
 subst hF
 exact Aq.mkZ hx [] ⟨rfl,rfl,rfl⟩
def P1 (op:Nat) (a b c:BitVec 64):BitVec 64 :=
 if op=1 then a + b else if op=2 then a - b else if op=3 then a * b
 else if op=4 ∨ op=5 ∨ op=6 ∨ op=7 then E3 op a b
 else if op=8 then (if c=0#64 then 0#64 else BitVec.ofNat 64 ((a.toNat + b.toNat) % c.toNat))
 else if op=9 then (if c=0#64 then 0#64 else BitVec.ofNat 64 ((a.toNat * b.toNat) % c.toNat))
 else if op=10 then Yd 64 a b 1#64
 else if op=11 ∨ op=12 ∨ op=13 ∨ op=14 ∨ op=15 then Fn op a b
 else if op=16 then Vg (decide (a < b)) else if op=17 then Vg (decide (b < a))
 else if op=18 then Vg (decide (a.toInt < b.toInt)) else if op=19 then Vg (decide (b.toInt < a.toInt))
 else if op=20 then Vg (decide (a=b)) else if op=21 then Vg (decide (a=0#64))
 else if op=22 then a &&& b else if op=23 then a ||| b else if op=24 then a ^^^ b else a ^^^ 18446744073709551615#64
theorem Adk {w:BitVec 64} {n:Nat} {c:BitVec 64} (h1:c ≠ 0#64→w.toNat=n % c.toNat) (h2:c=0#64→w=0#64):w=(if c=0#64 then 0#64 else BitVec.ofNat 64 (n % c.toNat)):=by
 split
 ·rename_i h;exact h2 h
 ·rename_i h
  apply BitVec.eq_of_toNat_eq
  have hc:=c.isLt
  have h0:0 < c.toNat:=Nat.pos_of_ne_zero fun e=>h (BitVec.eq_of_toNat_eq (by simpa using e))
  rw [h1 h,BitVec.toNat_ofNat]
  exact (Nat.mod_eq_of_lt (Nat.lt_trans (Nat.mod_lt _ h0) hc)).symm
theorem JY (ok:OkP M) (op:Nat) (h1:1≤op) (h2:op≤25) (a b c:BitVec 64):Af M 215 [.int .i64 op,W a,W b,W c] [] 0 (Q3 (Ao (W (P1 op a b c)) .nili) [] 0):=by
 have c1:((1:Nat):Int)=1:=rfl
 have hd:=fun (op:Nat) h=>MV ok op h a b
 have h4:=hd 4 Ak
 have h5:=hd 5 Ak
 have h6:=hd 6 Ak
 have h7:=hd 7 Ak
 obtain ⟨w8,p8,z8,h8⟩:=QX ok a b c
 obtain ⟨w9,p9,z9,h9⟩:=Rq ok a b c
 rw [Adk p8 z8] at h8
 rw [Adk p9 z9] at h9
 have h10:=QD ok a b
 have h11:=Kd ok a b
 have h12:=Kj ok a b
 have h13:=KZ ok a b
 have h14:=Km ok a b
 have h15:=KY ok a b
 have hf:=fun t=>UA ok t
 have hop:op=1 ∨ op=2 ∨ op=3 ∨ op=22 ∨ op=23 ∨ op=24 ∨ op=25 ∨ op=16 ∨ op=17 ∨ op=18 ∨ op=19 ∨ op=20 ∨ op=21 ∨ op=4 ∨ op=5 ∨ op=6 ∨ op=7 ∨ op=8 ∨ op=9 ∨ op=10 ∨ op=11 ∨ op=12 ∨ op=13 ∨ op=14 ∨ op=15:=Aa
 rcases hop with rfl | rfl | rfl | rfl | rfl | rfl | rfl | rfl | rfl | rfl | rfl | rfl | rfl | rfl | rfl | rfl | rfl | rfl | rfl | rfl | rfl | rfl | rfl | rfl | rfl
 all_goals
  generalize hF:P1 _ a b c=F
  simp only [P1,seval,CD,or_true,true_or,or_self,or_false] at hF
 iterate 7
  focus
   refine Ac ok.k215 rfl fun x hx=>?_
   refine es 2000 ?_;(simp only [Ua,Ab4,c1,Lbp,seval])
   subst hF
   exact Aq.mkZ hx [] ⟨rfl,rfl,rfl⟩
 iterate 6
  focus
   refine Ac ok.k215 rfl fun x hx=>?_
   refine es 2000 ?_;(simp only [Ua,Ab4,Lbp,seval])
   refine Ah (hf _) ?_
   (simp only [LZ,seval])
   subst hF
   exact Aq.mkZ hx [] ⟨rfl,rfl,rfl⟩
 all_goals
  refine Ac ok.k215 rfl fun x hx=>?_
  refine es 2000 ?_;(simp only [Ua,Ab4,Lbp,seval])
  first
   | (refine Ah (h4) ?_)
   | (refine Ah (h5) ?_)
   | (refine Ah (h6) ?_)
   | (refine Ah (h7) ?_)
   | (refine Ah (h8) ?_)
   | (refine Ah (h9) ?_)
   | (refine Ah (h10) ?_)
   | (refine Ah (h11) ?_)
   | (refine Ah (h12) ?_)
   | (refine Ah (h13) ?_)
   | (refine Ah (h14) ?_)
   | (refine Ah (h15) ?_)
  (simp only [LZ,seval])
  subst hF
  exact Aq.mkZ hx [] ⟨rfl,rfl,rfl⟩
variable {M:Seat}
theorem Fh (ok:OkV M) (f g:Nat→BitVec 64) (pc xt:BitVec 64) :
 Af M 70 [.ptr 0 [],.ptr 1 []] [(0,mach f g pc true xt)] 2 (Q3 .nili [(0,mach f g pc true xt)] 2):=by
 refine Ac ok.k70 rfl fun x hx=>?_
 refine es 2000 ?_;(simp only [P3,Qh,Ga,seval])
 refine ID hx [0,1] (.nili) ([(0,mach f g pc true xt)]) 2 ?_
 all_goals simp only [mach,LY,seval]
theorem MN (ok:OkV M) (f g:Nat→BitVec 64) (pc xt:BitVec 64) (hpc:8192#64≤pc) :
 Af M 70 [.ptr 0 [],.ptr 1 []] [(0,mach f g pc false xt)] 2 (Q3 .nili [(0,mach f g pc true Ap)] 2):=by
 refine Ac ok.k70 rfl fun x hx=>?_
 refine es 2000 ?_;(simp only [P3,Qh,Ga,eq_true hpc,seval])
 have zz:=@mach.eq_1;refine Fl [0] (Bw ok f g pc false xt Ap) ?_
 (simp only [Ga,seval])
 refine ID hx [0,1] (.nili) ([(0,mach f g pc true Ap)]) 2 ?_
 all_goals simp only [mach,LY,seval]
theorem NT (ok:OkV M) (f g:Nat→BitVec 64) (pc xt:BitVec 64) (hpc:¬ 8192#64≤pc) (w:BitVec 64) (hw:f pc.toNat=w) (h:¬ (AT w≤35∧w >>> 32 &&& 255#64=0#64)) :
 Af M 70 [.ptr 0 [],.ptr 1 []] [(0,mach f g pc false xt)] 2 (Q3 .nili [(0,mach f g pc true Ap)] 2):=by
 refine Ac ok.k70 rfl fun x hx=>?_
 have hp:pc.toNat < 8192:=BM
 refine es 2000 ?_;(simp only [P3,Qh,Ga,hpc,hw,seval])
 repeat refine sd ?_
 refine BI (GZ ok w h) ?_
 (simp only [LZ,seval])
 have zz:=@mach.eq_1;refine Fl [0] (Bw ok f g pc false xt Ap) ?_
 (simp only [Ga,seval])
 refine ID hx [0,1] (.nili) ([(0,mach f g pc true Ap)]) 2 ?_
 all_goals simp only [mach,LY,seval]
def Sm (op:Nat) (f g:Nat→BitVec 64) (pc xt:BitVec 64) (d a:Nat) (to:BitVec 64):V :=
 if (op=30∧¬ g a=0#64) ∨ (op=31∧g a=0#64) then mach f g (pc + 1#64) false xt
 else if 8192#64≤(if op=33 then g a else to) then mach f g pc true Ap
 else mach f (if op=32 then E9 g d (pc + 1#64) else g) (if op=33 then g a else to) false xt
theorem T9 (ok:OkV M) (op:Nat) (ho:op=29 ∨ op=30 ∨ op=31 ∨ op=32 ∨ op=33) (f g:Nat→BitVec 64) (pc xt:BitVec 64) (d a:Nat) (hd:d < 16) (ha:a < 16) (to:BitVec 64) :
 Af M 216 [.ptr 0 [],.int .i64 op,.int .i64 d,.int .i64 a,W to] [(0,mach f g pc false xt)] 1 (Q3 (.tup .fnil) [(0,Sm op f g pc xt d a to)] 1):=by
 refine Ac ok.k216 rfl fun x hx=>?_
 by_cases h0:g a=0#64 <;> by_cases h1:8192#64≤to <;> by_cases h2:8192#64≤g a <;> rcases ho with rfl | rfl | rfl | rfl | rfl
 all_goals simp only [Sm,h0,h1,h2,seval,Vj,true_and,false_and,or_false,not_false_eq_true,false_or]
 all_goals refine es 2000 ?_;(simp only [Afy,Amt,Ga,h0,h1,h2,Int.cast_ofNat_Int,seval])
 all_goals repeat refine sd ?_
 all_goals try ((have zz:=aq2 @mach.eq_1 Og;exact Bg hx [0] ⟨rfl,rfl,rfl⟩))
 all_goals
  have zz:=@mach.eq_1;refine Fl [0] (Bw ok f g pc false xt Ap) ?_
  (simp only [Ga,seval])
  have zz:=aq2 @mach.eq_1 Og;exact Bg hx [0] ⟨rfl,rfl,rfl⟩
theorem Cz (ok:OkV M) (op:Nat) (ho:op=29 ∨ op=30 ∨ op=31 ∨ op=32 ∨ op=33) (f g:Nat→BitVec 64) (pc xt:BitVec 64) (hpc:¬ 8192#64≤pc) (w:BitVec 64) (hw:f pc.toNat=w) (hop:AT w=op) (h2:w >>> 32 &&& 255#64=0#64) :
 Af M 70 [.ptr 0 [],.ptr 1 []] [(0,mach f g pc false xt)] 2 (Q3 .nili [(0,Sm op f g pc xt (pF w 52) (pF w 48) (BitVec.ofInt 64 (pN w)))] 2):=by
 refine Ac ok.k70 rfl fun x hx=>?_
 have hp:pc.toNat < 8192:=BM
 have a1:=Ai w 52
 have a2:=Ai w 48
 have d1:((op:Int)=0)=False:=eq_false Aa
 have d2:((op:Int) < 26)=False:=eq_false Aa
 have d3:((op:Int)=26)=False:=eq_false Aa
 have d4:((op:Int)=27)=False:=eq_false Aa
 have d5:((op:Int)=28)=False:=eq_false Aa
 have d6:((op:Int) < 34)=True:=eq_true Aa
 refine es 2000 ?_;(simp only [P3,Qh,Ga,hpc,hw,seval])
 repeat refine sd ?_
 have zz:=@Bb.eq_1;refine Gy (Az ok w Aa h2) ?_
 (simp only [Hi,hop,d1,d2,d3,d4,d5,d6,seval])
 repeat refine sd ?_
 have hS:∀ H m z,Aw H m z (Sm op f g pc xt (pF w 52) (pF w 48) (BitVec.ofInt 64 (pN w))) (Sm op f g pc xt (pF w 52) (pF w 48) (BitVec.ofInt 64 (pN w))):=by
  intro H m z
  unfold Sm
  repeat' split
  all_goals simp only [mach,LY,seval]
 have hN:AD (Sm op f g pc xt (pF w 52) (pF w 48) (BitVec.ofInt 64 (pN w))):=by
  unfold Sm
  repeat' split
  all_goals simp only [mach,AD,Ru,implies_true,and_self]
 have hR:∀ m,(Sm op f g pc xt (pF w 52) (pF w 48) (BitVec.ofInt 64 (pN w))).ren m=Sm op f g pc xt (pF w 52) (pF w 48) (BitVec.ofInt 64 (pN w)):=by
  intro m
  unfold Sm
  repeat' split
  all_goals rfl
 have zz:=aq2 @mach.eq_1 hN;refine Fl [0] (T9 ok op ho f g pc xt (pF w 52) (pF w 48) Aa Aa (BitVec.ofInt 64 (pN w))) ?_
 (simp only [hR,LZ,seval])
 have zz:=hS;exact Bg hx [0,1] ⟨rfl,rfl,rfl⟩
end Mv
