/- A part. -/
import Derived.Test.YtfljfijnobocoaaDoorGY
set_option linter.all false
set_option maxRecDepth 20000
set_option maxHeartbeats 4000000
namespace Mv
def dl (y1 y0 u:BitVec 64):Nat→BitVec 64→BitVec 64→BitVec 64
 | 0,q,_=>q
 | k + 1,q,r=>if 4294967296#64≤q ∨ 4294967296#64 * r + u < q * y0 then (if 4294967296#64≤r + y1 then q - 1#64 else dl y1 y0 u k (q - 1#64) (r + y1)) else q
theorem Aaj {a b:Nat} (ha:a≤4294967297) (hb:b < 4294967296):a * b < 18446744073709551616:=by
 have:=Nat.mul_le_mul ha (show b≤4294967295 by omega);omega
theorem Amf (y1 y0 v:BitVec 64) (Y u:Nat) (hy:Y=y1.toNat * 4294967296 + y0.toNat) (h0:y0.toNat < 4294967296) (hv:v.toNat < 4294967296) (h1:2147483648≤y1.toNat) (h1':y1.toNat < 4294967296) (hu:u < Y) :
 ∀ (k:Nat) (q r:BitVec 64),q.toNat * y1.toNat + r.toNat=u→r.toNat < 4294967296→(u * 4294967296 + v.toNat) / Y≤q.toNat→q.toNat≤4294967297→4294967296 - r.toNat≤k →
  (dl y1 y0 v k q r).toNat=(u * 4294967296 + v.toNat) / Y:=by
 intro k;have hY:0 < Y:=Aa;induction k with
 | zero=>intro q r _ hr _ _ hk;omega
 | succ k ih =>
   intro q r hqr hr hQ hq hk;have eN:(4294967296#64:BitVec 64).toNat=4294967296:=rfl;have e1:(4294967296#64 * r + v).toNat=4294967296 * r.toNat + v.toNat:=by
    rw [BitVec.toNat_add,BitVec.toNat_mul,eN,Nat.mod_eq_of_lt (a:=4294967296 * r.toNat) Aa,Nat.mod_eq_of_lt Aa]
   have e2:(q * y0).toNat=q.toNat * y0.toNat:=by rw [BitVec.toNat_mul,Nat.mod_eq_of_lt (Aaj hq h0)]
   have e3:(r + y1).toNat=r.toNat + y1.toNat:=by rw [BitVec.toNat_add,Nat.mod_eq_of_lt Aa]
   have eqY:q.toNat * Y=q.toNat * y1.toNat * 4294967296 + q.toNat * y0.toNat:=Aij;have hN:u * 4294967296 + v.toNat < Y * 4294967296:=by
    have:(u + 1) * 4294967296≤Y * 4294967296:=Nat.mul_le_mul_right _ hu;omega
   rw [dl];by_cases c:4294967296#64≤q ∨ 4294967296#64 * r + v < q * y0
   ·rw [if_pos c];have hlt:(u * 4294967296 + v.toNat) / Y < q.toNat:=by
     apply (Nat.div_lt_iff_lt_mul hY).2;rcases c with c | c
     ·have c:4294967296≤q.toNat:=c;have:4294967296 * Y≤q.toNat * Y:=Nat.mul_le_mul_right _ c;omega
     ·have c':4294967296 * r.toNat + v.toNat < q.toNat * y0.toNat:=by rw [BitVec.lt_def,e1,e2] at c;exact c
      have e5:u * 4294967296=q.toNat * y1.toNat * 4294967296 + r.toNat * 4294967296:=by rw [← hqr];exact Nat.add_mul _ _ _
      omega
    have hq1:1≤q.toNat:=Nat.lt_of_le_of_lt (Nat.zero_le _) hlt;have e4:(q - 1#64).toNat=q.toNat - 1:=by
     rw [BitVec.toNat_sub];show (18446744073709551616 - 1 + q.toNat) % 18446744073709551616=_;omega
    obtain ⟨p,hp⟩:∃ p,q.toNat=p + 1:=⟨q.toNat - 1,by omega⟩
    have hpy:(p + 1) * y1.toNat=p * y1.toNat + y1.toNat:=by rw [Nat.add_mul,Nat.one_mul]
    have hpu:p * y1.toNat + (r.toNat + y1.toNat)=u:=by rw [hp,hpy] at hqr;omega
    by_cases c3:4294967296#64≤r + y1
    ·rw [if_pos c3,e4,hp,Nat.add_sub_cancel];rw [BitVec.le_def,e3,eN] at c3;have hpl:p < 4294967296:=by
      rcases Nat.lt_or_ge p 4294967296 with h | h
      ·exact h
      ·have:4294967296 * y1.toNat≤p * y1.toNat:=Nat.mul_le_mul_right _ h;omega
     have hp0:p * y0.toNat≤4294967295 * 4294967295:=Nat.mul_le_mul Aa Aa;have hle:p≤(u * 4294967296 + v.toNat) / Y:=by
      apply (Nat.le_div_iff_mul_le hY).2;have e5:u * 4294967296=p * y1.toNat * 4294967296 + (r.toNat + y1.toNat) * 4294967296:=by rw [← hpu];exact Nat.add_mul _ _ _
      have:p * Y=p * y1.toNat * 4294967296 + p * y0.toNat:=Aij;omega
     omega
    ·rw [if_neg c3];rw [BitVec.le_def,e3,eN] at c3;exact ih (q - 1#64) (r + y1) (by rw [e4,e3,hp,Nat.add_sub_cancel];exact hpu) (by rw [e3];omega) (by rw [e4];omega) (by rw [e4];omega) (by rw [e3];omega)
   ·rw [if_neg c];have c2:¬ 4294967296 * r.toNat + v.toNat < q.toNat * y0.toNat:=by
     intro h;apply c;right;rw [BitVec.lt_def,e1,e2];exact h
    apply Nat.le_antisymm _ hQ;apply (Nat.le_div_iff_mul_le hY).2;have e5:u * 4294967296=q.toNat * y1.toNat * 4294967296 + r.toNat * 4294967296:=by rw [← hqr];exact Nat.add_mul _ _ _
    omega
theorem Pb (y1 y0 v:BitVec 64) (Y:Nat) (u:BitVec 64) (hy:Y=y1.toNat * 4294967296 + y0.toNat) (h0:y0.toNat < 4294967296) (hv:v.toNat < 4294967296) (h1:2147483648≤y1.toNat) (h1':y1.toNat < 4294967296) (hu:u.toNat < Y) (q r:BitVec 64) (hq:u / y1=q) (hr:u - q * y1=r) :
 (dl y1 y0 v 4294967296 q r).toNat=(u.toNat * 4294967296 + v.toNat) / Y:=by
 have hY:0 < Y:=Aa;have eq:q.toNat=u.toNat / y1.toNat:=by rw [← hq,BitVec.toNat_udiv]
 have hle:q.toNat * y1.toNat≤u.toNat:=by rw [eq];exact Nat.div_mul_le_self _ _
 have hul:=u.isLt;have er:r.toNat=u.toNat - q.toNat * y1.toNat:=by
  rw [← hr,BitVec.toNat_sub,BitVec.toNat_mul,Nat.mod_eq_of_lt (a:=q.toNat * y1.toNat) Aa];omega
 have hrl:r.toNat < y1.toNat:=by
  have:=Nat.div_add_mod u.toNat y1.toNat;have h2:=Nat.mod_lt u.toNat (show y1.toNat > 0 by omega);rw [Nat.mul_comm] at this;rw [er,eq];omega
 refine Amf y1 y0 v Y u.toNat hy h0 hv h1 h1' hu _ q r (by rw [er];omega) Aa ?_ ?_ (Nat.sub_le _ _)
 ·
  have:(u.toNat * 4294967296 + v.toNat) / Y < q.toNat + 1:=by
   apply (Nat.div_lt_iff_lt_mul hY).2;have e:(q.toNat + 1) * Y=(q.toNat + 1) * y1.toNat * 4294967296 + (q.toNat + 1) * y0.toNat:=Aij;have e2:(q.toNat + 1) * y1.toNat=q.toNat * y1.toNat + y1.toNat:=by rw [Nat.add_mul,Nat.one_mul]
   omega
  omega
 ·rcases Nat.lt_or_ge 4294967297 q.toNat with h | h
  ·have:4294967298 * y1.toNat≤q.toNat * y1.toNat:=Nat.mul_le_mul_right _ h;omega
  ·exact h
theorem Ajw (x y:BitVec 64) (m k q:Nat) (hx:x.toNat=k) (hy:y.toNat=q) (hq:q < 2 ^ m) (h:k * 2 ^ m < 18446744073709551616):(x <<< m ||| y).toNat=k * 2 ^ m + q:=by
 rw [BitVec.toNat_or,BitVec.toNat_shiftLeft,hx,hy,Nat.shiftLeft_eq,Nat.mod_eq_of_lt h,← Nat.shiftLeft_eq,Nat.shiftLeft_add_eq_or_of_lt hq]
theorem Xs (u v F Y:BitVec 64) (N:Nat) (hN:N=u.toNat * 4294967296 + v.toNat) (h:F.toNat * Y.toNat≤N):u * 4294967296#64 + v - F * Y=BitVec.ofNat 64 (N - F.toNat * Y.toNat):=by
 have e1:u * 4294967296#64 + v=BitVec.ofNat 64 N:=by
  apply BitVec.eq_of_toNat_eq;rw [BitVec.toNat_add,BitVec.toNat_mul,hN,BitVec.toNat_ofNat,BitVec.toNat_ofNat,Nat.mod_eq_of_lt (a:=4294967296) Ab,Nat.mod_add_mod]
 have e2:F * Y=BitVec.ofNat 64 (F.toNat * Y.toNat):=by
  apply BitVec.eq_of_toNat_eq;rw [BitVec.toNat_mul,BitVec.toNat_ofNat]
 have e3:BitVec.ofNat 64 N=BitVec.ofNat 64 (N - F.toNat * Y.toNat) + BitVec.ofNat 64 (F.toNat * Y.toNat):=by
  rw [← BitVec.ofNat_add];congr 1;omega
 rw [e1,e2,e3,BitVec.add_sub_cancel]
theorem Ajd (hi lo y s Y u v y1 yl v1 v0 q1 r1 F u2 q0 r0 G:BitVec 64) (h:hi < y) (hs:s.toNat < 64) (hyl64:y.toNat * 2 ^ s.toNat < 18446744073709551616)
 (hY:y <<< s.toNat=Y) (hu:hi <<< s.toNat ||| lo >>> (64#64 - s).toNat=u) (hv:lo <<< s.toNat=v) (hy1:Y >>> 32=y1) (b1:2147483648≤y1.toNat) (hyl:Y &&& 4294967295#64=yl)
 (hv1:v >>> 32=v1) (hv0:v &&& 4294967295#64=v0) (hq1:u / y1=q1) (hr1:u - q1 * y1=r1) (hF:dl y1 yl v1 4294967296 q1 r1=F) (hu2:u * 4294967296#64 + v1 - F * Y=u2)
 (hq0:u2 / y1=q0) (hr0:u2 - q0 * y1=r0) (hG:dl y1 yl v0 4294967296 q0 r0=G) :
 ((u2 * 4294967296#64 + v0 - G * Y) >>> s.toNat).toNat=(hi.toNat * 18446744073709551616 + lo.toNat) % y.toNat:=by
 have Iu:∀ x:BitVec 64,(x &&& 4294967295#64).toNat=x.toNat % 4294967296:=fun x=>by
  rw [BitVec.toNat_and,show (4294967295#64:BitVec 64).toNat=2 ^ 32 - 1 from rfl,Nat.and_two_pow_sub_one_eq_mod]
 have shr:∀ x:BitVec 64,(x >>> 32).toNat=x.toNat / 4294967296:=fun x=>by
  rw [BitVec.toNat_ushiftRight,Nat.shiftRight_eq_div_pow]
 have hlt:hi.toNat < y.toNat:=h;have hlo:=lo.isLt;have hp:0 < 2 ^ s.toNat:=Nat.two_pow_pos _;have hpp:2 ^ (64 - s.toNat) * 2 ^ s.toNat=18446744073709551616:=by rw [← Nat.pow_add,show 64 - s.toNat + s.toNat=64 by omega]
 have eYn:Y.toNat=y.toNat * 2 ^ s.toNat:=by
  rw [← hY,BitVec.toNat_shiftLeft,Nat.shiftLeft_eq,Nat.mod_eq_of_lt hyl64]
 have e64:(64#64 - s).toNat=64 - s.toNat:=by
  rw [BitVec.toNat_sub_of_le (by rw [BitVec.le_def];show s.toNat≤64;omega)];rfl
 have elo:lo.toNat * 2 ^ s.toNat / 18446744073709551616=lo.toNat / 2 ^ (64 - s.toNat):=by
  rw [← hpp,Nat.mul_div_mul_right _ _ hp]
 have hq:lo.toNat / 2 ^ (64 - s.toNat) < 2 ^ s.toNat:=by
  apply (Nat.div_lt_iff_lt_mul (Nat.two_pow_pos _)).2;rw [Nat.mul_comm,hpp];exact hlo
 have hhi:hi.toNat * 2 ^ s.toNat < 18446744073709551616:=Nat.lt_of_le_of_lt (Nat.mul_le_mul_right _ (Nat.le_of_lt hlt)) hyl64;have eu:u.toNat=hi.toNat * 2 ^ s.toNat + lo.toNat / 2 ^ (64 - s.toNat):=by
  rw [← hu];exact Ajw hi _ s.toNat _ _ rfl (by rw [e64,BitVec.toNat_ushiftRight,Nat.shiftRight_eq_div_pow]) hq hhi
 have ev:v.toNat=lo.toNat * 2 ^ s.toNat % 18446744073709551616:=by
  rw [← hv,BitVec.toNat_shiftLeft,Nat.shiftLeft_eq]
 have eM:(hi.toNat * 18446744073709551616 + lo.toNat) * 2 ^ s.toNat=u.toNat * 18446744073709551616 + v.toNat:=by
  have e:=Nat.div_add_mod (lo.toNat * 2 ^ s.toNat) 18446744073709551616;rw [Nat.add_mul,eu,ev,← elo,Nat.add_mul,Nat.mul_right_comm];omega
 have huY:u.toNat < Y.toNat:=by
  have h1:(hi.toNat * 18446744073709551616 + lo.toNat) * 2 ^ s.toNat < Y.toNat * 18446744073709551616:=by
   rw [eYn,Nat.mul_right_comm];apply Nat.mul_lt_mul_of_pos_right _ hp;omega
  rw [eM] at h1;omega
 have hYl:=Y.isLt;have hvl:=v.isLt;have ey:Y.toNat=y1.toNat * 4294967296 + yl.toNat:=by rw [← hy1,← hyl,shr,Iu];omega
 have evv:v.toNat=v1.toNat * 4294967296 + v0.toNat:=by rw [← hv1,← hv0,shr,Iu];omega
 have l0:yl.toNat < 4294967296:=by rw [← hyl,Iu];omega
 have l1:y1.toNat < 4294967296:=by rw [← hy1,shr];omega
 have l2:v1.toNat < 4294967296:=by rw [← hv1,shr];omega
 have l3:v0.toNat < 4294967296:=by rw [← hv0,Iu];omega
 have hYp:0 < Y.toNat:=Aa;have f1:=Pb y1 yl v1 Y.toNat u ey l0 l2 b1 l1 huY q1 r1 hq1 hr1;rw [hF] at f1;have d1:=Nat.div_add_mod (u.toNat * 4294967296 + v1.toNat) Y.toNat;rw [← f1] at d1;have m1:=Nat.mod_lt (u.toNat * 4294967296 + v1.toNat) hYp;have c1:F.toNat * Y.toNat=Y.toNat * F.toNat:=Nat.mul_comm _ _;have s1:=Xs u v1 F Y _ rfl (by rw [c1];omega);rw [hu2] at s1;have eu2:u2.toNat=(u.toNat * 4294967296 + v1.toNat) % Y.toNat:=by
  rw [s1,BitVec.toNat_ofNat,c1,Nat.mod_eq_of_lt Aa];omega
 have f2:=Pb y1 yl v0 Y.toNat u2 ey l0 l3 b1 l1 (by rw [eu2];exact m1) q0 r0 hq0 hr0;rw [hG] at f2;have d2:=Nat.div_add_mod (u2.toNat * 4294967296 + v0.toNat) Y.toNat;rw [← f2] at d2;have m2:=Nat.mod_lt (u2.toNat * 4294967296 + v0.toNat) hYp;have c2:G.toNat * Y.toNat=Y.toNat * G.toNat:=Nat.mul_comm _ _;have s2:=Xs u2 v0 G Y _ rfl (by rw [c2];omega);have eR:(u2 * 4294967296#64 + v0 - G * Y).toNat=(u2.toNat * 4294967296 + v0.toNat) % Y.toNat:=by
  rw [s2,BitVec.toNat_ofNat,c2,Nat.mod_eq_of_lt Aa];omega
 rw [BitVec.toNat_ushiftRight,Nat.shiftRight_eq_div_pow,eR];have eMod:(u2.toNat * 4294967296 + v0.toNat) % Y.toNat=(u.toNat * 18446744073709551616 + v.toNat) % Y.toNat:=by
  have e:u.toNat * 18446744073709551616 + v.toNat=Y.toNat * (F.toNat * 4294967296) + (u2.toNat * 4294967296 + v0.toNat):=by
   have e5:Y.toNat * (F.toNat * 4294967296)=Y.toNat * F.toNat * 4294967296:=(Nat.mul_assoc _ _ _).symm;rw [eu2,evv,e5];omega
  rw [e,Nat.mul_add_mod]
 rw [eMod,← eM,eYn,Nat.mul_mod_mul_right,Nat.mul_div_cancel _ hp]
end Mv
namespace Mv
open Go
theorem Af3 (a b:BitVec 64):(a - a / b * b).toNat=a.toNat % b.toNat:=by
 have h:a / b * b=BitVec.ofNat 64 (a.toNat / b.toNat * b.toNat):=by
  apply BitVec.eq_of_toNat_eq;rw [BitVec.toNat_mul,BitVec.toNat_udiv,BitVec.toNat_ofNat]
 have hl:a.toNat / b.toNat * b.toNat≤a.toNat:=Nat.div_mul_le_self _ _;have ha:=a.isLt;rw [h,BitVec.toNat_sub,BitVec.toNat_ofNat,Nat.mod_eq_of_lt (a:=a.toNat / b.toNat * b.toNat) Aa];have e:=Nat.div_add_mod a.toNat b.toNat;rw [Nat.mul_comm] at e;omega
theorem HM (q:Nat) (hq:q < 100):(BitVec.ofInt 64 (q:Int)).toNat=q:=by
 rw [Rd _ Aa Aa];rfl
theorem Aay (y:BitVec 64) (hy:y ≠ 0#64):∃ s:BitVec 64,BitVec.ofInt 64 ((64 - Em y:Nat):Int)=s∧(s.toNat < 64∧y.toNat * 2 ^ s.toNat < 18446744073709551616)∧2147483648≤((y <<< s.toNat) >>> 32).toNat∧((y <<< s.toNat) >>> 32).toNat < 4294967296:=by
 obtain ⟨h1,h2⟩:=P1 y;obtain ⟨h3,h4,h5⟩:=h2 hy;refine ⟨_,rfl,?_⟩;have hs:(BitVec.ofInt 64 ((64 - Em y:Nat):Int)).toNat=64 - Em y:=HM _ Aa;rw [hs];generalize Em y=n at *
 have e1:y.toNat * 2 ^ (64 - n) < 2 ^ 64:=by
  have:2 ^ 64=2 ^ n * 2 ^ (64 - n):=Aff;rw [this];exact Nat.mul_lt_mul_of_pos_right h5 (Nat.two_pow_pos _)
 have e2:2 ^ 63≤y.toNat * 2 ^ (64 - n):=by
  have:2 ^ 63=2 ^ (n - 1) * 2 ^ (64 - n):=Aff;rw [this];exact Nat.mul_le_mul_right _ h4
 refine ⟨⟨by omega,e1⟩,?_⟩;rw [BitVec.toNat_ushiftRight,Nat.shiftRight_eq_div_pow,BitVec.toNat_shiftLeft,Nat.shiftLeft_eq,Nat.mod_eq_of_lt e1];omega
theorem OE {M:Seat} (ok:OkP M) (hi lo y:BitVec 64) (h:hi < y) :
 ∃ q r:BitVec 64,r.toNat=(hi.toNat * 18446744073709551616 + lo.toNat) % y.toNat∧As M 423 [W hi,W lo,W y] [] 0 (fun v H' k'=>v=AP (W q) (W r)∧H'=[]∧k'=0):=by
 have hy0:¬ y=0#64:=by rintro rfl;rw [BitVec.lt_def] at h;exact absurd h (Nat.not_lt_zero _)
 have hy0':(y ≠ 0)=True:=eq_true hy0;have hle:¬ y≤hi:=by rw [BitVec.lt_def] at h;rw [BitVec.le_def];omega
 by_cases hz:hi=0#64
 ·subst hz;refine ⟨lo / y,lo % y,by rw [BitVec.toNat_umod];simp,?_⟩;refine Ac ok.k423 rfl fun x hx=>?_;refine eX ?_;simp only [Ada,Akq,hy0,hy0',hle,LZ,seval];repeat refine sd ?_
  exact Ay.mkZ hx [] ⟨rfl,rfl,rfl⟩
 ·obtain ⟨s,hs,⟨hs64,hyl64⟩,b1,b2⟩:=Aay y hy0;obtain ⟨Y,hY⟩:∃ Y,y <<< s.toNat=Y:=⟨_,rfl⟩
  rw [hY] at b1 b2;obtain ⟨y1,hy1⟩:∃ y1,Y >>> 32=y1:=⟨_,rfl⟩
  rw [hy1] at b1 b2;obtain ⟨yl,hyl⟩:∃ yl,Y &&& 4294967295#64=yl:=⟨_,rfl⟩
  obtain ⟨u,hu⟩:∃ u,hi <<< s.toNat ||| lo >>> (64#64 - s).toNat=u:=⟨_,rfl⟩
  obtain ⟨v,hv⟩:∃ v,lo <<< s.toNat=v:=⟨_,rfl⟩
  obtain ⟨v1,hv1⟩:∃ v1,v >>> 32=v1:=⟨_,rfl⟩
  obtain ⟨v0,hv0⟩:∃ v0,v &&& 4294967295#64=v0:=⟨_,rfl⟩
  obtain ⟨q1,hq1⟩:∃ q1,u / y1=q1:=⟨_,rfl⟩
  obtain ⟨r1,hr1⟩:∃ r1,u - q1 * y1=r1:=⟨_,rfl⟩
  obtain ⟨F,hF⟩:∃ F,dl y1 yl v1 4294967296 q1 r1=F:=⟨_,rfl⟩
  obtain ⟨u2,hu2⟩:∃ u2,u * 4294967296#64 + v1 - F * Y=u2:=⟨_,rfl⟩
  obtain ⟨q0,hq0⟩:∃ q0,u2 / y1=q0:=⟨_,rfl⟩
  obtain ⟨r0,hr0⟩:∃ r0,u2 - q0 * y1=r0:=⟨_,rfl⟩
  obtain ⟨G,hG⟩:∃ G,dl y1 yl v0 4294967296 q0 r0=G:=⟨_,rfl⟩
  have hy1n:(y1 ≠ 0)=True:=eq_true (by rintro rfl;exact absurd b1 Ab);have l1:r1.toNat < 4294967296:=by
   rw [← hr1,← hq1,Af3];exact Nat.lt_trans (Nat.mod_lt _ Aa) b2
  have l0:r0.toNat < 4294967296:=by
   rw [← hr0,← hq0,Af3];exact Nat.lt_trans (Nat.mod_lt _ Aa) b2
  have hadd:∀ r:BitVec 64,r.toNat < 4294967296→(r + y1).toNat=r.toNat + y1.toNat:=fun r hr=>PQ Aa;have hsm:∀ r:BitVec 64,r.toNat < 4294967296→¬ 4294967296#64≤r + y1→(r + y1).toNat < 4294967296∧r.toNat + y1.toNat < 4294967296:=fun r hr h=>by
   rw [BitVec.le_def,hadd r hr] at h;have e:(4294967296#64).toNat=4294967296:=rfl;rw [e] at h;rw [hadd r hr];omega
  have hy1z:¬ y1=0#64:=of_eq_true hy1n;have e32:(32#64).toNat=32:=rfl;refine ⟨F * 4294967296#64 + G,(u2 * 4294967296#64 + v0 - G * Y) >>> s.toNat,Ajd hi lo y s Y u v y1 yl v1 v0 q1 r1 F u2 q0 r0 G h hs64 hyl64 hY hu hv hy1 b1 hyl hv1 hv0 hq1 hr1 hF hu2 hq0 hr0 hG,?_⟩;refine Ac ok.k423 rfl fun x hx=>?_;refine eX ?_;simp only [Ada,Akq,hy0,hle,hz,LZ,seval];refine Ap (O2 ok y) ?_;simp only [hs,hY,hy1,hyl,hu,hv,hv1,hv0,hq1,hr1,hy1n,hy1z,e32,LZ,seval];repeat refine sd ?_
  refine Au (σ:=Nat × BitVec 64 × BitVec 64) (fun t=>dl y1 yl v1 t.1 t.2.1 t.2.2=F∧t.2.2.toNat < 4294967296∧4294967296 - t.2.2.toNat≤t.1) (fun t=>fr 135 [(2,W Y),(8,W s),(9,W y1),(10,W yl),(11,W u),(13,W v1),(14,W v0),(15,W t.2.1),(16,W t.2.2)]) (fun _=>[]) (fun _=>0) (fun t=>t.1) (4294967296,q1,r1) ⟨hF,l1,Nat.sub_le _ _⟩ ?_ ?_
  ·refine Av.fr [] [] hx Bg Ab ?_ ?_
   ·simp only [LY,seval]
   ·trivial
  ·rintro ⟨k,q,r⟩ ⟨i1,i2,i3⟩;dsimp only at i1 i2 i3;cases k with
   | zero=>omega
   | succ k =>
     rw [dl] at i1;refine eX ?_;by_cases c1:4294967296#64≤q
     ·rw [if_pos (.inl c1)] at i1;by_cases c3:4294967296#64≤r + y1
      ·rw [if_pos c3] at i1;simp only [c1,c3,i1,hu2,hq0,hr0,hy1n,hy1z,LZ,seval];repeat refine sd ?_
       refine Au (σ:=Nat × BitVec 64 × BitVec 64) (fun t=>dl y1 yl v0 t.1 t.2.1 t.2.2=G∧t.2.2.toNat < 4294967296∧4294967296 - t.2.2.toNat≤t.1) (fun t=>fr 135 [(2,W Y),(8,W s),(9,W y1),(10,W yl),(14,W v0),(15,W F),(17,W u2),(18,W t.2.1),(16,W t.2.2)]) (fun _=>[]) (fun _=>0) (fun t=>t.1) (4294967296,q0,r0) ⟨hG,l0,Nat.sub_le _ _⟩ ?_ ?_
       ·refine Av.fr [] [] hx Bg Ab ?_ ?_
        ·simp only [LY,seval]
        ·trivial
       ·rintro ⟨k,q,r⟩ ⟨i1,i2,i3⟩;dsimp only at i1 i2 i3;cases k with
        | zero=>omega
        | succ k =>
          rw [dl] at i1;refine eX ?_;by_cases c1:4294967296#64≤q
          ·rw [if_pos (.inl c1)] at i1;by_cases c3:4294967296#64≤r + y1
           ·rw [if_pos c3] at i1;simp only [c1,c3,i1,e32,LZ,seval];repeat refine sd ?_
            exact Ay.mkZ hx [] ⟨rfl,rfl,rfl⟩
           ·rw [if_neg c3] at i1;have n1:=hsm r i2 c3;simp only [c1,c3,LZ,seval];refine ⟨(k,q - 1#64,r + y1),i1,n1.1,by rw [hadd r i2];omega,by omega,?_⟩;refine Av.fr [] [] hx Bg Ab ?_ ?_
            ·simp only [LY,seval]
            ·trivial
          ·by_cases c2:4294967296#64 * r + v0 < q * yl
           ·rw [if_pos (.inr c2)] at i1;by_cases c3:4294967296#64≤r + y1
            ·rw [if_pos c3] at i1;simp only [c1,c2,c3,i1,e32,LZ,seval];repeat refine sd ?_
             exact Ay.mkZ hx [] ⟨rfl,rfl,rfl⟩
            ·rw [if_neg c3] at i1;have n1:=hsm r i2 c3;simp only [c1,c2,c3,LZ,seval];refine ⟨(k,q - 1#64,r + y1),i1,n1.1,by rw [hadd r i2];omega,by omega,?_⟩;refine Av.fr [] [] hx Bg Ab ?_ ?_
             ·simp only [LY,seval]
             ·trivial
           ·rw [if_neg (fun h=>h.elim c1 c2)] at i1;have i1:=i1.symm;subst i1;simp only [c1,c2,e32,LZ,seval];repeat refine sd ?_
            exact Ay.mkZ hx [] ⟨rfl,rfl,rfl⟩
      ·rw [if_neg c3] at i1;have n1:=hsm r i2 c3;simp only [c1,c3,LZ,seval];refine ⟨(k,q - 1#64,r + y1),i1,n1.1,by rw [hadd r i2];omega,by omega,?_⟩;refine Av.fr [] [] hx Bg Ab ?_ ?_
       ·simp only [LY,seval]
       ·trivial
     ·by_cases c2:4294967296#64 * r + v1 < q * yl
      ·rw [if_pos (.inr c2)] at i1;by_cases c3:4294967296#64≤r + y1
       ·rw [if_pos c3] at i1;simp only [c1,c2,c3,i1,hu2,hq0,hr0,hy1n,hy1z,LZ,seval];repeat refine sd ?_
        refine Au (σ:=Nat × BitVec 64 × BitVec 64) (fun t=>dl y1 yl v0 t.1 t.2.1 t.2.2=G∧t.2.2.toNat < 4294967296∧4294967296 - t.2.2.toNat≤t.1) (fun t=>fr 135 [(2,W Y),(8,W s),(9,W y1),(10,W yl),(14,W v0),(15,W F),(17,W u2),(18,W t.2.1),(16,W t.2.2)]) (fun _=>[]) (fun _=>0) (fun t=>t.1) (4294967296,q0,r0) ⟨hG,l0,Nat.sub_le _ _⟩ ?_ ?_
        ·refine Av.fr [] [] hx Bg Ab ?_ ?_
         ·simp only [LY,seval]
         ·trivial
        ·rintro ⟨k,q,r⟩ ⟨i1,i2,i3⟩;dsimp only at i1 i2 i3;cases k with
         | zero=>omega
         | succ k =>
           rw [dl] at i1;refine eX ?_;by_cases c1:4294967296#64≤q
           ·rw [if_pos (.inl c1)] at i1;by_cases c3:4294967296#64≤r + y1
            ·rw [if_pos c3] at i1;simp only [c1,c3,i1,e32,LZ,seval];repeat refine sd ?_
             exact Ay.mkZ hx [] ⟨rfl,rfl,rfl⟩
            ·rw [if_neg c3] at i1;have n1:=hsm r i2 c3;simp only [c1,c3,LZ,seval];refine ⟨(k,q - 1#64,r + y1),i1,n1.1,by rw [hadd r i2];omega,by omega,?_⟩;refine Av.fr [] [] hx Bg Ab ?_ ?_
             ·simp only [LY,seval]
             ·trivial
           ·by_cases c2:4294967296#64 * r + v0 < q * yl
            ·rw [if_pos (.inr c2)] at i1;by_cases c3:4294967296#64≤r + y1
             ·rw [if_pos c3] at i1;simp only [c1,c2,c3,i1,e32,LZ,seval];repeat refine sd ?_
              exact Ay.mkZ hx [] ⟨rfl,rfl,rfl⟩
             ·rw [if_neg c3] at i1;have n1:=hsm r i2 c3;simp only [c1,c2,c3,LZ,seval];refine ⟨(k,q - 1#64,r + y1),i1,n1.1,by rw [hadd r i2];omega,by omega,?_⟩;refine Av.fr [] [] hx Bg Ab ?_ ?_
              ·simp only [LY,seval]
              ·trivial
            ·rw [if_neg (fun h=>h.elim c1 c2)] at i1;have i1:=i1.symm;subst i1;simp only [c1,c2,e32,LZ,seval];repeat refine sd ?_
             exact Ay.mkZ hx [] ⟨rfl,rfl,rfl⟩
       ·rw [if_neg c3] at i1;have n1:=hsm r i2 c3;simp only [c1,c2,c3,LZ,seval];refine ⟨(k,q - 1#64,r + y1),i1,n1.1,by rw [hadd r i2];omega,by omega,?_⟩;refine Av.fr [] [] hx Bg Ab ?_ ?_
        ·simp only [LY,seval]
        ·trivial
      ·rw [if_neg (fun h=>h.elim c1 c2)] at i1;have i1:=i1.symm;subst i1;simp only [c1,c2,hu2,hq0,hr0,hy1n,hy1z,LZ,seval];repeat refine sd ?_
       refine Au (σ:=Nat × BitVec 64 × BitVec 64) (fun t=>dl y1 yl v0 t.1 t.2.1 t.2.2=G∧t.2.2.toNat < 4294967296∧4294967296 - t.2.2.toNat≤t.1) (fun t=>fr 135 [(2,W Y),(8,W s),(9,W y1),(10,W yl),(14,W v0),(15,W F),(17,W u2),(18,W t.2.1),(16,W t.2.2)]) (fun _=>[]) (fun _=>0) (fun t=>t.1) (4294967296,q0,r0) ⟨hG,l0,Nat.sub_le _ _⟩ ?_ ?_
       ·refine Av.fr [] [] hx Bg Ab ?_ ?_
        ·simp only [LY,seval]
        ·trivial
       ·rintro ⟨k,q,r⟩ ⟨i1,i2,i3⟩;dsimp only at i1 i2 i3;cases k with
        | zero=>omega
        | succ k =>
          rw [dl] at i1;refine eX ?_;by_cases c1:4294967296#64≤q
          ·rw [if_pos (.inl c1)] at i1;by_cases c3:4294967296#64≤r + y1
           ·rw [if_pos c3] at i1;simp only [c1,c3,i1,e32,LZ,seval];repeat refine sd ?_
            exact Ay.mkZ hx [] ⟨rfl,rfl,rfl⟩
           ·rw [if_neg c3] at i1;have n1:=hsm r i2 c3;simp only [c1,c3,LZ,seval];refine ⟨(k,q - 1#64,r + y1),i1,n1.1,by rw [hadd r i2];omega,by omega,?_⟩;refine Av.fr [] [] hx Bg Ab ?_ ?_
            ·simp only [LY,seval]
            ·trivial
          ·by_cases c2:4294967296#64 * r + v0 < q * yl
           ·rw [if_pos (.inr c2)] at i1;by_cases c3:4294967296#64≤r + y1
            ·rw [if_pos c3] at i1;simp only [c1,c2,c3,i1,e32,LZ,seval];repeat refine sd ?_
             exact Ay.mkZ hx [] ⟨rfl,rfl,rfl⟩
            ·rw [if_neg c3] at i1;have n1:=hsm r i2 c3;simp only [c1,c2,c3,LZ,seval];refine ⟨(k,q - 1#64,r + y1),i1,n1.1,by rw [hadd r i2];omega,by omega,?_⟩;refine Av.fr [] [] hx Bg Ab ?_ ?_
             ·simp only [LY,seval]
             ·trivial
           ·rw [if_neg (fun h=>h.elim c1 c2)] at i1;have i1:=i1.symm;subst i1;simp only [c1,c2,e32,LZ,seval];repeat refine sd ?_
            exact Ay.mkZ hx [] ⟨rfl,rfl,rfl⟩
end Mv
