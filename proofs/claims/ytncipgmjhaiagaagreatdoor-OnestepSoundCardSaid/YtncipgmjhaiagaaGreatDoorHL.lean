/- A part. -/
import Derived.Test.YtncipgmjhaiagaaGreatDoorHK
set_option linter.all false
set_option maxRecDepth 20000
set_option maxHeartbeats 4000000
namespace Mv
open Go
variable {M:Seat}
structure OkX (M:Seat):Prop where
 k90:Al M 90 YK=true
 k226:Al M 226 Ah9=true
 k227:Al M 227 Lf=true
 k228:Al M 228 Ahc=true
 k229:Al M 229 Agf=true
 k230:Al M 230 QQ=true
 k335:Al M 335 ZO=true
 k336:Al M 336 Adt=true
def Ka (r n b:BitVec 64):Prop:=r >>> 63=1#64 ∨ n≤(r <<< 1 ||| b)
instance (r n b:BitVec 64):Decidable (Ka r n b):=inferInstanceAs (Decidable (_ ∨ _))
theorem Vb (r n b q:BitVec 64) (P:Nat) (hb:b.toNat < 2) (hn:0 < n.toNat) (hr:r.toNat=P % n.toNat) (hq:q.toNat=P / n.toNat % 18446744073709551616) :
 (if Ka r n b then (r <<< 1 ||| b) - n else (r <<< 1 ||| b)).toNat=(2 * P + b.toNat) % n.toNat ∧
 (if Ka r n b then q <<< 1 ||| 1#64 else q <<< 1).toNat=(2 * P + b.toNat) / n.toNat % 18446744073709551616:=by
 have hrn:r.toNat < n.toNat:=by rw [hr];exact Nat.mod_lt _ hn
 have hnl:=n.isLt
 have e1:(r <<< 1 ||| b).toNat=2 * r.toNat % 18446744073709551616 + b.toNat:=by
  rw [BitVec.toNat_or,BitVec.toNat_shiftLeft,Nat.shiftLeft_eq]
  have h2:r.toNat * 2 ^ 1 % 2 ^ 64=2 * (r.toNat % 2 ^ 63):=Aa
  rw [h2,show 2 * (r.toNat % 2 ^ 63)=(r.toNat % 2 ^ 63) <<< 1 by rw [Nat.shiftLeft_eq];omega,← Nat.shiftLeft_add_eq_or_of_lt Aa,Nat.shiftLeft_eq]
  omega
 have e2:(r >>> 63=1#64) ↔ 18446744073709551616≤2 * r.toNat:=by
  have e:(r >>> 63).toNat=r.toNat / 9223372036854775808:=by rw [BitVec.toNat_ushiftRight,Nat.shiftRight_eq_div_pow]
  constructor
  ·intro h
   rw [h] at e
   have e':1=r.toNat / 9223372036854775808:=e
   omega
  ·intro h
   apply BitVec.eq_of_toNat_eq
   rw [e]
   show _=1
   have:=r.isLt
   omega
 have hc:Ka r n b ↔ n.toNat≤2 * r.toNat + b.toNat:=by
  unfold Ka
  rw [e2,BitVec.le_def,e1]
  omega
 have eP:=Nat.div_add_mod P n.toNat
 rw [← hr] at eP
 have eq1:(q <<< 1).toNat=2 * (P / n.toNat) % 18446744073709551616:=by
  rw [BitVec.toNat_shiftLeft,Nat.shiftLeft_eq,hq];omega
 have eq2:(q <<< 1 ||| 1#64).toNat=(2 * (P / n.toNat) + 1) % 18446744073709551616:=by
  rw [BitVec.toNat_or,eq1,show (1#64:BitVec 64).toNat=1 from rfl]
  have h3:2 * (P / n.toNat) % 18446744073709551616=(P / n.toNat % 9223372036854775808) <<< 1:=by rw [Nat.shiftLeft_eq];omega
  rw [h3,← Nat.shiftLeft_add_eq_or_of_lt Aa,Nat.shiftLeft_eq]
  omega
 by_cases h:Ka r n b
 ·rw [if_pos h,if_pos h]
  have h':=hc.1 h
  have er:(r <<< 1 ||| b) - n=BitVec.ofNat 64 (2 * r.toNat + b.toNat - n.toNat):=by
   apply BitVec.eq_of_toNat_eq
   rw [BitVec.toNat_sub,e1,BitVec.toNat_ofNat]
   omega
  have e3:2 * P + b.toNat=n.toNat * (2 * (P / n.toNat) + 1) + (2 * r.toNat + b.toNat - n.toNat):=by
   rw [Nat.mul_add,Nat.mul_one,Nat.mul_left_comm]
   omega
  constructor
  ·rw [er,BitVec.toNat_ofNat,e3,Nat.mul_add_mod,Nat.mod_eq_of_lt (a:=2 * r.toNat + b.toNat - n.toNat) (b:=n.toNat) Aa,Nat.mod_eq_of_lt Aa]
  ·rw [eq2,e3,Nat.mul_add_div hn,Nat.div_eq_of_lt (a:=2 * r.toNat + b.toNat - n.toNat) (b:=n.toNat) Aa,Nat.add_zero]
 ·rw [if_neg h,if_neg h]
  have h':¬ n.toNat≤2 * r.toNat + b.toNat:=fun x=>h (hc.2 x)
  have e3:2 * P + b.toNat=n.toNat * (2 * (P / n.toNat)) + (2 * r.toNat + b.toNat):=by
   rw [Nat.mul_left_comm]
   omega
  constructor
  ·rw [e1,e3,Nat.mul_add_mod,Nat.mod_eq_of_lt (a:=2 * r.toNat + b.toNat) (b:=n.toNat) Aa]
   omega
  ·rw [eq1,e3,Nat.mul_add_div hn,Nat.div_eq_of_lt (a:=2 * r.toNat + b.toNat) (b:=n.toNat) Aa,Nat.add_zero]
theorem On (ok:OkX M) (t:Bool):Af M 228 [.bool t] [] 0 (Q3 (W (Vg t)) [] 0):=by
 refine Ac ok.k228 rfl fun x hx=>?_
 cases t
 all_goals refine es 2000 ?_;(simp only [Ahc,Alz,LZ,seval])
 all_goals (have zz:=@Vg.eq_1;exact Bg hx [] ⟨rfl,rfl,rfl⟩)
theorem Ac1 (a:BitVec 64):(9223372036854775808#64≤a)=(a.toInt < 0):=by
 rw [BitVec.le_def,BitVec.toInt_eq_toNat_cond]
 have:=a.isLt
 have e:(9223372036854775808#64:BitVec 64).toNat=9223372036854775808:=rfl
 rw [e]
 apply propext
 split <;> omega
theorem BT (ok:OkX M) (a:BitVec 64):Af M 336 [W a] [] 0 (Q3 (.bool (decide (a.toInt < 0))) [] 0):=by
 refine Ac ok.k336 rfl fun x hx=>?_
 refine es 2000 ?_;(simp only [Adt,Amh,Ac1,LZ,seval])
 exact Aq.mkZ hx [] ⟨rfl,rfl,rfl⟩
def Rf (a:BitVec 64):BitVec 64:=if a.toInt < 0 then -a else a
theorem Gm (ok:OkX M) (a:BitVec 64):Af M 335 [W a] [] 0 (Q3 (W (Rf a)) [] 0):=by
 refine Ac ok.k335 rfl fun x hx=>?_
 rcases Classical.propComplete (a.toInt < 0) with h | h
 ·have e:Rf a=0#64 - a:=by rw [Rf,if_pos (of_eq_true h),BitVec.zero_sub]
  rw [e]
  refine es 2000 ?_;(simp only [ZO,Agk,LZ,seval])
  refine Ah (BT ok a) ?_
  (simp only [h,LZ,seval])
  exact Aq.mkZ hx [] ⟨rfl,rfl,rfl⟩
 ·have e:Rf a=a:=by rw [Rf,if_neg (of_eq_false h)]
  rw [e]
  refine es 2000 ?_;(simp only [ZO,Agk,LZ,seval])
  refine Ah (BT ok a) ?_
  (simp only [h,LZ,seval])
  exact Aq.mkZ hx [] ⟨rfl,rfl,rfl⟩
theorem Ab1 (a b:BitVec 64):((a &&& 4294967295#64) * (b >>> 32) + ((a >>> 32) * (b &&& 4294967295#64) + ((a &&& 4294967295#64) * (b &&& 4294967295#64)) >>> 32 &&& 4294967295#64)) <<< 32 ||| ((a &&& 4294967295#64) * (b &&& 4294967295#64) &&& 4294967295#64)=a * b:=by
 have ha:=a.isLt
 have hb:=b.isLt
 have l1:(a &&& 4294967295#64).toNat < 4294967296:=by rw [Ly];omega
 have l2:(b &&& 4294967295#64).toNat < 4294967296:=by rw [Ly];omega
 have l3:(a >>> 32).toNat < 4294967296:=by rw [Eu];omega
 have l4:(b >>> 32).toNat < 4294967296:=by rw [Eu];omega
 have m1:=Q0 l1 l2
 have m2:=Q0 l3 l2
 have m3:=Q0 l1 l4
 have b1:=IL l1 l2
 have b2:=IL l3 l2
 have b3:=IL l1 l4
 have ea:a.toNat=(a >>> 32).toNat * 4294967296 + (a &&& 4294967295#64).toNat:=ZV
 have eb:b.toNat=(b >>> 32).toNat * 4294967296 + (b &&& 4294967295#64).toNat:=ZV
 have ep:a.toNat * b.toNat=(a >>> 32).toNat * (b >>> 32).toNat * 18446744073709551616 + ((a >>> 32).toNat * (b &&& 4294967295#64).toNat + (a &&& 4294967295#64).toNat * (b >>> 32).toNat) * 4294967296 + (a &&& 4294967295#64).toNat * (b &&& 4294967295#64).toNat:=by
  rw [ea,eb]
  generalize (a >>> 32).toNat=p
  generalize (b >>> 32).toNat=q
  generalize (a &&& 4294967295#64).toNat=r
  generalize (b &&& 4294967295#64).toNat=s
  rw [Nat.add_mul,Nat.mul_add,Nat.mul_add,Nat.mul_mul_mul_comm,Nat.mul_right_comm p _ s,← Nat.mul_assoc r q,Nat.add_mul]
  omega
 apply BitVec.eq_of_toNat_eq
 rw [BitVec.toNat_mul,ep]
 generalize (a &&& 4294967295#64)=x0 at *
 generalize (b &&& 4294967295#64)=y0 at *
 generalize (a >>> 32)=x1 at *
 generalize (b >>> 32)=y1 at *
 have t1:(x1 * y0 + (x0 * y0) >>> 32).toNat=x1.toNat * y0.toNat + x0.toNat * y0.toNat / 4294967296:=by
  rw [Rg (by rw [Eu,m1,m2];omega),Eu,m1,m2]
 have t2:(x0 * y1 + ((x1 * y0 + (x0 * y0) >>> 32) &&& 4294967295#64)).toNat=x0.toNat * y1.toNat + (x1.toNat * y0.toNat + x0.toNat * y0.toNat / 4294967296) % 4294967296:=by
  rw [Rg (by rw [Ly,t1,m3];omega),Ly,t1,m3]
 rw [BitVec.toNat_or,BitVec.toNat_shiftLeft,t2,Ly,m1,Nat.shiftLeft_eq]
 generalize x0.toNat * y0.toNat=A at *
 generalize x1.toNat * y0.toNat=B at *
 generalize x0.toNat * y1.toNat=C at *
 have e1:(C + (B + A / 4294967296) % 4294967296) * 2 ^ 32 % 2 ^ 64=((C + (B + A / 4294967296) % 4294967296) % 4294967296) <<< 32:=by
  rw [Nat.shiftLeft_eq];omega
 rw [e1,← Nat.shiftLeft_add_eq_or_of_lt Aa,Nat.shiftLeft_eq]
 omega
theorem Iw (ok:OkX M) (a b:BitVec 64):Af M 226 [W a,W b] [] 0 (Q3 (Ao (W (UH a b)) (W (a * b))) [] 0):=by
 refine Ac ok.k226 rfl fun x hx=>?_
 have e:UH a b=(a >>> 32) * (b >>> 32) + ((a >>> 32) * (b &&& 4294967295#64) + ((a &&& 4294967295#64) * (b &&& 4294967295#64)) >>> 32) >>> 32 + ((a &&& 4294967295#64) * (b >>> 32) + ((a >>> 32) * (b &&& 4294967295#64) + ((a &&& 4294967295#64) * (b &&& 4294967295#64)) >>> 32 &&& 4294967295#64)) >>> 32:=by
  rw [UH,BitVec.add_comm ((a &&& 4294967295#64) * (b >>> 32))]
 rw [e,← Ab1 a b]
 refine es 2000 ?_;(simp only [Ah9,Ald,LZ,seval])
 have zz:=@Ao.eq_1;exact Bg hx [] ⟨rfl,rfl,rfl⟩
def E4 (hi lo:BitVec 64):Nat:=hi.toNat * 18446744073709551616 + lo.toNat
theorem Adw (hi lo:BitVec 64) (k:Nat) (h:64≤k):(hi >>> (k - 64) &&& 1#64).toNat=E4 hi lo / 2 ^ k % 2:=by
 obtain ⟨j,rfl⟩:∃ j,k=64 + j:=⟨k - 64,by omega⟩
 rw [BitVec.toNat_and,BitVec.toNat_ushiftRight,Nat.shiftRight_eq_div_pow,show 64 + j - 64=j by omega,show (1#64:BitVec 64).toNat=1 from rfl,Nat.and_one_is_mod,Nat.pow_add,← Nat.div_div_eq_div_mul,E4]
 have:=lo.isLt
 have e:(hi.toNat * 18446744073709551616 + lo.toNat) / 2 ^ 64=hi.toNat:=by
  have e2:(2:Nat) ^ 64=18446744073709551616:=Ak
  rw [e2];omega
 rw [e]
theorem Aed (hi lo:BitVec 64) (k:Nat) (h:k < 64):(lo >>> k &&& 1#64).toNat=E4 hi lo / 2 ^ k % 2:=by
 rw [BitVec.toNat_and,BitVec.toNat_ushiftRight,Nat.shiftRight_eq_div_pow,show (1#64:BitVec 64).toNat=1 from rfl,Nat.and_one_is_mod,E4]
 have e:hi.toNat * 18446744073709551616=2 ^ k * (2 * (hi.toNat * 2 ^ (63 - k))):=by
  have e2:(18446744073709551616:Nat)=2 ^ k * 2 * 2 ^ (63 - k):=by
   rw [← Nat.pow_succ,← Nat.pow_add,show k + 1 + (63 - k)=64 by omega]
  rw [e2,Nat.mul_assoc (2 ^ k),Nat.mul_left_comm hi.toNat,Nat.mul_left_comm hi.toNat]
 rw [e,Nat.mul_add_div (Nat.pow_pos Ak)]
 omega
def rsQ (hi lo n:BitVec 64):BitVec 64:=BitVec.ofNat 64 (E4 hi lo / n.toNat)
def rsR (hi lo n:BitVec 64):BitVec 64:=BitVec.ofNat 64 (E4 hi lo % n.toNat)
def rsI (hi lo n:BitVec 64) (s:Nat × BitVec 64 × BitVec 64):Prop:=s.1≤128∧s.2.2.toNat=E4 hi lo / 2 ^ s.1 % n.toNat∧s.2.1.toNat=E4 hi lo / 2 ^ s.1 / n.toNat % 18446744073709551616
theorem XY {hi lo n:BitVec 64} (hn:0 < n.toNat) {k:Nat} {q r b q' r':BitVec 64} (h:rsI hi lo n (k + 1,q,r)) (hb:b.toNat=E4 hi lo / 2 ^ k % 2)
 (hr:r'=if Ka r n b then (r <<< 1 ||| b) - n else (r <<< 1 ||| b)) (hq:q'=if Ka r n b then q <<< 1 ||| 1#64 else q <<< 1):rsI hi lo n (k,q',r'):=by
 obtain ⟨h1,h2,h3⟩:=h
 dsimp only at h1 h2 h3
 have hs:=Vb r n b q _ Aa hn h2 h3
 have e:2 * (E4 hi lo / 2 ^ (k + 1)) + b.toNat=E4 hi lo / 2 ^ k:=by
  rw [Nat.pow_succ,← Nat.div_div_eq_div_mul,hb];omega
 rw [e] at hs
 exact ⟨by show k≤128;omega,by rw [hr];exact hs.1,by rw [hq];exact hs.2⟩
theorem D6 (ok:OkX M) (hi lo n:BitVec 64) (hn:0 < n.toNat):Af M 229 [W hi,W lo,W n] [] 0 (Q3 (Ao (W (rsQ hi lo n)) (W (rsR hi lo n))) [] 0):=by
 refine Ac ok.k229 rfl fun x hx=>?_
 generalize hF:rsQ hi lo n=F
 generalize hG:rsR hi lo n=G
 refine es 2000 ?_;(simp only [Agf,Ajc,LZ,seval])
 refine Ag (σ:=Nat × BitVec 64 × BitVec 64) (rsI hi lo n) (fun s=>fr 52 [(0,W hi),(1,W lo),(2,W n),(8,W s.2.1),(9,W s.2.2),(10,.int .i64 ((s.1:Int) - 1))]) (fun _=>[]) (fun _=>0) (fun s=>s.1) (128,0#64,0#64) ?_ ?_ ?_
 ·have hT:E4 hi lo / 2 ^ 128=0:=by
   refine Nat.div_eq_of_lt ?_
   have h1:=hi.isLt
   have h2:=lo.isLt
   have e:(2:Nat) ^ 128=18446744073709551616 * 18446744073709551616:=Ak
   rw [E4,e];omega
  refine ⟨Nat.le_refl _,?_,?_⟩
  ·show 0=_;rw [hT,Nat.zero_mod]
  ·show 0=_;rw [hT,Nat.zero_div]
 ·refine Aj.fr [] [] hx Ax Ak ?_ ?_
  ·simp only [LY,seval]
  ·trivial
 ·rintro ⟨k,q,r⟩ hI
  refine es 2000 ?_
  cases k with
  | zero =>
    have hz:(((0:Nat):Int) - 1) = -1:=rfl
    obtain ⟨_,h2,h3⟩:=hI
    dsimp only at h2 h3
    rw [Nat.pow_zero,Nat.div_one] at h2 h3
    have e1:q=F:=by rw [← hF];exact BitVec.eq_of_toNat_eq (by rw [h3,rsQ,BitVec.toNat_ofNat])
    have e2:r=G:=by rw [← hG];exact BitVec.eq_of_toNat_eq (by rw [h2,rsR,BitVec.toNat_ofNat];exact (Nat.mod_eq_of_lt (Nat.lt_trans (Nat.mod_lt _ hn) n.isLt)).symm)
    subst e1 e2
    (simp only [hz,LZ,seval])
    exact Aq.mkZ hx [] ⟨rfl,rfl,rfl⟩
  | succ k =>
    have hk:=hI.1
    dsimp only at hk
    have hz:(((k + 1:Nat):Int) - 1)=k:=Aa
    have g0:(0≤(k:Int))=True:=eq_true Aa
    have w1:IntKind.i64.wrap ((k:Int) - 1)=(k:Int) - 1:=AI Aa
    have hstep:=fun b q' r'=>XY (b:=b) (q':=q') (r':=r') hn hI
    have tl:∀ b:BitVec 64,(r >>> 63=1#64)=True→Ka r n b:=fun b h=>Or.inl (of_eq_true h)
    have tr:∀ b:BitVec 64,(n≤(r <<< 1 ||| b))=True→Ka r n b:=fun b h=>Or.inr (of_eq_true h)
    have tn:∀ b:BitVec 64,(r >>> 63=1#64)=False→(n≤(r <<< 1 ||| b))=False→¬ Ka r n b:=fun b h h' x=>x.elim (of_eq_false h) (of_eq_false h')
    by_cases h64:64≤k
    ·have g64:((64:Int)≤(k:Int))=True:=eq_true Aa
     have w2:IntKind.i64.wrap ((k:Int) - 64)=((k - 64:Nat):Int):=A9
     have w3:=Ih (k - 64) Aa
     have hb:=Adw hi lo k h64
     obtain ⟨b,hbe⟩:∃ b,(hi >>> (k - 64) &&& 1#64)=b:=⟨_,rfl⟩
     rw [hbe] at hb
     rcases Classical.propComplete (r >>> 63=1#64) with c1 | c1
     ·skip
      (simp only [hz,g0,g64,w1,w2,w3,hbe,c1,LZ,seval])
      refine ⟨(k,q <<< 1 ||| 1#64,(r <<< 1 ||| b) - n),hstep b _ _ hb Aax Aax,Nat.lt_succ_self k,?_⟩
      refine Aj.fr [] [] hx Ax Ak ?_ ?_
      ·simp only [LY,seval]
      ·trivial
     ·rcases Classical.propComplete (n≤(r <<< 1 ||| b)) with c2 | c2
      ·skip
       (simp only [hz,g0,g64,w1,w2,w3,hbe,c1,c2,LZ,seval])
       refine ⟨(k,q <<< 1 ||| 1#64,(r <<< 1 ||| b) - n),hstep b _ _ hb Abk Abk,Nat.lt_succ_self k,?_⟩
       refine Aj.fr [] [] hx Ax Ak ?_ ?_
       ·simp only [LY,seval]
       ·trivial
      ·skip
       (simp only [hz,g0,g64,w1,w2,w3,hbe,c1,c2,LZ,seval])
       refine ⟨(k,q <<< 1,r <<< 1 ||| b),hstep b _ _ hb Abz Abz,Nat.lt_succ_self k,?_⟩
       refine Aj.fr [] [] hx Ax Ak ?_ ?_
       ·simp only [LY,seval]
       ·trivial
    ·have g64:((64:Int)≤(k:Int))=False:=eq_false Aa
     have w3:=Ih k Aa
     have hb:=Aed hi lo k Aa
     obtain ⟨b,hbe⟩:∃ b,(lo >>> k &&& 1#64)=b:=⟨_,rfl⟩
     rw [hbe] at hb
     rcases Classical.propComplete (r >>> 63=1#64) with c1 | c1
     ·skip
      (simp only [hz,g0,g64,w1,w3,hbe,c1,LZ,seval])
      refine ⟨(k,q <<< 1 ||| 1#64,(r <<< 1 ||| b) - n),hstep b _ _ hb Aax Aax,Nat.lt_succ_self k,?_⟩
      refine Aj.fr [] [] hx Ax Ak ?_ ?_
      ·simp only [LY,seval]
      ·trivial
     ·rcases Classical.propComplete (n≤(r <<< 1 ||| b)) with c2 | c2
      ·skip
       (simp only [hz,g0,g64,w1,w3,hbe,c1,c2,LZ,seval])
       refine ⟨(k,q <<< 1 ||| 1#64,(r <<< 1 ||| b) - n),hstep b _ _ hb Abk Abk,Nat.lt_succ_self k,?_⟩
       refine Aj.fr [] [] hx Ax Ak ?_ ?_
       ·simp only [LY,seval]
       ·trivial
      ·skip
       (simp only [hz,g0,g64,w1,w3,hbe,c1,c2,LZ,seval])
       refine ⟨(k,q <<< 1,r <<< 1 ||| b),hstep b _ _ hb Abz Abz,Nat.lt_succ_self k,?_⟩
       refine Aj.fr [] [] hx Ax Ak ?_ ?_
       ·simp only [LY,seval]
       ·trivial
theorem FM (a b:BitVec 64) (hb:¬ b=0#64):rsQ 0#64 a b=a / b∧rsR 0#64 a b=a % b:=by
 have ha:=a.isLt
 have e:E4 0#64 a=a.toNat:=by simp [E4]
 refine ⟨BitVec.eq_of_toNat_eq ?_,BitVec.eq_of_toNat_eq ?_⟩
 ·rw [rsQ,e,BitVec.toNat_ofNat,BitVec.toNat_udiv,Nat.mod_eq_of_lt (Nat.lt_of_le_of_lt (Nat.div_le_self _ _) ha)]
 ·rw [rsR,e,BitVec.toNat_ofNat,BitVec.toNat_umod,Nat.mod_eq_of_lt (Nat.lt_of_le_of_lt (Nat.mod_le _ _) ha)]
theorem Ge (b:BitVec 64) (hb:¬ b=0#64):¬ Rf b=0#64:=by
 unfold Rf
 split
 ·exact fun h=>hb (by have:=congrArg (fun x=>-x) h;simpa using this)
 ·exact hb
theorem M4 (b:BitVec 64) (h:¬ b=0#64):0 < b.toNat:=Nat.pos_of_ne_zero fun e=>h (BitVec.eq_of_toNat_eq (by simpa using e))
theorem VP (ok:OkX M) (a b:BitVec 64):Af M 227 [.int .i64 4,W a,W b] [] 0 (Q3 (W (E3 4 a b)) [] 0):=by
 refine Ac ok.k227 rfl fun x hx=>?_
 by_cases hb:b=0#64
 ·subst hb
  refine es 2000 ?_;(simp only [Lf,Ob,LZ,seval])
  have zz:=@E3.eq_1;exact Bg hx [] ⟨rfl,rfl,rfl⟩
 ·have r1:=D6 ok 0#64 a b (M4 b hb)
  rw [(FM a b hb).1,(FM a b hb).2] at r1
  have z0:(b=0#64)=False:=eq_false hb
  generalize hF:E3 4 a b=F
  simp only [E3,hb,CD,seval] at hF
  subst hF
  refine es 2000 ?_;(simp only [Lf,Ob,z0,LZ,seval])
  refine Ah (r1) ?_
  (simp only [Cb,seval])
  exact Aq.mkZ hx [] ⟨rfl,rfl,rfl⟩
theorem Yn (ok:OkX M) (a b:BitVec 64):Af M 227 [.int .i64 6,W a,W b] [] 0 (Q3 (W (E3 6 a b)) [] 0):=by
 refine Ac ok.k227 rfl fun x hx=>?_
 by_cases hb:b=0#64
 ·subst hb
  refine es 2000 ?_;(simp only [Lf,Ob,LZ,seval])
  have zz:=@E3.eq_1;exact Bg hx [] ⟨rfl,rfl,rfl⟩
 ·have r1:=D6 ok 0#64 a b (M4 b hb)
  rw [(FM a b hb).1,(FM a b hb).2] at r1
  have z0:(b=0#64)=False:=eq_false hb
  generalize hF:E3 6 a b=F
  simp only [E3,hb,CD,seval] at hF
  subst hF
  refine es 2000 ?_;(simp only [Lf,Ob,z0,LZ,seval])
  refine Ah (r1) ?_
  (simp only [Cb,seval])
  exact Aq.mkZ hx [] ⟨rfl,rfl,rfl⟩
theorem W7 (ok:OkX M) (a b:BitVec 64):Af M 227 [.int .i64 5,W a,W b] [] 0 (Q3 (W (E3 5 a b)) [] 0):=by
 refine Ac ok.k227 rfl fun x hx=>?_
 by_cases hb:b=0#64
 ·subst hb
  refine es 2000 ?_;(simp only [Lf,Ob,LZ,seval])
  have zz:=@E3.eq_1;exact Bg hx [] ⟨rfl,rfl,rfl⟩
 ·have r2:=D6 ok 0#64 (Rf a) (Rf b) (M4 _ (Ge b hb))
  rw [(FM _ _ (Ge b hb)).1,(FM _ _ (Ge b hb)).2] at r2
  have s1:=Gm ok a
  have s2:=Gm ok b
  have n1:=BT ok a
  have n2:=BT ok b
  have e1:(Rf a)=if a.toInt < 0 then -a else a:=rfl
  have e2:(Rf b)=if b.toInt < 0 then -b else b:=rfl
  generalize hF:E3 5 a b=F
  have z0:(b=0#64)=False:=eq_false hb
  rcases Classical.propComplete (a.toInt < 0) with h1 | h1 <;> rcases Classical.propComplete (b.toInt < 0) with h2 | h2
  all_goals
   simp only [h1,h2,CD] at e1 e2
   simp only [E3,hb,h1,h2,Vj,iff_self,iff_true,iff_false,true_iff,false_iff,not_false_eq_true,seval] at hF
   simp only [e1,e2] at s1 s2 r2
   simp only [h1,h2,decide_true,decide_false] at n1 n2
   try rw [← BitVec.zero_sub] at hF
   subst hF
   refine es 2000 ?_;(simp only [Lf,Ob,z0,LZ,seval])
   refine Ah (s1) ?_
   (simp only [LZ,seval])
   refine Ah (s2) ?_
   (simp only [LZ,seval])
   refine Ah (r2) ?_
   (simp only [Cb,seval])
   try (refine Ah (n1) ?_)
   (simp only [LZ,seval])
   try (refine Ah (n2) ?_)
   try (simp only [LZ,seval])
   exact Aq.mkZ hx [] ⟨rfl,rfl,rfl⟩
theorem VV (ok:OkX M) (a b:BitVec 64):Af M 227 [.int .i64 7,W a,W b] [] 0 (Q3 (W (E3 7 a b)) [] 0):=by
 refine Ac ok.k227 rfl fun x hx=>?_
 by_cases hb:b=0#64
 ·subst hb
  refine es 2000 ?_;(simp only [Lf,Ob,LZ,seval])
  have zz:=@E3.eq_1;exact Bg hx [] ⟨rfl,rfl,rfl⟩
 ·have r2:=D6 ok 0#64 (Rf a) (Rf b) (M4 _ (Ge b hb))
  rw [(FM _ _ (Ge b hb)).1,(FM _ _ (Ge b hb)).2] at r2
  have s1:=Gm ok a
  have s2:=Gm ok b
  have n1:=BT ok a
  have n2:=BT ok b
  have e1:(Rf a)=if a.toInt < 0 then -a else a:=rfl
  have e2:(Rf b)=if b.toInt < 0 then -b else b:=rfl
  generalize hF:E3 7 a b=F
  have z0:(b=0#64)=False:=eq_false hb
  rcases Classical.propComplete (a.toInt < 0) with h1 | h1 <;> rcases Classical.propComplete (b.toInt < 0) with h2 | h2
  all_goals
   simp only [h1,h2,CD] at e1 e2
   simp only [E3,hb,h1,h2,Vj,iff_self,iff_true,iff_false,true_iff,false_iff,not_false_eq_true,seval] at hF
   simp only [e1,e2] at s1 s2 r2
   simp only [h1,h2,decide_true,decide_false] at n1 n2
   try rw [← BitVec.zero_sub] at hF
   subst hF
   refine es 2000 ?_;(simp only [Lf,Ob,z0,LZ,seval])
   refine Ah (s1) ?_
   (simp only [LZ,seval])
   refine Ah (s2) ?_
   (simp only [LZ,seval])
   refine Ah (r2) ?_
   (simp only [Cb,seval])
   try (refine Ah (n1) ?_)
   (simp only [LZ,seval])
   try (refine Ah (n2) ?_)
   try (simp only [LZ,seval])
   exact Aq.mkZ hx [] ⟨rfl,rfl,rfl⟩
variable {M:Seat}
theorem Ajh (b:BitVec 64) (n:Nat):(b >>> n &&& 1#64=1#64)=(b.getLsbD n=true):=by
 apply propext
 have e:(b >>> n &&& 1#64).toNat=(b.getLsbD n).toNat:=by
  rw [BitVec.toNat_and,BitVec.toNat_ushiftRight,show (1#64:BitVec 64).toNat=1 from rfl,Nat.and_one_is_mod,BitVec.getLsbD,Nat.testBit,Nat.shiftRight_eq_div_pow,Nat.one_and_eq_mod_two]
  rcases Nat.mod_two_eq_zero_or_one (b.toNat / 2 ^ n) with h | h <;> rw [h] <;> rfl
 constructor
 ·intro h
  rw [h] at e
  cases hb:b.getLsbD n
  ·rw [hb] at e;exact absurd e Ak
  ·rfl
 ·intro h
  rw [h] at e
  exact BitVec.eq_of_toNat_eq e
def L5:=(aq2 @LZ @Ajh)
def YP (F:BitVec 64) (s:BitVec 64 × BitVec 64):Prop:=s.1.toNat≤64∧∀ j,s.2.getLsbD j=(decide (j < s.1.toNat) && F.getLsbD j)
theorem KL {w:BitVec 64} (hw:w.toNat < 64):(w + 1#64).toNat=w.toNat + 1:=by
 rw [BitVec.toNat_add,show (1#64:BitVec 64).toNat=1 from rfl];omega
theorem K7 {F w o:BitVec 64} (h:YP F (w,o)) (hw:w.toNat=64):o=F:=by
 apply BitVec.eq_of_getLsbD_eq
 intro i hi
 rw [h.2 i,hw,decide_eq_true hi,Bool.true_and]
theorem Fu {F w o:BitVec 64} (h:YP F (w,o)) (hw:w.toNat < 64) (hf:F.getLsbD w.toNat=true):YP F (w + 1#64,o ||| 1#64 <<< w.toNat):=by
 refine ⟨by show (w + 1#64).toNat≤64;rw [KL hw];omega,fun j=>?_⟩
 show (o ||| 1#64 <<< w.toNat).getLsbD j=(decide (j < (w + 1#64).toNat) && F.getLsbD j)
 rw [KL hw,BitVec.getLsbD_or,h.2 j]
 show ((decide (j < w.toNat) && F.getLsbD j) || (1#64 <<< w.toNat).getLsbD j)=_
 rw [BitVec.getLsbD_shiftLeft]
 by_cases h1:j < w.toNat
 ·rw [decide_eq_true h1,decide_eq_true (show j < w.toNat + 1 by omega)]
  simp
 ·by_cases h2:j=w.toNat
  ·subst h2
   simp [hf,hw]
  ·rw [decide_eq_false h1,decide_eq_false (show ¬ j < w.toNat + 1 by omega)]
   have:(1#64).getLsbD (j - w.toNat)=false:=by
    rw [BitVec.getLsbD_one];simp;omega
   simp [this]
theorem E7 {F w o:BitVec 64} (h:YP F (w,o)) (hw:w.toNat < 64) (hf:F.getLsbD w.toNat=false):YP F (w + 1#64,o):=by
 refine ⟨by show (w + 1#64).toNat≤64;rw [KL hw];omega,fun j=>?_⟩
 show o.getLsbD j=(decide (j < (w + 1#64).toNat) && F.getLsbD j)
 rw [KL hw,h.2 j]
 show (decide (j < w.toNat) && F.getLsbD j)=_
 by_cases h2:j=w.toNat
 ·subst h2;simp [hf]
 ·have:decide (j < w.toNat)=decide (j < w.toNat + 1):=by
   by_cases h1:j < w.toNat
   ·rw [decide_eq_true h1,decide_eq_true Aa]
   ·rw [decide_eq_false h1,decide_eq_false Aa]
  rw [this]
theorem C2 {w:BitVec 64} (hw:w.toNat < 64):64 - (w + 1#64).toNat < 64 - w.toNat:=by rw [KL hw];omega
theorem H7 (a b:BitVec 64) (H:Hp):vmm false (W a) (W b) H=⟨True,W (if b < a then b else a),H⟩:=by
 simp only [vmm,W,BitVec.lt_def]
 by_cases h:b.toNat < a.toNat
 ·rw [if_pos h,if_neg Ak,if_pos Aa]
 ·rw [if_neg h,if_neg Ak,if_neg Aa]
theorem Lu (ok:OkX M) (a b:BitVec 64):Af M 230 [.int .i64 13,W a,W b] [] 0 (Q3 (W (Fn 13 a b)) [] 0):=by
 refine Ac ok.k230 rfl fun x hx=>?_
 generalize hF:Fn 13 a b=F
 refine es 2000 ?_;(simp only [QQ,UE,LZ,seval])
 refine Ag (σ:=BitVec 64 × BitVec 64) (YP F) (fun s=>fr 81 [(0,.int .i64 13),(1,W a),(2,W b),(7,W s.2),(8,W s.1)]) (fun _=>[]) (fun _=>0) (fun s=>64 - s.1.toNat) (0#64,0#64) ?_ ?_ ?_
 ·refine ⟨by decide,fun j=>?_⟩
  show (0#64).getLsbD j=(decide (j < 0) && F.getLsbD j)
  simp
 ·refine Aj.fr [] [] hx Ax Ak ?_ ?_
  ·simp only [LY,seval]
  ·trivial
 ·rintro ⟨w,o⟩ hI
  refine es 2000 ?_
  rcases Classical.propComplete (w < 64#64) with hw | hw
  ·have hw':w.toNat < 64:=VQ
   rcases Classical.propComplete (a≤w) with h1 | h1
   ·have h1':=of_eq_true h1
    rw [BitVec.le_def] at h1'
    have hs:(w - a).toNat=w.toNat - a.toNat:=by rw [BitVec.toNat_sub];have:=a.isLt;omega
    have g1:(w - a < 64#64)=True:=eq_true zq7
    have hg:F.getLsbD w.toNat=b.getLsbD (w - a).toNat:=by
     rw [← hF,hs,Fn]
     show (b <<< a.toNat).getLsbD w.toNat=_
     rw [BitVec.getLsbD_shiftLeft,decide_eq_true hw',decide_eq_false (show ¬ w.toNat < a.toNat by omega)]
     simp
    cases hb:b.getLsbD ((w - a).toNat)
    ·have hf:F.getLsbD w.toNat=false:=Gr
     (simp only [hw,L5,h1,g1,hb,seval])
     refine ⟨(w + 1#64,o),E7 hI hw' hf,C2 hw',?_⟩
     refine Aj.fr [] [] hx Ax Ak ?_ ?_
     ·simp only [LY,seval]
     ·trivial
    ·have hf:F.getLsbD w.toNat=true:=Gr
     (simp only [hw,L5,h1,g1,hb,seval])
     refine ⟨(w + 1#64,o ||| 1#64 <<< w.toNat),Fu hI hw' hf,C2 hw',?_⟩
     refine Aj.fr [] [] hx Ax Ak ?_ ?_
     ·simp only [LY,seval]
     ·trivial
   ·have h1':=of_eq_false h1
    rw [BitVec.le_def] at h1'
    have hf:F.getLsbD w.toNat=false:=by
     rw [← hF,Fn]
     show (b <<< a.toNat).getLsbD w.toNat=_
     rw [BitVec.getLsbD_shiftLeft,decide_eq_true (show w.toNat < a.toNat by omega)]
     simp
    (simp only [hw,L5,h1,seval])
    refine ⟨(w + 1#64,o),E7 hI hw' hf,C2 hw',?_⟩
    refine Aj.fr [] [] hx Ax Ak ?_ ?_
    ·simp only [LY,seval]
    ·trivial
  ·have hw':w.toNat=64:=by
    have:=of_eq_false hw;rw [BitVec.lt_def] at this
    have h2:=hI.1
    have e:(64#64:BitVec 64).toNat=64:=rfl
    dsimp only at h2
    omega
   have e:=K7 hI hw'
   subst e
   (simp only [hw,LZ,seval])
   exact Aq.mkZ hx [] ⟨rfl,rfl,rfl⟩
theorem L1 (ok:OkX M) (a b:BitVec 64):Af M 230 [.int .i64 14,W a,W b] [] 0 (Q3 (W (Fn 14 a b)) [] 0):=by
 refine Ac ok.k230 rfl fun x hx=>?_
 generalize hF:Fn 14 a b=F
 refine es 2000 ?_;(simp only [QQ,UE,LZ,seval])
 refine Ag (σ:=BitVec 64 × BitVec 64) (YP F) (fun s=>fr 81 [(0,.int .i64 14),(1,W a),(2,W b),(7,W s.2),(8,W s.1)]) (fun _=>[]) (fun _=>0) (fun s=>64 - s.1.toNat) (0#64,0#64) ?_ ?_ ?_
 ·refine ⟨by decide,fun j=>?_⟩
  show (0#64).getLsbD j=(decide (j < 0) && F.getLsbD j)
  simp
 ·refine Aj.fr [] [] hx Ax Ak ?_ ?_
  ·simp only [LY,seval]
  ·trivial
 ·rintro ⟨w,o⟩ hI
  refine es 2000 ?_
  rcases Classical.propComplete (w < 64#64) with hw | hw
  ·have hw':w.toNat < 64:=VQ
   have h64:(64#64 - w).toNat=64 - w.toNat:=Aln
   rcases Classical.propComplete (a < 64#64 - w) with h1 | h1
   ·have h1':=of_eq_true h1
    rw [BitVec.lt_def,h64] at h1'
    have hs:(w + a).toNat=a.toNat + w.toNat:=by rw [BitVec.toNat_add];omega
    have g1:(w + a < 64#64)=True:=eq_true zq7
    have hg:F.getLsbD w.toNat=b.getLsbD (w + a).toNat:=by
     rw [← hF,hs,Fn]
     show (b >>> a.toNat).getLsbD w.toNat=_
     rw [BitVec.getLsbD_ushiftRight]
    cases hb:b.getLsbD ((w + a).toNat)
    ·have hf:F.getLsbD w.toNat=false:=Gr
     (simp only [hw,L5,h1,g1,hb,seval])
     refine ⟨(w + 1#64,o),E7 hI hw' hf,C2 hw',?_⟩
     refine Aj.fr [] [] hx Ax Ak ?_ ?_
     ·simp only [LY,seval]
     ·trivial
    ·have hf:F.getLsbD w.toNat=true:=Gr
     (simp only [hw,L5,h1,g1,hb,seval])
     refine ⟨(w + 1#64,o ||| 1#64 <<< w.toNat),Fu hI hw' hf,C2 hw',?_⟩
     refine Aj.fr [] [] hx Ax Ak ?_ ?_
     ·simp only [LY,seval]
     ·trivial
   ·have h1':=of_eq_false h1
    rw [BitVec.lt_def,h64] at h1'
    have hf:F.getLsbD w.toNat=false:=by
     rw [← hF,Fn]
     show (b >>> a.toNat).getLsbD w.toNat=_
     rw [BitVec.getLsbD_ushiftRight]
     exact BitVec.getLsbD_of_ge _ _ Aa
    (simp only [hw,L5,h1,seval])
    refine ⟨(w + 1#64,o),E7 hI hw' hf,C2 hw',?_⟩
    refine Aj.fr [] [] hx Ax Ak ?_ ?_
    ·simp only [LY,seval]
    ·trivial
  ·have hw':w.toNat=64:=by
    have:=of_eq_false hw;rw [BitVec.lt_def] at this
    have h2:=hI.1
    have e:(64#64:BitVec 64).toNat=64:=rfl
    dsimp only at h2
    omega
   have e:=K7 hI hw'
   subst e
   (simp only [hw,LZ,seval])
   exact Aq.mkZ hx [] ⟨rfl,rfl,rfl⟩
theorem L9 (ok:OkX M) (a b:BitVec 64):Af M 230 [.int .i64 15,W a,W b] [] 0 (Q3 (W (Fn 15 a b)) [] 0):=by
 refine Ac ok.k230 rfl fun x hx=>?_
 generalize hF:Fn 15 a b=F
 refine es 2000 ?_;(simp only [QQ,UE,LZ,seval])
 refine Ag (σ:=BitVec 64 × BitVec 64) (YP F) (fun s=>fr 81 [(0,.int .i64 15),(1,W a),(2,W b),(7,W s.2),(8,W s.1)]) (fun _=>[]) (fun _=>0) (fun s=>64 - s.1.toNat) (0#64,0#64) ?_ ?_ ?_
 ·refine ⟨by decide,fun j=>?_⟩
  show (0#64).getLsbD j=(decide (j < 0) && F.getLsbD j)
  simp
 ·refine Aj.fr [] [] hx Ax Ak ?_ ?_
  ·simp only [LY,seval]
  ·trivial
 ·rintro ⟨w,o⟩ hI
  refine es 2000 ?_
  rcases Classical.propComplete (w < 64#64) with hw | hw
  ·have hw':w.toNat < 64:=VQ
   have h64:(64#64 - w).toNat=64 - w.toNat:=Aln
   rcases Classical.propComplete (a < 64#64 - w) with h1 | h1
   ·have h1':=of_eq_true h1
    rw [BitVec.lt_def,h64] at h1'
    have hs:(w + a).toNat=a.toNat + w.toNat:=by rw [BitVec.toNat_add];omega
    have g1:(w + a < 64#64)=True:=eq_true zq7
    have hg:F.getLsbD w.toNat=b.getLsbD (w + a).toNat:=by
     rw [← hF,hs,Fn]
     show (b.sshiftRight a.toNat).getLsbD w.toNat=_
     rw [BitVec.getLsbD_sshiftRight,decide_eq_false (show ¬ 64≤w.toNat by omega),if_pos Aa];simp
    cases hb:b.getLsbD ((w + a).toNat)
    ·have hf:F.getLsbD w.toNat=false:=Gr
     (simp only [hw,L5,h1,g1,hb,seval])
     refine ⟨(w + 1#64,o),E7 hI hw' hf,C2 hw',?_⟩
     refine Aj.fr [] [] hx Ax Ak ?_ ?_
     ·simp only [LY,seval]
     ·trivial
    ·have hf:F.getLsbD w.toNat=true:=Gr
     (simp only [hw,L5,h1,g1,hb,seval])
     refine ⟨(w + 1#64,o ||| 1#64 <<< w.toNat),Fu hI hw' hf,C2 hw',?_⟩
     refine Aj.fr [] [] hx Ax Ak ?_ ?_
     ·simp only [LY,seval]
     ·trivial
   ·have h1':=of_eq_false h1
    rw [BitVec.lt_def,h64] at h1'
    have hg:F.getLsbD w.toNat=b.getLsbD 63:=by
     rw [← hF,Fn]
     show (b.sshiftRight a.toNat).getLsbD w.toNat=_
     rw [BitVec.getLsbD_sshiftRight,decide_eq_false (show ¬ 64≤w.toNat by omega),if_neg Aa,BitVec.msb_eq_getLsbD_last];simp
    cases hb:b.getLsbD (63)
    ·have hf:F.getLsbD w.toNat=false:=Gr
     (simp only [hw,L5,h1,hb,seval])
     refine ⟨(w + 1#64,o),E7 hI hw' hf,C2 hw',?_⟩
     refine Aj.fr [] [] hx Ax Ak ?_ ?_
     ·simp only [LY,seval]
     ·trivial
    ·have hf:F.getLsbD w.toNat=true:=Gr
     (simp only [hw,L5,h1,hb,seval])
     refine ⟨(w + 1#64,o ||| 1#64 <<< w.toNat),Fu hI hw' hf,C2 hw',?_⟩
     refine Aj.fr [] [] hx Ax Ak ?_ ?_
     ·simp only [LY,seval]
     ·trivial
  ·have hw':w.toNat=64:=by
    have:=of_eq_false hw;rw [BitVec.lt_def] at this
    have h2:=hI.1
    have e:(64#64:BitVec 64).toNat=64:=rfl
    dsimp only at h2
    omega
   have e:=K7 hI hw'
   subst e
   (simp only [hw,LZ,seval])
   exact Aq.mkZ hx [] ⟨rfl,rfl,rfl⟩
theorem Le (ok:OkX M) (a b:BitVec 64):Af M 230 [.int .i64 12,W a,W b] [] 0 (Q3 (W (Fn 12 a b)) [] 0):=by
 refine Ac ok.k230 rfl fun x hx=>?_
 generalize hF:Fn 12 a b=F
 refine es 2000 ?_;(simp only [QQ,UE,LZ,seval])
 refine Ag (σ:=BitVec 64 × BitVec 64) (YP F) (fun s=>fr 81 [(0,.int .i64 12),(1,W a),(2,W b),(7,W s.2),(8,W s.1)]) (fun _=>[]) (fun _=>0) (fun s=>64 - s.1.toNat) (0#64,0#64) ?_ ?_ ?_
 ·refine ⟨by decide,fun j=>?_⟩
  show (0#64).getLsbD j=(decide (j < 0) && F.getLsbD j)
  simp
 ·refine Aj.fr [] [] hx Ax Ak ?_ ?_
  ·simp only [LY,seval]
  ·trivial
 ·rintro ⟨w,o⟩ hI
  refine es 2000 ?_
  rcases Classical.propComplete (w < 64#64) with hw | hw
  ·have hw':w.toNat < 64:=VQ
   rcases Classical.propComplete (w < 8#64) with h1 | h1
   ·have h1':=of_eq_true h1
    rw [BitVec.lt_def] at h1'
    have h1':w.toNat < 8:=h1'
    rcases Classical.propComplete (a < 8#64) with h2 | h2
    ·have h2':=of_eq_true h2
     rw [BitVec.lt_def] at h2'
     have h2':a.toNat < 8:=h2'
     have h7:(7#64 < a)=False:=eq_false (by rw [BitVec.lt_def];show ¬ 7 < _;omega)
     have hm:(8#64 * a).toNat=8 * a.toNat:=by rw [BitVec.toNat_mul];show 8 * a.toNat % 2 ^ 64=_;omega
     have h56:(56#64 - 8#64 * a).toNat=56 - 8 * a.toNat:=by rw [BitVec.toNat_sub,hm];show (2 ^ 64 - 8 * a.toNat + 56) % 2 ^ 64=_;omega
     have hs:(56#64 - 8#64 * a + w).toNat=56 - 8 * a.toNat + w.toNat:=by rw [BitVec.toNat_add,h56];omega
     have g1:(56#64 - 8#64 * a + w < 64#64)=True:=eq_true zq7
     have hg:F.getLsbD w.toNat=b.getLsbD (56#64 - 8#64 * a + w).toNat:=by
      rw [← hF,hs,Fn,if_neg Ak,if_pos rfl,if_neg (of_eq_false h7)]
      show ((b >>> (56#64 - 8#64 * a).toNat) &&& 255#64).getLsbD w.toNat=_
      rw [h56,BitVec.getLsbD_and,BitVec.getLsbD_ushiftRight]
      have:∀ i,i < 8→(255#64).getLsbD i=true:=Ak
      rw [this _ h1',Bool.and_true]
     cases hb:b.getLsbD ((56#64 - 8#64 * a + w).toNat)
     ·have hf:F.getLsbD w.toNat=false:=Gr
      (simp only [hw,L5,H7,h7,h1,h2,g1,hb,seval])
      refine ⟨(w + 1#64,o),E7 hI hw' hf,C2 hw',?_⟩
      refine Aj.fr [] [] hx Ax Ak ?_ ?_
      ·simp only [LY,seval]
      ·trivial
     ·have hf:F.getLsbD w.toNat=true:=Gr
      (simp only [hw,L5,H7,h7,h1,h2,g1,hb,seval])
      refine ⟨(w + 1#64,o ||| 1#64 <<< w.toNat),Fu hI hw' hf,C2 hw',?_⟩
      refine Aj.fr [] [] hx Ax Ak ?_ ?_
      ·simp only [LY,seval]
      ·trivial
    ·have h2':=of_eq_false h2
     rw [BitVec.lt_def] at h2'
     have h2':¬ a.toNat < 8:=h2'
     have h7:(7#64 < a)=True:=eq_true (by rw [BitVec.lt_def];show 7 < _;omega)
     have hf:F.getLsbD w.toNat=false:=by
      rw [← hF,Fn,if_neg Ak,if_pos rfl,if_pos (of_eq_true h7)]
      simp
     (simp only [hw,L5,H7,h7,h1,h2,seval])
     refine ⟨(w + 1#64,o),E7 hI hw' hf,C2 hw',?_⟩
     refine Aj.fr [] [] hx Ax Ak ?_ ?_
     ·simp only [LY,seval]
     ·trivial
   ·have h1':=of_eq_false h1
    rw [BitVec.lt_def] at h1'
    have h1':¬ w.toNat < 8:=h1'
    have hf:F.getLsbD w.toNat=false:=by
     rw [← hF,Fn,if_neg Ak,if_pos rfl]
     split
     ·simp
     ·rw [BitVec.getLsbD_and]
      have:(255#64).getLsbD w.toNat=false:=by
       have:∀ i,i < 64→¬ i < 8→(255#64).getLsbD i=false:=Ak
       exact this _ hw' h1'
      rw [this,Bool.and_false]
    rcases Classical.propComplete (7#64 < a) with h7 | h7
    ·skip
     (simp only [hw,L5,H7,h7,h1,seval])
     refine ⟨(w + 1#64,o),E7 hI hw' hf,C2 hw',?_⟩
     refine Aj.fr [] [] hx Ax Ak ?_ ?_
     ·simp only [LY,seval]
     ·trivial
    ·skip
     (simp only [hw,L5,H7,h7,h1,seval])
     refine ⟨(w + 1#64,o),E7 hI hw' hf,C2 hw',?_⟩
     refine Aj.fr [] [] hx Ax Ak ?_ ?_
     ·simp only [LY,seval]
     ·trivial
  ·have hw':w.toNat=64:=by
    have:=of_eq_false hw;rw [BitVec.lt_def] at this
    have h2:=hI.1
    have e:(64#64:BitVec 64).toNat=64:=rfl
    dsimp only at h2
    omega
   have e:=K7 hI hw'
   subst e
   (simp only [hw,LZ,seval])
   exact Aq.mkZ hx [] ⟨rfl,rfl,rfl⟩
theorem Lw (ok:OkX M) (a b:BitVec 64):Af M 230 [.int .i64 11,W a,W b] [] 0 (Q3 (W (Fn 11 a b)) [] 0):=by
 refine Ac ok.k230 rfl fun x hx=>?_
 generalize hF:Fn 11 a b=F
 refine es 2000 ?_;(simp only [QQ,UE,LZ,seval])
 refine Ag (σ:=BitVec 64 × BitVec 64) (YP F) (fun s=>fr 81 [(0,.int .i64 11),(1,W a),(2,W b),(7,W s.2),(8,W s.1)]) (fun _=>[]) (fun _=>0) (fun s=>64 - s.1.toNat) (0#64,0#64) ?_ ?_ ?_
 ·refine ⟨by decide,fun j=>?_⟩
  show (0#64).getLsbD j=(decide (j < 0) && F.getLsbD j)
  simp
 ·refine Aj.fr [] [] hx Ax Ak ?_ ?_
  ·simp only [LY,seval]
  ·trivial
 ·rintro ⟨w,o⟩ hI
  refine es 2000 ?_
  rcases Classical.propComplete (w < 64#64) with hw | hw
  ·have hw':w.toNat < 64:=VQ
   rcases Classical.propComplete (a < 8#64) with h1 | h1
   ·have h1':=of_eq_true h1
    rw [BitVec.lt_def] at h1'
    have h1':a.toNat < 8:=h1'
    have hm:(8#64 * a).toNat=8 * a.toNat:=by rw [BitVec.toNat_mul];show 8 * a.toNat % 2 ^ 64=_;omega
    have h56:(56#64 - 8#64 * a).toNat=if a.toNat=7 then 0 else 56 - 8 * a.toNat:=by
     rw [BitVec.toNat_sub,hm];show (2 ^ 64 - 8 * a.toNat + 56) % 2 ^ 64=_;split <;> omega
    have hs:(8#64 * a + 7#64).toNat=8 * a.toNat + 7:=by rw [BitVec.toNat_add,hm];show (8 * a.toNat + 7) % 2 ^ 64=_;omega
    have hbit:F.getLsbD w.toNat=if 8 * a.toNat + 7 < w.toNat then b.getLsbD (8 * a.toNat + 7) else b.getLsbD w.toNat:=by
     rw [← hF,Fn,if_pos rfl]
     by_cases h7:7#64≤a
     ·rw [if_pos h7]
      rw [BitVec.le_def] at h7
      have h7:7≤a.toNat:=h7
      rw [if_neg Aa]
     ·rw [if_neg h7]
      rw [BitVec.le_def] at h7
      have h7:¬ 7≤a.toNat:=h7
      rw [if_neg Aa] at h56
      show ((b <<< (56#64 - 8#64 * a).toNat).sshiftRight (56#64 - 8#64 * a).toNat).getLsbD w.toNat=_
      rw [h56,BitVec.getLsbD_sshiftRight,decide_eq_false (show ¬ 64≤w.toNat by omega)]
      by_cases hc:8 * a.toNat + 7 < w.toNat
      ·rw [if_neg Aa,if_pos hc,BitVec.msb_eq_getLsbD_last,BitVec.getLsbD_shiftLeft,decide_eq_false (show ¬ 64 - 1 < 56 - 8 * a.toNat by omega)]
       simp
       congr 1
       omega
      ·rw [if_pos Aa,if_neg hc,BitVec.getLsbD_shiftLeft,decide_eq_false (show ¬ 56 - 8 * a.toNat + w.toNat < 56 - 8 * a.toNat by omega),decide_eq_true (show 56 - 8 * a.toNat + w.toNat < 64 by omega)]
       simp
    rcases Classical.propComplete (8#64 * a + 7#64 < w) with h2 | h2
    ·have h2':=of_eq_true h2
     rw [BitVec.lt_def,hs] at h2'
     have g1:(8#64 * a + 7#64 < 64#64)=True:=eq_true zq7
     have hg:F.getLsbD w.toNat=b.getLsbD (8#64 * a + 7#64).toNat:=by rw [hbit,if_pos h2',hs]
     cases hb:b.getLsbD ((8#64 * a + 7#64).toNat)
     ·have hf:F.getLsbD w.toNat=false:=Gr
      (simp only [hw,L5,H7,h1,h2,g1,hb,seval])
      refine ⟨(w + 1#64,o),E7 hI hw' hf,C2 hw',?_⟩
      refine Aj.fr [] [] hx Ax Ak ?_ ?_
      ·simp only [LY,seval]
      ·trivial
     ·have hf:F.getLsbD w.toNat=true:=Gr
      (simp only [hw,L5,H7,h1,h2,g1,hb,seval])
      refine ⟨(w + 1#64,o ||| 1#64 <<< w.toNat),Fu hI hw' hf,C2 hw',?_⟩
      refine Aj.fr [] [] hx Ax Ak ?_ ?_
      ·simp only [LY,seval]
      ·trivial
    ·have h2':=of_eq_false h2
     rw [BitVec.lt_def,hs] at h2'
     have hg:F.getLsbD w.toNat=b.getLsbD w.toNat:=by rw [hbit,if_neg h2']
     cases hb:b.getLsbD (w.toNat)
     ·have hf:F.getLsbD w.toNat=false:=Gr
      (simp only [hw,L5,H7,h1,h2,hb,seval])
      refine ⟨(w + 1#64,o),E7 hI hw' hf,C2 hw',?_⟩
      refine Aj.fr [] [] hx Ax Ak ?_ ?_
      ·simp only [LY,seval]
      ·trivial
     ·have hf:F.getLsbD w.toNat=true:=Gr
      (simp only [hw,L5,H7,h1,h2,hb,seval])
      refine ⟨(w + 1#64,o ||| 1#64 <<< w.toNat),Fu hI hw' hf,C2 hw',?_⟩
      refine Aj.fr [] [] hx Ax Ak ?_ ?_
      ·simp only [LY,seval]
      ·trivial
   ·have h1':=of_eq_false h1
    rw [BitVec.lt_def] at h1'
    have h1':¬ a.toNat < 8:=h1'
    have hg:F.getLsbD w.toNat=b.getLsbD w.toNat:=by
     rw [← hF,Fn,if_pos rfl,if_pos (by rw [BitVec.le_def];show 7≤_;omega)]
    cases hb:b.getLsbD (w.toNat)
    ·have hf:F.getLsbD w.toNat=false:=Gr
     (simp only [hw,L5,h1,hb,seval])
     refine ⟨(w + 1#64,o),E7 hI hw' hf,C2 hw',?_⟩
     refine Aj.fr [] [] hx Ax Ak ?_ ?_
     ·simp only [LY,seval]
     ·trivial
    ·have hf:F.getLsbD w.toNat=true:=Gr
     (simp only [hw,L5,h1,hb,seval])
     refine ⟨(w + 1#64,o ||| 1#64 <<< w.toNat),Fu hI hw' hf,C2 hw',?_⟩
     refine Aj.fr [] [] hx Ax Ak ?_ ?_
     ·simp only [LY,seval]
     ·trivial
  ·have hw':w.toNat=64:=by
    have:=of_eq_false hw;rw [BitVec.lt_def] at this
    have h2:=hI.1
    have e:(64#64:BitVec 64).toNat=64:=rfl
    dsimp only at h2
    omega
   have e:=K7 hI hw'
   subst e
   (simp only [hw,LZ,seval])
   exact Aq.mkZ hx [] ⟨rfl,rfl,rfl⟩
end Mv
