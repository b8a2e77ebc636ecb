/- A part. -/
import Derived.Test.YtlfkjfonpacelaaGreatDoorEX
import Derived.Test.YtlfkjfonpacelaaGreatDoorEY
set_option linter.all false
set_option maxRecDepth 20000
set_option maxHeartbeats 4000000
namespace Mv
open Go
variable {M:Seat}
def Lcb:=(CC @C7 @Qz.eq_1 @OQ.eq_1)
structure OkP (M:Seat):Prop where
 k215:Av M 215 YH=true
 k321:Av M 321 Afr=true
 k322:Av M 322 YB=true
 k323:Av M 323 Am5=true
 k324:Av M 324 P8=true
 k325:Av M 325 Ajs=true
 k421:Av M 421 Am4=true
 k423:Av M 423 Af0=true
 k259:Av M 259 XT=true
 k463:Av M 463 Amu=true
def flg (t:Bool):BitVec 64:=if t then 1#64 else 0#64
theorem UW (ok:OkP M) (t:Bool):Af M 325 [.bool t] [] 0 (Q3 (W (flg t)) [] 0):=by
 refine Ab ok.k325 rfl fun x hx=>?_
 cases t
 all_goals refine es 2000 ?_;(simp only [Ajs,Ak4,LZ,seval])
 all_goals (have zz:=@flg.eq_1;exact Bz hx [] ⟨rfl,rfl,rfl⟩)
def Abr (op:Nat) (a b:BitVec 64):BitVec 64 :=
 if b=0#64 then 0#64 else if op=4 then a / b else if op=6 then a % b
 else if op=5 then (if ((a.toInt < 0) ↔ (b.toInt < 0)) then (if a.toInt < 0 then -a else a) / (if b.toInt < 0 then -b else b) else -((if a.toInt < 0 then -a else a) / (if b.toInt < 0 then -b else b)))
 else if a.toInt < 0 then -((-a) % (if b.toInt < 0 then -b else b)) else a % (if b.toInt < 0 then -b else b)
theorem N2 (ok:OkP M) (op:Nat) (ho:op=4 ∨ op=5 ∨ op=6 ∨ op=7) (a b:BitVec 64):Af M 321 [.int .i64 op,W a,W b] [] 0 (Q3 (W (Abr op a b)) [] 0):=by
 refine Ab ok.k321 rfl fun x hx=>?_
 by_cases hb:b=0#64
 ·subst hb
  refine es 2000 ?_;(simp only [Afr,Agy,LZ,seval])
  have zz:=@Abr.eq_1;exact Bz hx [] ⟨rfl,rfl,rfl⟩
 ·have hn:¬ -b=0#64:=fun h=>hb (by have:=congrArg (fun x=>-x) h;simpa using this)
  have e0:(b ≠ 0)=True:=eq_true hb
  have e1:(-b ≠ 0)=True:=eq_true hn
  rcases Classical.propComplete (a.toInt < 0) with h1 | h1 <;> rcases Classical.propComplete (b.toInt < 0) with h2 | h2 <;> rcases ho with rfl | rfl | rfl | rfl
  all_goals simp only [Abr,hb,h1,h2,Lb9,seval,iff_self,iff_true,iff_false,true_iff,false_iff,not_false_eq_true]
  all_goals refine es 2000 ?_;(simp only [Afr,Agy,hb,h1,h2,e0,e1,Lbp,seval])
  all_goals repeat refine sd ?_
  all_goals exact Ap.mkZ hx [] ⟨rfl,rfl,rfl⟩
def pwr:Nat→BitVec 64→BitVec 64→BitVec 64→BitVec 64
 | 0,_,_,p=>p
 | k + 1,a,b,p=>if b=0#64 then p else pwr k (a * a) (b >>> 1) (if b &&& 1#64=1#64 then p * a else p)
theorem Sc (ok:OkP M) (a b:BitVec 64):Af M 323 [W a,W b] [] 0 (Q3 (W (pwr 64 a b 1#64)) [] 0):=by
 refine Ab ok.k323 rfl fun x hx=>?_
 generalize hF:pwr 64 a b 1#64=F
 refine es 2000 ?_;(simp only [Am5,Aku,LZ,seval])
 refine An (σ:=Nat × BitVec 64 × BitVec 64 × BitVec 64) (fun s=>pwr s.1 s.2.1 s.2.2.1 s.2.2.2=F∧s.2.2.1.toNat < 2 ^ s.1) (fun s=>fr 20 [(0,W s.2.1),(1,W s.2.2.1),(5,W s.2.2.2)]) (fun _=>[]) (fun _=>0) (fun s=>s.1) (64,a,b,1#64) ⟨hF,b.isLt⟩ ?_ ?_
 ·refine Ak.fr [] [] hx AQ Aj ?_ ?_
  ·simp only [LY,seval]
  ·trivial
 ·rintro ⟨k,a,b,p⟩ ⟨h1,h2⟩
  dsimp only at h1 h2
  refine es 2000 ?_
  by_cases h0:b=0#64
  ·subst h0
   have hp:p=F:=by
    cases k with
    | zero=>exact h1
    | succ k=>rw [pwr,if_pos rfl] at h1;exact h1
   subst hp
   (simp only [LZ,seval])
   exact Ap.mkZ hx [] ⟨rfl,rfl,rfl⟩
  ·have hg:(0#64 < b)=True:=eq_true (by
    rw [BitVec.lt_def]
    have:b.toNat ≠ 0:=fun h=>h0 (BitVec.eq_of_toNat_eq L7)
    show 0 < b.toNat;omega)
   cases k with
   | zero=>exact absurd (BitVec.eq_of_toNat_eq (by have:b.toNat < 1:=h2;show b.toNat=0;omega)) h0
   | succ k =>
     rw [pwr,if_neg h0] at h1
     have hs:(b >>> 1).toNat < 2 ^ k:=by
      rw [BitVec.toNat_ushiftRight,Nat.shiftRight_eq_div_pow]
      rw [Nat.pow_succ] at h2;omega
     by_cases h3:b &&& 1#64=1#64
     ·rw [if_pos h3] at h1
      (simp only [hg,h3,LZ,seval])
      refine ⟨(k,a * a,b >>> 1,p * a),h1,hs,by omega,?_⟩
      refine Ak.fr [] [] hx AQ Aj ?_ ?_
      ·simp only [LY,seval]
      ·trivial
     ·rw [if_neg h3] at h1
      (simp only [hg,h3,LZ,seval])
      refine ⟨(k,a * a,b >>> 1,p),h1,hs,by omega,?_⟩
      refine Ak.fr [] [] hx AQ Aj ?_ ?_
      ·simp only [LY,seval]
      ·trivial
variable {M:Seat}
def mhi (a b:BitVec 64):BitVec 64 :=
 (a >>> 32) * (b >>> 32) + (((a >>> 32) * (b &&& 4294967295#64) + ((a &&& 4294967295#64) * (b &&& 4294967295#64)) >>> 32) >>> 32)
  + ((((a >>> 32) * (b &&& 4294967295#64) + ((a &&& 4294967295#64) * (b &&& 4294967295#64)) >>> 32) &&& 4294967295#64) + (a &&& 4294967295#64) * (b >>> 32)) >>> 32
theorem K7 (ok:OkP M) (a b:BitVec 64):Af M 421 [W a,W b] [] 0 (Q3 (Ah (W (mhi a b)) (W (a * b))) [] 0):=by
 refine Ab ok.k421 rfl fun x hx=>?_
 have e32:(32#64).toNat=32:=rfl
 refine es 2000 ?_;(simp only [Am4,An2,e32,LZ,seval])
 exact Ap.mkZ hx [] ⟨rfl,rfl,rfl⟩
theorem Uk (a:BitVec 64):(a &&& 4294967295#64).toNat=a.toNat % 4294967296:=by
 have e:(4294967295#64).toNat=2 ^ 32 - 1:=Aj
 rw [BitVec.toNat_and,e,Nat.and_two_pow_sub_one_eq_mod]
theorem GB (a:BitVec 64):(a >>> 32).toNat=a.toNat / 4294967296:=by
 rw [BitVec.toNat_ushiftRight,Nat.shiftRight_eq_div_pow]
theorem Pn {p q:Nat} (hp:p < 4294967296) (hq:q < 4294967296):p * q≤18446744065119617025:=by
 have:=Nat.mul_le_mul (show p≤4294967295 by omega) (show q≤4294967295 by omega)
 omega
theorem Z3 {p q:BitVec 64} (hp:p.toNat < 4294967296) (hq:q.toNat < 4294967296):(p * q).toNat=p.toNat * q.toNat:=by
 have:=Pn hp hq
 rw [BitVec.toNat_mul,Nat.mod_eq_of_lt Aa]
theorem X1 {p q:BitVec 64} (h:p.toNat + q.toNat < 18446744073709551616):(p + q).toNat=p.toNat + q.toNat:=by
 rw [BitVec.toNat_add,Nat.mod_eq_of_lt Aa]
theorem Sz (a b:BitVec 64):(mhi a b).toNat=a.toNat * b.toNat / 18446744073709551616:=by
 have ha:=a.isLt
 have hb:=b.isLt
 have l1:(a &&& 4294967295#64).toNat < 4294967296:=by rw [Uk];omega
 have l2:(b &&& 4294967295#64).toNat < 4294967296:=by rw [Uk];omega
 have l3:(a >>> 32).toNat < 4294967296:=by rw [GB];omega
 have l4:(b >>> 32).toNat < 4294967296:=by rw [GB];omega
 have m1:=Z3 l1 l2
 have m2:=Z3 l3 l2
 have m3:=Z3 l1 l4
 have m4:=Z3 l3 l4
 have b1:=Pn l1 l2
 have b2:=Pn l3 l2
 have b3:=Pn l1 l4
 have b4:=Pn l3 l4
 have ea:a.toNat=(a >>> 32).toNat * 4294967296 + (a &&& 4294967295#64).toNat:=by rw [Uk,GB];omega
 have eb:b.toNat=(b >>> 32).toNat * 4294967296 + (b &&& 4294967295#64).toNat:=by rw [Uk,GB];omega
 have ep:a.toNat * b.toNat=(a >>> 32).toNat * (b >>> 32).toNat * 18446744073709551616 + ((a >>> 32).toNat * (b &&& 4294967295#64).toNat + (a &&& 4294967295#64).toNat * (b >>> 32).toNat) * 4294967296 + (a &&& 4294967295#64).toNat * (b &&& 4294967295#64).toNat:=by
  rw [ea,eb]
  generalize (a >>> 32).toNat=p
  generalize (b >>> 32).toNat=q
  generalize (a &&& 4294967295#64).toNat=r
  generalize (b &&& 4294967295#64).toNat=s
  rw [Nat.add_mul,Nat.mul_add,Nat.mul_add,Nat.mul_mul_mul_comm,Nat.mul_right_comm p _ s,← Nat.mul_assoc r q,Nat.add_mul]
  omega
 rw [ep]
 unfold mhi
 generalize (a &&& 4294967295#64)=x0 at *
 generalize (b &&& 4294967295#64)=y0 at *
 generalize (a >>> 32)=x1 at *
 generalize (b >>> 32)=y1 at *
 have t1:(x1 * y0 + (x0 * y0) >>> 32).toNat=x1.toNat * y0.toNat + x0.toNat * y0.toNat / 4294967296:=by
  rw [X1 (by rw [GB,m1,m2];omega),GB,m1,m2]
 have t2:(((x1 * y0 + (x0 * y0) >>> 32) &&& 4294967295#64) + x0 * y1).toNat=(x1.toNat * y0.toNat + x0.toNat * y0.toNat / 4294967296) % 4294967296 + x0.toNat * y1.toNat:=by
  rw [X1 (by rw [Uk,t1,m3];omega),Uk,t1,m3]
 have t3:(x1 * y1 + (x1 * y0 + (x0 * y0) >>> 32) >>> 32).toNat=x1.toNat * y1.toNat + (x1.toNat * y0.toNat + x0.toNat * y0.toNat / 4294967296) / 4294967296:=by
  rw [X1 (by rw [GB,t1,m4];omega),GB,t1,m4]
 rw [X1 (by rw [GB,t2,t3];omega),GB,t2,t3]
 omega
def I7 (i:Nat):Nat:=((Aao[i]?).getD 0).toNat
theorem EW:∀ i,i < 256→I7 i≤8∧(i ≠ 0→1≤I7 i∧2 ^ (I7 i - 1)≤i∧i < 2 ^ I7 i):=by
 have h:(List.range 256).all (fun i=>decide (I7 i≤8) && (i == 0 || (decide (1≤I7 i) && decide (2 ^ (I7 i - 1)≤i) && decide (i < 2 ^ I7 i))))=true:=by kernel_rfl
 intro i hi
 have:=List.all_eq_true.1 h i (List.mem_range.2 hi)
 simp only [Bool.and_eq_true,Bool.or_eq_true,beq_iff_eq,decide_eq_true_eq] at this
 exact ⟨this.1,fun h0=>by rcases this.2 with h | h;exact absurd h h0;exact ⟨h.1.1,h.1.2,h.2⟩⟩
def PJ (x:BitVec 64):Nat × BitVec 64:=if 4294967296#64≤x then (32,x >>> 32) else (0,x)
def Ou (s:Nat × BitVec 64):Nat × BitVec 64:=if 65536#64≤s.2 then (s.1 + 16,s.2 >>> 16) else s
def L3 (s:Nat × BitVec 64):Nat × BitVec 64:=if 256#64≤s.2 then (s.1 + 8,s.2 >>> 8) else s
def CZ (x:BitVec 64):Nat:=(L3 (Ou (PJ x))).1 + I7 (L3 (Ou (PJ x))).2.toNat
theorem Uc {n t i x:Nat} (hi:x / 2 ^ n=i) (h1:1≤t) (h2:2 ^ (t - 1)≤i) (h3:i < 2 ^ t):2 ^ (n + t - 1)≤x∧x < 2 ^ (n + t):=by
 have hp:0 < 2 ^ n:=Nat.two_pow_pos n
 have e1:2 ^ (n + t - 1)=2 ^ (t - 1) * 2 ^ n:=VX
 have e2:2 ^ (n + t)=2 ^ t * 2 ^ n:=VX
 rw [e1,e2]
 subst hi
 exact ⟨Nat.le_trans (Nat.mul_le_mul_right _ h2) (Nat.div_mul_le_self x _),(Nat.div_lt_iff_lt_mul hp).1 h3⟩
theorem O6 (x:BitVec 64):∃ n,(L3 (Ou (PJ x))).1=n∧n≤56∧(L3 (Ou (PJ x))).2.toNat < 256∧x.toNat / 2 ^ n=(L3 (Ou (PJ x))).2.toNat∧(x ≠ 0#64→(L3 (Ou (PJ x))).2.toNat ≠ 0):=by
 have hx:=x.isLt
 have hz:x ≠ 0#64→x.toNat ≠ 0:=fun h h'=>h (BitVec.eq_of_toNat_eq (by simpa using h'))
 have e1:(4294967296#64).toNat=4294967296:=rfl
 have e2:(65536#64).toNat=65536:=rfl
 have e3:(256#64).toNat=256:=rfl
 by_cases h1:4294967296#64≤x
 all_goals simp only [PJ,h1,C2,Ou]
 ·have g1:=h1
  rw [BitVec.le_def,e1] at g1
  by_cases h2:65536#64≤x >>> 32
  all_goals simp only [h2,C2,L3]
  ·have g2:=h2
   rw [BitVec.le_def,e2,BitVec.toNat_ushiftRight,Nat.shiftRight_eq_div_pow] at g2
   by_cases h3:256#64≤x >>> 32 >>> 16
   all_goals simp only [h3,C2]
   all_goals (have g3:=h3;rw [BitVec.le_def,e3,BitVec.toNat_ushiftRight,Nat.shiftRight_eq_div_pow,BitVec.toNat_ushiftRight,Nat.shiftRight_eq_div_pow] at g3)
   all_goals try simp only [Lb4]
   ·exact ⟨56,rfl,by omega,by omega,by omega,by omega⟩
   ·exact ⟨48,rfl,by omega,by omega,by omega,by omega⟩
  ·have g2:=h2
   rw [BitVec.le_def,e2,BitVec.toNat_ushiftRight,Nat.shiftRight_eq_div_pow] at g2
   by_cases h3:256#64≤x >>> 32
   all_goals simp only [h3,C2]
   all_goals (have g3:=h3;rw [BitVec.le_def,e3,BitVec.toNat_ushiftRight,Nat.shiftRight_eq_div_pow] at g3)
   all_goals try simp only [Lb4]
   ·exact ⟨40,rfl,by omega,by omega,by omega,by omega⟩
   ·exact ⟨32,rfl,by omega,by omega,by omega,by omega⟩
 ·have g1:=h1
  rw [BitVec.le_def,e1] at g1
  by_cases h2:65536#64≤x
  all_goals simp only [h2,C2,L3]
  ·have g2:=h2
   rw [BitVec.le_def,e2] at g2
   by_cases h3:256#64≤x >>> 16
   all_goals simp only [h3,C2]
   all_goals (have g3:=h3;rw [BitVec.le_def,e3,BitVec.toNat_ushiftRight,Nat.shiftRight_eq_div_pow] at g3)
   all_goals try simp only [Lb4]
   ·exact ⟨24,rfl,by omega,by omega,by omega,by omega⟩
   ·exact ⟨16,rfl,by omega,by omega,by omega,by omega⟩
  ·have g2:=h2
   rw [BitVec.le_def,e2] at g2
   by_cases h3:256#64≤x
   all_goals simp only [h3,C2]
   all_goals (have g3:=h3;rw [BitVec.le_def,e3] at g3)
   all_goals try simp only [Lb4]
   ·exact ⟨8,rfl,by omega,by omega,by omega,by omega⟩
   ·exact ⟨0,rfl,by omega,by omega,by omega,by omega⟩
theorem Kg (x:BitVec 64):CZ x≤64∧(x ≠ 0#64→1≤CZ x∧2 ^ (CZ x - 1)≤x.toNat∧x.toNat < 2 ^ CZ x):=by
 obtain ⟨n,h1,h2,h3,h4,h5⟩:=O6 x
 obtain ⟨q1,q2⟩:=EW _ h3
 unfold CZ
 rw [h1]
 refine ⟨by omega,fun h0=>?_⟩
 obtain ⟨k1,k2,k3⟩:=q2 (h5 h0)
 obtain ⟨j1,j2⟩:=Uc h4 k1 k2 k3
 exact ⟨by omega,j1,j2⟩
theorem Jr (b:BitVec 8) (H:Hp):XS (.str Aao) (B b) H=⟨True,.int .u8 (I7 b.toNat),H⟩:=by
 have h:=b.isLt
 have hs:Aao.size=256:=rfl
 show (⟨_,_,_⟩:Out)=_
 congr 1
 exact eq_true ⟨by omega,by rw [hs];omega⟩
theorem Jd {n:Nat} (h:n < 9223372036854775808):IntKind.i64.wrap (n:Int)=n:=B5 Aa
theorem HW (k:Int) (y:Nat) (hy:y < 256) (h0:0≤k) (h1:k≤56):IntKind.i64.wrap (k + (I7 y:Int))=k + (I7 y:Int):=by
 have:=(EW y hy).1
 rw [B5 Aa]
theorem GI (ok:OkP M) (a:BitVec 64):Af M 259 [W a] [] 0 (Q3 (.int .i64 (CZ a)) [] 0):=by
 refine Ab ok.k259 rfl fun x hx=>?_
 have e32:(32#64).toNat=32:=rfl
 have e16:(16#64).toNat=16:=rfl
 have e8:(8#64).toNat=8:=rfl
 have w0:IntKind.i64.wrap 0=0:=rfl
 have w1:IntKind.i64.wrap 48=48:=rfl
 have w2:IntKind.i64.wrap 56=56:=rfl
 have w3:IntKind.i64.wrap 40=40:=rfl
 have w4:IntKind.i64.wrap 16=16:=rfl
 have w5:IntKind.i64.wrap 24=24:=rfl
 have w6:IntKind.i64.wrap 8=8:=rfl
 have w7:IntKind.i64.wrap 32=32:=rfl
 have hlen:=O6 a
 unfold CZ
 have ht:∀ y:BitVec 64,y.toNat < 256→((BitVec.setWidth 8 y).toNat=y.toNat∧I7 y.toNat≤8):=fun y hy=>⟨by rw [BitVec.toNat_setWidth];omega,(EW _ hy).1⟩
 by_cases h1:4294967296#64≤a
 all_goals simp only [PJ,h1,C2,Ou] at hlen ⊢
 ·by_cases h2:65536#64≤a >>> 32
  all_goals simp only [h2,C2,L3] at hlen ⊢
  ·by_cases h3:256#64≤a >>> 32 >>> 16
   all_goals simp only [h3,C2] at hlen ⊢
   all_goals obtain ⟨n,hn,hn2,hy,-⟩:=hlen
   all_goals obtain ⟨hq,hk⟩:=ht _ hy
   all_goals (refine es 2000 ?_;(simp only [XT,Wv,e32,e16,e8,w0,w1,w2,w3,w4,w5,w6,w7,h1,h2,h3,Jr,hq,Jd (Nat.lt_of_le_of_lt hk (by decide:8 < 9223372036854775808)),HW 56 _ hy Aa Aa,HW 48 _ hy Aa Aa,HW 40 _ hy Aa Aa,HW 32 _ hy Aa Aa,HW 24 _ hy Aa Aa,HW 16 _ hy Aa Aa,HW 8 _ hy Aa Aa,Int.zero_add,Jd (Nat.lt_of_le_of_lt (EW _ hy).1 (by decide:8 < 9223372036854775808)),LZ,seval]);exact Ap.mkZ hx [] ⟨rfl,rfl,rfl⟩)
  ·by_cases h3:256#64≤a >>> 32
   all_goals simp only [h3,C2] at hlen ⊢
   all_goals obtain ⟨n,hn,hn2,hy,-⟩:=hlen
   all_goals obtain ⟨hq,hk⟩:=ht _ hy
   all_goals (refine es 2000 ?_;(simp only [XT,Wv,e32,e16,e8,w0,w1,w2,w3,w4,w5,w6,w7,h1,h2,h3,Jr,hq,Jd (Nat.lt_of_le_of_lt hk (by decide:8 < 9223372036854775808)),HW 56 _ hy Aa Aa,HW 48 _ hy Aa Aa,HW 40 _ hy Aa Aa,HW 32 _ hy Aa Aa,HW 24 _ hy Aa Aa,HW 16 _ hy Aa Aa,HW 8 _ hy Aa Aa,Int.zero_add,Jd (Nat.lt_of_le_of_lt (EW _ hy).1 (by decide:8 < 9223372036854775808)),LZ,seval]);exact Ap.mkZ hx [] ⟨rfl,rfl,rfl⟩)
 ·by_cases h2:65536#64≤a
  all_goals simp only [h2,C2,L3] at hlen ⊢
  ·by_cases h3:256#64≤a >>> 16
   all_goals simp only [h3,C2] at hlen ⊢
   all_goals obtain ⟨n,hn,hn2,hy,-⟩:=hlen
   all_goals obtain ⟨hq,hk⟩:=ht _ hy
   all_goals (refine es 2000 ?_;(simp only [XT,Wv,e32,e16,e8,w0,w1,w2,w3,w4,w5,w6,w7,h1,h2,h3,Jr,hq,Jd (Nat.lt_of_le_of_lt hk (by decide:8 < 9223372036854775808)),HW 56 _ hy Aa Aa,HW 48 _ hy Aa Aa,HW 40 _ hy Aa Aa,HW 32 _ hy Aa Aa,HW 24 _ hy Aa Aa,HW 16 _ hy Aa Aa,HW 8 _ hy Aa Aa,Int.zero_add,Jd (Nat.lt_of_le_of_lt (EW _ hy).1 (by decide:8 < 9223372036854775808)),LZ,seval]);exact Ap.mkZ hx [] ⟨rfl,rfl,rfl⟩)
  ·by_cases h3:256#64≤a
   all_goals simp only [h3,C2] at hlen ⊢
   all_goals obtain ⟨n,hn,hn2,hy,-⟩:=hlen
   all_goals obtain ⟨hq,hk⟩:=ht _ hy
   all_goals (refine es 2000 ?_;(simp only [XT,Wv,e32,e16,e8,w0,w1,w2,w3,w4,w5,w6,w7,h1,h2,h3,Jr,hq,Jd (Nat.lt_of_le_of_lt hk (by decide:8 < 9223372036854775808)),HW 56 _ hy Aa Aa,HW 48 _ hy Aa Aa,HW 40 _ hy Aa Aa,HW 32 _ hy Aa Aa,HW 24 _ hy Aa Aa,HW 16 _ hy Aa Aa,HW 8 _ hy Aa Aa,Int.zero_add,Jd (Nat.lt_of_le_of_lt (EW _ hy).1 (by decide:8 < 9223372036854775808)),LZ,seval]);exact Ap.mkZ hx [] ⟨rfl,rfl,rfl⟩)
theorem Qc (ok:OkP M) (a:BitVec 64):Af M 463 [W a] [] 0 (Q3 (.int .i64 ((64 - CZ a:Nat):Int)) [] 0):=by
 refine Ab ok.k463 rfl fun x hx=>?_
 have h:=(Kg a).1
 have w:IntKind.i64.wrap (64 - (CZ a:Int))=((64 - CZ a:Nat):Int):=Bw
 refine es 2000 ?_;(simp only [Amu,Aj9,LZ,seval])
 refine Ai (GI ok a) ?_
 (simp only [w,LZ,seval])
 exact Ap.mkZ hx [] ⟨rfl,rfl,rfl⟩
end Mv
namespace Mv
def dl (y1 y0 u:BitVec 64):Nat→BitVec 64→BitVec 64→BitVec 64
 | 0,q,_=>q
 | k + 1,q,r=>if 4294967296#64≤q ∨ 4294967296#64 * r + u < q * y0 then (if 4294967296#64≤r + y1 then q - 1#64 else dl y1 y0 u k (q - 1#64) (r + y1)) else q
theorem Ac7 {a b:Nat} (ha:a≤4294967297) (hb:b < 4294967296):a * b < 18446744073709551616:=by
 have:=Nat.mul_le_mul ha (show b≤4294967295 by omega)
 omega
theorem Anc (y1 y0 v:BitVec 64) (Y u:Nat) (hy:Y=y1.toNat * 4294967296 + y0.toNat) (h0:y0.toNat < 4294967296) (hv:v.toNat < 4294967296) (h1:2147483648≤y1.toNat) (h1':y1.toNat < 4294967296) (hu:u < Y) :
 ∀ (k:Nat) (q r:BitVec 64),q.toNat * y1.toNat + r.toNat=u→r.toNat < 4294967296→(u * 4294967296 + v.toNat) / Y≤q.toNat→q.toNat≤4294967297→4294967296 - r.toNat≤k →
  (dl y1 y0 v k q r).toNat=(u * 4294967296 + v.toNat) / Y:=by
 intro k
 have hY:0 < Y:=Aa
 induction k with
 | zero=>intro q r _ hr _ _ hk;omega
 | succ k ih =>
   intro q r hqr hr hQ hq hk
   have eN:(4294967296#64:BitVec 64).toNat=4294967296:=rfl
   have e1:(4294967296#64 * r + v).toNat=4294967296 * r.toNat + v.toNat:=by
    rw [BitVec.toNat_add,BitVec.toNat_mul,eN,Nat.mod_eq_of_lt (a:=4294967296 * r.toNat) Aa,Nat.mod_eq_of_lt Aa]
   have e2:(q * y0).toNat=q.toNat * y0.toNat:=by rw [BitVec.toNat_mul,Nat.mod_eq_of_lt (Ac7 hq h0)]
   have e3:(r + y1).toNat=r.toNat + y1.toNat:=by rw [BitVec.toNat_add,Nat.mod_eq_of_lt Aa]
   have eqY:q.toNat * Y=q.toNat * y1.toNat * 4294967296 + q.toNat * y0.toNat:=Aie
   have hN:u * 4294967296 + v.toNat < Y * 4294967296:=by
    have:(u + 1) * 4294967296≤Y * 4294967296:=Nat.mul_le_mul_right _ hu
    omega
   rw [dl]
   by_cases c:4294967296#64≤q ∨ 4294967296#64 * r + v < q * y0
   ·rw [if_pos c]
    have hlt:(u * 4294967296 + v.toNat) / Y < q.toNat:=by
     apply (Nat.div_lt_iff_lt_mul hY).2
     rcases c with c | c
     ·have c:4294967296≤q.toNat:=c
      have:4294967296 * Y≤q.toNat * Y:=Nat.mul_le_mul_right _ c
      omega
     ·have c':4294967296 * r.toNat + v.toNat < q.toNat * y0.toNat:=by rw [BitVec.lt_def,e1,e2] at c;exact c
      have e5:u * 4294967296=q.toNat * y1.toNat * 4294967296 + r.toNat * 4294967296:=by rw [← hqr];exact Nat.add_mul _ _ _
      omega
    have hq1:1≤q.toNat:=Nat.lt_of_le_of_lt (Nat.zero_le _) hlt
    have e4:(q - 1#64).toNat=q.toNat - 1:=by
     rw [BitVec.toNat_sub]
     show (18446744073709551616 - 1 + q.toNat) % 18446744073709551616=_
     omega
    obtain ⟨p,hp⟩:∃ p,q.toNat=p + 1:=⟨q.toNat - 1,by omega⟩
    have hpy:(p + 1) * y1.toNat=p * y1.toNat + y1.toNat:=by rw [Nat.add_mul,Nat.one_mul]
    have hpu:p * y1.toNat + (r.toNat + y1.toNat)=u:=by rw [hp,hpy] at hqr;omega
    by_cases c3:4294967296#64≤r + y1
    ·rw [if_pos c3,e4,hp,Nat.add_sub_cancel]
     rw [BitVec.le_def,e3,eN] at c3
     have hpl:p < 4294967296:=by
      rcases Nat.lt_or_ge p 4294967296 with h | h
      ·exact h
      ·have:4294967296 * y1.toNat≤p * y1.toNat:=Nat.mul_le_mul_right _ h
       omega
     have hp0:p * y0.toNat≤4294967295 * 4294967295:=Nat.mul_le_mul Aa Aa
     have hle:p≤(u * 4294967296 + v.toNat) / Y:=by
      apply (Nat.le_div_iff_mul_le hY).2
      have e5:u * 4294967296=p * y1.toNat * 4294967296 + (r.toNat + y1.toNat) * 4294967296:=by rw [← hpu];exact Nat.add_mul _ _ _
      have:p * Y=p * y1.toNat * 4294967296 + p * y0.toNat:=Aie
      omega
     omega
    ·rw [if_neg c3]
     rw [BitVec.le_def,e3,eN] at c3
     exact ih (q - 1#64) (r + y1) (by rw [e4,e3,hp,Nat.add_sub_cancel];exact hpu) (by rw [e3];omega) (by rw [e4];omega) (by rw [e4];omega) (by rw [e3];omega)
   ·rw [if_neg c]
    have c2:¬ 4294967296 * r.toNat + v.toNat < q.toNat * y0.toNat:=by
     intro h;apply c;right;rw [BitVec.lt_def,e1,e2];exact h
    apply Nat.le_antisymm _ hQ
    apply (Nat.le_div_iff_mul_le hY).2
    have e5:u * 4294967296=q.toNat * y1.toNat * 4294967296 + r.toNat * 4294967296:=by rw [← hqr];exact Nat.add_mul _ _ _
    omega
theorem PW (y1 y0 v:BitVec 64) (Y:Nat) (u:BitVec 64) (hy:Y=y1.toNat * 4294967296 + y0.toNat) (h0:y0.toNat < 4294967296) (hv:v.toNat < 4294967296) (h1:2147483648≤y1.toNat) (h1':y1.toNat < 4294967296) (hu:u.toNat < Y) (q r:BitVec 64) (hq:u / y1=q) (hr:u - q * y1=r) :
 (dl y1 y0 v 4294967296 q r).toNat=(u.toNat * 4294967296 + v.toNat) / Y:=by
 have hY:0 < Y:=Aa
 have eq:q.toNat=u.toNat / y1.toNat:=by rw [← hq,BitVec.toNat_udiv]
 have hle:q.toNat * y1.toNat≤u.toNat:=by rw [eq];exact Nat.div_mul_le_self _ _
 have hul:=u.isLt
 have er:r.toNat=u.toNat - q.toNat * y1.toNat:=by
  rw [← hr,BitVec.toNat_sub,BitVec.toNat_mul,Nat.mod_eq_of_lt (a:=q.toNat * y1.toNat) Aa]
  omega
 have hrl:r.toNat < y1.toNat:=by
  have:=Nat.div_add_mod u.toNat y1.toNat
  have h2:=Nat.mod_lt u.toNat (show y1.toNat > 0 by omega)
  rw [Nat.mul_comm] at this
  rw [er,eq];omega
 refine Anc y1 y0 v Y u.toNat hy h0 hv h1 h1' hu _ q r (by rw [er];omega) Aa ?_ ?_ (Nat.sub_le _ _)
 ·
  have:(u.toNat * 4294967296 + v.toNat) / Y < q.toNat + 1:=by
   apply (Nat.div_lt_iff_lt_mul hY).2
   have e:(q.toNat + 1) * Y=(q.toNat + 1) * y1.toNat * 4294967296 + (q.toNat + 1) * y0.toNat:=Aie
   have e2:(q.toNat + 1) * y1.toNat=q.toNat * y1.toNat + y1.toNat:=by rw [Nat.add_mul,Nat.one_mul]
   omega
  omega
 ·rcases Nat.lt_or_ge 4294967297 q.toNat with h | h
  ·have:4294967298 * y1.toNat≤q.toNat * y1.toNat:=Nat.mul_le_mul_right _ h
   omega
  ·exact h
theorem Ai1 (x y:BitVec 64) (m k q:Nat) (hx:x.toNat=k) (hy:y.toNat=q) (hq:q < 2 ^ m) (h:k * 2 ^ m < 18446744073709551616):(x <<< m ||| y).toNat=k * 2 ^ m + q:=by
 rw [BitVec.toNat_or,BitVec.toNat_shiftLeft,hx,hy,Nat.shiftLeft_eq,Nat.mod_eq_of_lt h,← Nat.shiftLeft_eq,Nat.shiftLeft_add_eq_or_of_lt hq]
theorem X0 (u v F Y:BitVec 64) (N:Nat) (hN:N=u.toNat * 4294967296 + v.toNat) (h:F.toNat * Y.toNat≤N):u * 4294967296#64 + v - F * Y=BitVec.ofNat 64 (N - F.toNat * Y.toNat):=by
 have e1:u * 4294967296#64 + v=BitVec.ofNat 64 N:=by
  apply BitVec.eq_of_toNat_eq
  rw [BitVec.toNat_add,BitVec.toNat_mul,hN,BitVec.toNat_ofNat,BitVec.toNat_ofNat,Nat.mod_eq_of_lt (a:=4294967296) Aj,Nat.mod_add_mod]
 have e2:F * Y=BitVec.ofNat 64 (F.toNat * Y.toNat):=by
  apply BitVec.eq_of_toNat_eq
  rw [BitVec.toNat_mul,BitVec.toNat_ofNat]
 have e3:BitVec.ofNat 64 N=BitVec.ofNat 64 (N - F.toNat * Y.toNat) + BitVec.ofNat 64 (F.toNat * Y.toNat):=by
  rw [← BitVec.ofNat_add];congr 1;omega
 rw [e1,e2,e3,BitVec.add_sub_cancel]
theorem Aen (hi lo y s Y u v y1 yl v1 v0 q1 r1 F u2 q0 r0 G:BitVec 64) (h:hi < y) (hs:s.toNat < 64) (hyl64:y.toNat * 2 ^ s.toNat < 18446744073709551616)
 (hY:y <<< s.toNat=Y) (hu:hi <<< s.toNat ||| lo >>> (64#64 - s).toNat=u) (hv:lo <<< s.toNat=v) (hy1:Y >>> 32=y1) (b1:2147483648≤y1.toNat) (hyl:Y &&& 4294967295#64=yl)
 (hv1:v >>> 32=v1) (hv0:v &&& 4294967295#64=v0) (hq1:u / y1=q1) (hr1:u - q1 * y1=r1) (hF:dl y1 yl v1 4294967296 q1 r1=F) (hu2:u * 4294967296#64 + v1 - F * Y=u2)
 (hq0:u2 / y1=q0) (hr0:u2 - q0 * y1=r0) (hG:dl y1 yl v0 4294967296 q0 r0=G) :
 ((u2 * 4294967296#64 + v0 - G * Y) >>> s.toNat).toNat=(hi.toNat * 18446744073709551616 + lo.toNat) % y.toNat:=by
 have I0:∀ x:BitVec 64,(x &&& 4294967295#64).toNat=x.toNat % 4294967296:=fun x=>by
  rw [BitVec.toNat_and,show (4294967295#64:BitVec 64).toNat=2 ^ 32 - 1 from rfl,Nat.and_two_pow_sub_one_eq_mod]
 have shr:∀ x:BitVec 64,(x >>> 32).toNat=x.toNat / 4294967296:=fun x=>by
  rw [BitVec.toNat_ushiftRight,Nat.shiftRight_eq_div_pow]
 have hlt:hi.toNat < y.toNat:=h
 have hlo:=lo.isLt
 have hp:0 < 2 ^ s.toNat:=Nat.two_pow_pos _
 have hpp:2 ^ (64 - s.toNat) * 2 ^ s.toNat=18446744073709551616:=by rw [← Nat.pow_add,show 64 - s.toNat + s.toNat=64 by omega]
 have eYn:Y.toNat=y.toNat * 2 ^ s.toNat:=by
  rw [← hY,BitVec.toNat_shiftLeft,Nat.shiftLeft_eq,Nat.mod_eq_of_lt hyl64]
 have e64:(64#64 - s).toNat=64 - s.toNat:=by
  rw [BitVec.toNat_sub_of_le (by rw [BitVec.le_def];show s.toNat≤64;omega)];rfl
 have elo:lo.toNat * 2 ^ s.toNat / 18446744073709551616=lo.toNat / 2 ^ (64 - s.toNat):=by
  rw [← hpp,Nat.mul_div_mul_right _ _ hp]
 have hq:lo.toNat / 2 ^ (64 - s.toNat) < 2 ^ s.toNat:=by
  apply (Nat.div_lt_iff_lt_mul (Nat.two_pow_pos _)).2
  rw [Nat.mul_comm,hpp];exact hlo
 have hhi:hi.toNat * 2 ^ s.toNat < 18446744073709551616:=Nat.lt_of_le_of_lt (Nat.mul_le_mul_right _ (Nat.le_of_lt hlt)) hyl64
 have eu:u.toNat=hi.toNat * 2 ^ s.toNat + lo.toNat / 2 ^ (64 - s.toNat):=by
  rw [← hu]
  exact Ai1 hi _ s.toNat _ _ rfl (by rw [e64,BitVec.toNat_ushiftRight,Nat.shiftRight_eq_div_pow]) hq hhi
 have ev:v.toNat=lo.toNat * 2 ^ s.toNat % 18446744073709551616:=by
  rw [← hv,BitVec.toNat_shiftLeft,Nat.shiftLeft_eq]
 have eM:(hi.toNat * 18446744073709551616 + lo.toNat) * 2 ^ s.toNat=u.toNat * 18446744073709551616 + v.toNat:=by
  have e:=Nat.div_add_mod (lo.toNat * 2 ^ s.toNat) 18446744073709551616
  rw [Nat.add_mul,eu,ev,← elo,Nat.add_mul,Nat.mul_right_comm]
  omega
 have huY:u.toNat < Y.toNat:=by
  have h1:(hi.toNat * 18446744073709551616 + lo.toNat) * 2 ^ s.toNat < Y.toNat * 18446744073709551616:=by
   rw [eYn,Nat.mul_right_comm]
   apply Nat.mul_lt_mul_of_pos_right _ hp
   omega
  rw [eM] at h1
  omega
 have hYl:=Y.isLt
 have hvl:=v.isLt
 have ey:Y.toNat=y1.toNat * 4294967296 + yl.toNat:=by rw [← hy1,← hyl,shr,I0];omega
 have evv:v.toNat=v1.toNat * 4294967296 + v0.toNat:=by rw [← hv1,← hv0,shr,I0];omega
 have l0:yl.toNat < 4294967296:=by rw [← hyl,I0];omega
 have l1:y1.toNat < 4294967296:=by rw [← hy1,shr];omega
 have l2:v1.toNat < 4294967296:=by rw [← hv1,shr];omega
 have l3:v0.toNat < 4294967296:=by rw [← hv0,I0];omega
 have hYp:0 < Y.toNat:=Aa
 have f1:=PW y1 yl v1 Y.toNat u ey l0 l2 b1 l1 huY q1 r1 hq1 hr1
 rw [hF] at f1
 have d1:=Nat.div_add_mod (u.toNat * 4294967296 + v1.toNat) Y.toNat
 rw [← f1] at d1
 have m1:=Nat.mod_lt (u.toNat * 4294967296 + v1.toNat) hYp
 have c1:F.toNat * Y.toNat=Y.toNat * F.toNat:=Nat.mul_comm _ _
 have s1:=X0 u v1 F Y _ rfl (by rw [c1];omega)
 rw [hu2] at s1
 have eu2:u2.toNat=(u.toNat * 4294967296 + v1.toNat) % Y.toNat:=by
  rw [s1,BitVec.toNat_ofNat,c1,Nat.mod_eq_of_lt Aa];omega
 have f2:=PW y1 yl v0 Y.toNat u2 ey l0 l3 b1 l1 (by rw [eu2];exact m1) q0 r0 hq0 hr0
 rw [hG] at f2
 have d2:=Nat.div_add_mod (u2.toNat * 4294967296 + v0.toNat) Y.toNat
 rw [← f2] at d2
 have m2:=Nat.mod_lt (u2.toNat * 4294967296 + v0.toNat) hYp
 have c2:G.toNat * Y.toNat=Y.toNat * G.toNat:=Nat.mul_comm _ _
 have s2:=X0 u2 v0 G Y _ rfl (by rw [c2];omega)
 have eR:(u2 * 4294967296#64 + v0 - G * Y).toNat=(u2.toNat * 4294967296 + v0.toNat) % Y.toNat:=by
  rw [s2,BitVec.toNat_ofNat,c2,Nat.mod_eq_of_lt Aa];omega
 rw [BitVec.toNat_ushiftRight,Nat.shiftRight_eq_div_pow,eR]
 have eMod:(u2.toNat * 4294967296 + v0.toNat) % Y.toNat=(u.toNat * 18446744073709551616 + v.toNat) % Y.toNat:=by
  have e:u.toNat * 18446744073709551616 + v.toNat=Y.toNat * (F.toNat * 4294967296) + (u2.toNat * 4294967296 + v0.toNat):=by
   have e5:Y.toNat * (F.toNat * 4294967296)=Y.toNat * F.toNat * 4294967296:=(Nat.mul_assoc _ _ _).symm
   rw [eu2,evv,e5]
   omega
  rw [e,Nat.mul_add_mod]
 rw [eMod,← eM,eYn,Nat.mul_mod_mul_right,Nat.mul_div_cancel _ hp]
end Mv
