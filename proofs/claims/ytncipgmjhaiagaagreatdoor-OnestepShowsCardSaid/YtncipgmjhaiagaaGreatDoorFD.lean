/- A part. -/
import Derived.Test.YtncipgmjhaiagaaGreatDoorEY
import Derived.Test.YtncipgmjhaiagaaGreatDoorFC
set_option linter.all false
set_option maxRecDepth 20000
set_option maxHeartbeats 4000000
namespace Mv
open Go
variable {M:Seat}
def JR (a:BitVec 64) (n:Nat):BitVec 64:=BitVec.ofNat 64 (a.toNat ^ n)
theorem MT (a:BitVec 64) (m n:Nat):JR a m * JR a n=JR a (m + n):=by
 apply BitVec.eq_of_toNat_eq
 rw [JR,JR,JR,BitVec.toNat_mul,BitVec.toNat_ofNat,BitVec.toNat_ofNat,BitVec.toNat_ofNat,← Nat.mul_mod,Nat.pow_add]
theorem Se (a:BitVec 64):JR a 1=a:=by
 apply BitVec.eq_of_toNat_eq
 rw [JR,BitVec.toNat_ofNat,Nat.pow_one,Nat.mod_eq_of_lt a.isLt]
theorem Afr (a:BitVec 64) (n:Nat):JR (a * a) n=JR a (2 * n):=by
 apply BitVec.eq_of_toNat_eq
 rw [JR,JR,BitVec.toNat_ofNat,BitVec.toNat_ofNat,BitVec.toNat_mul,← Nat.pow_mod,Nat.two_mul,Nat.pow_add,Nat.mul_pow]
theorem Wb:∀ (k:Nat) (a b p:BitVec 64),b.toNat < 2 ^ k→Yd k a b p=p * JR a b.toNat
 | 0, a, b, p, h => by
   have h0:b.toNat=0:=by have:b.toNat < 1:=h;omega
   rw [Yd,h0,JR,Nat.pow_zero,BitVec.mul_one]
 | k + 1, a, b, p, h => by
   rw [Yd]
   split
   ·rename_i h0
    rw [h0]
    show p=p * JR a 0
    rw [JR,Nat.pow_zero,BitVec.mul_one]
   ·have hs:(b >>> 1).toNat=b.toNat / 2:=by rw [BitVec.toNat_ushiftRight,Nat.shiftRight_eq_div_pow]
    rw [Wb k _ _ _ (by rw [hs];rw [Nat.pow_succ] at h;omega),Afr,hs]
    have e1:(b &&& 1#64).toNat=b.toNat % 2:=by rw [BitVec.toNat_and,show (1#64:BitVec 64).toNat=1 from rfl,Nat.and_one_is_mod]
    split
    ·rename_i h1
     rw [h1] at e1
     have e1:1=b.toNat % 2:=e1
     rw [BitVec.mul_assoc]
     congr 1
     have:a=JR a 1:=(Se a).symm
     conv=>lhs;lhs;rw [this]
     rw [MT]
     congr 1;omega
    ·rename_i h1
     have:b.toNat % 2 ≠ 1:=fun h=>h1 (BitVec.eq_of_toNat_eq (by rw [e1,h];rfl))
     congr 2;omega
theorem R7 (ok:OkX M) (a b c:BitVec 64):Af M 90 [.int .i64 10,W a,W b,W c] [] 0 (Q3 (Ao (W (Yd 64 a b 1#64)) (.int .i64 0)) [] 0):=by
 rw [Wb 64 a b 1#64 b.isLt,BitVec.one_mul]
 generalize hF:JR a b.toNat=F
 refine Ac ok.k90 rfl fun x hx=>?_
 refine es 2000 ?_;(simp only [YK,ZW,LZ,seval])
 refine Ag (σ:=Nat × BitVec 64) (fun s=>s.1≤64∧s.2=JR a (b.toNat / 2 ^ s.1)) (fun s=>fr 162 [(1,W a),(2,W b),(16,W s.2),(17,.int .i64 ((s.1:Int) - 1))]) (fun _=>[]) (fun _=>0) (fun s=>s.1) (64,1#64) ?_ ?_ ?_
 ·refine ⟨Nat.le_refl _,?_⟩
  show 1#64=_
  rw [Nat.div_eq_of_lt b.isLt,JR,Nat.pow_zero]
 ·refine Aj.fr [] [] hx Ax Ak ?_ ?_
  ·simp only [LY,seval]
  ·trivial
 ·rintro ⟨k,p⟩ ⟨hk,hp⟩
  dsimp only at hk hp
  refine es 2000 ?_
  cases k with
  | zero =>
    have hz:(((0:Nat):Int) - 1) = -1:=rfl
    rw [Nat.pow_zero,Nat.div_one] at hp
    have e1:p=F:=by rw [hp,hF]
    subst e1
    (simp only [hz,LZ,seval])
    have zz:=@Ao.eq_1;exact Bg hx [] ⟨rfl,rfl,rfl⟩
  | succ k =>
    have hz:(((k + 1:Nat):Int) - 1)=k:=Aa
    have g0:(0≤(k:Int))=True:=eq_true Aa
    have w1:IntKind.i64.wrap ((k:Int) - 1)=(k:Int) - 1:=AI Aa
    have w3:=Ih k Aa
    have hb:=Ajh b k
    have hd:b.toNat / 2 ^ (k + 1)=b.toNat / 2 ^ k / 2:=by rw [Nat.pow_succ,Nat.div_div_eq_div_mul]
    have hbb:b.getLsbD k=decide (b.toNat / 2 ^ k % 2=1):=by
     rw [BitVec.getLsbD,Nat.testBit,Nat.shiftRight_eq_div_pow,Nat.one_and_eq_mod_two]
     rcases Nat.mod_two_eq_zero_or_one (b.toNat / 2 ^ k) with h | h <;> rw [h] <;> rfl
    have hpp:p * p=JR a (b.toNat / 2 ^ k / 2 + b.toNat / 2 ^ k / 2):=by rw [hp,hd,MT]
    by_cases h1:b.toNat / 2 ^ k % 2=1
    ·rw [decide_eq_true h1] at hbb
     have hs:p * p * a=JR a (b.toNat / 2 ^ k):=by
      rw [hpp]
      conv=>lhs;rhs;rw [← Se a]
      rw [MT];congr 1;omega
     (simp only [hz,g0,w1,w3,hb,hbb,LZ,seval])
     refine ⟨(k,p * p * a),(show k≤64 by omega),hs,Nat.lt_succ_self k,?_⟩
     refine Aj.fr [] [] hx Ax Ak ?_ ?_
     ·simp only [LY,seval]
     ·trivial
    ·rw [decide_eq_false h1] at hbb
     have hs:p * p=JR a (b.toNat / 2 ^ k):=by rw [hpp];congr 1;omega
     (simp only [hz,g0,w1,w3,hb,hbb,LZ,seval])
     refine ⟨(k,p * p),(show k≤64 by omega),hs,Nat.lt_succ_self k,?_⟩
     refine Aj.fr [] [] hx Ax Ak ?_ ?_
     ·simp only [LY,seval]
     ·trivial
theorem X4 (a b:BitVec 64):(a ^^^ 9223372036854775808#64 < b ^^^ 9223372036854775808#64)=(a.toInt < b.toInt):=by
 have e:∀ a:BitVec 64,(a ^^^ 9223372036854775808#64).toNat=(a.toInt + 9223372036854775808).toNat:=by
  intro a
  have h1:(a ^^^ 9223372036854775808#64).toNat=a.toNat ^^^ 2 ^ 63:=by rw [BitVec.toNat_xor];rfl
  have d1:(a.toNat ^^^ 2 ^ 63) / 2 ^ 63=a.toNat / 2 ^ 63 ^^^ 1:=by rw [Nat.xor_div_two_pow]
  have d2:(a.toNat ^^^ 2 ^ 63) % 2 ^ 63=a.toNat % 2 ^ 63:=by rw [Nat.xor_mod_two_pow,Nat.mod_self,Nat.xor_zero]
  have:=a.isLt
  rw [h1,BitVec.toInt_eq_toNat_cond]
  by_cases h:a.toNat / 2 ^ 63=0
  ·rw [h] at d1
   have d1:(a.toNat ^^^ 2 ^ 63) / 2 ^ 63=1:=d1
   split <;> omega
  ·have h:a.toNat / 2 ^ 63=1:=Aa
   rw [h] at d1
   have d1:(a.toNat ^^^ 2 ^ 63) / 2 ^ 63=0:=d1
   split <;> omega
 have k1:=BitVec.toInt_lt (x:=a)
 have k2:=BitVec.le_toInt a
 have k3:=BitVec.toInt_lt (x:=b)
 have k4:=BitVec.le_toInt b
 have e63:(2:Int) ^ (64 - 1)=9223372036854775808:=Ak
 rw [e63] at k1 k2 k3 k4
 rw [BitVec.lt_def,e,e]
 apply propext
 omega
theorem Pj (hi lo c:BitVec 64) (n:Nat) (h:E4 hi lo=n):rsR hi lo c=BitVec.ofNat 64 (n % c.toNat):=by rw [rsR,h]
theorem Xw (a b:BitVec 64):E4 (UH a b) (a * b)=a.toNat * b.toNat:=by
 rw [E4,NJ,BitVec.toNat_mul]
 have:=Nat.div_add_mod (a.toNat * b.toNat) 18446744073709551616
 have e2:(2:Nat) ^ 64=18446744073709551616:=Ak
 rw [e2]
 omega
theorem Y8 (a b:BitVec 64):E4 (Vg (decide (a + b < a))) (a + b)=a.toNat + b.toNat:=by
 have h1:=a.isLt
 have h2:=b.isLt
 rw [E4,BitVec.toNat_add]
 by_cases h:a + b < a
 ·rw [decide_eq_true h]
  rw [BitVec.lt_def,BitVec.toNat_add] at h
  show 1 * 18446744073709551616 + _=_
  omega
 ·rw [decide_eq_false h]
  rw [BitVec.lt_def,BitVec.toNat_add] at h
  show 0 * 18446744073709551616 + _=_
  omega
theorem Ww (ok:OkX M) (a b c:BitVec 64):Af M 90 [.int .i64 8,W a,W b,W c] [] 0 (Q3 (Ao (W (P1 8 a b c)) (.int .i64 0)) [] 0):=by
 refine Ac ok.k90 rfl fun x hx=>?_
 by_cases hb:c=0#64
 ·subst hb
  refine es 2000 ?_;(simp only [YK,ZW,LZ,seval])
  have zz:=aq2 @Ao.eq_1 @P1.eq_1;exact Bg hx [] ⟨rfl,rfl,rfl⟩
 ·have z0:(c=0#64)=False:=eq_false hb
  have r1:=D6 ok (Vg (decide (a + b < a))) (a + b) c (M4 c hb)
  rw [Pj _ _ _ _ (Y8 a b)] at r1
  generalize hF:P1 8 a b c=F
  simp only [P1,seval,CD,or_true,true_or,or_self,or_false,z0] at hF
  rw [hF] at r1
  refine es 2000 ?_;(simp only [YK,ZW,z0,LZ,seval])
  refine Ah (Iw ok a b) ?_
  (simp only [Cb,seval])
  refine Ah (On ok _) ?_
  try (simp only [LZ,seval])
  refine Ah (r1) ?_
  (simp only [Cb,seval])
  have zz:=@Ao.eq_1;exact Bg hx [] ⟨rfl,rfl,rfl⟩
theorem WV (ok:OkX M) (a b c:BitVec 64):Af M 90 [.int .i64 9,W a,W b,W c] [] 0 (Q3 (Ao (W (P1 9 a b c)) (.int .i64 0)) [] 0):=by
 refine Ac ok.k90 rfl fun x hx=>?_
 by_cases hb:c=0#64
 ·subst hb
  refine es 2000 ?_;(simp only [YK,ZW,LZ,seval])
  have zz:=aq2 @Ao.eq_1 @P1.eq_1;exact Bg hx [] ⟨rfl,rfl,rfl⟩
 ·have z0:(c=0#64)=False:=eq_false hb
  have r1:=D6 ok (UH a b) (a * b) c (M4 c hb)
  rw [Pj _ _ _ _ (Xw a b)] at r1
  generalize hF:P1 9 a b c=F
  simp only [P1,seval,CD,or_true,true_or,or_self,or_false,z0] at hF
  rw [hF] at r1
  refine es 2000 ?_;(simp only [YK,ZW,z0,LZ,seval])
  refine Ah (Iw ok a b) ?_
  (simp only [Cb,seval])
  skip
  try (simp only [LZ,seval])
  refine Ah (r1) ?_
  (simp only [Cb,seval])
  have zz:=@Ao.eq_1;exact Bg hx [] ⟨rfl,rfl,rfl⟩
theorem N6 (ok:OkX M) (op:Nat) (h1:1≤op) (h2:op≤25) (a b c:BitVec 64):Af M 90 [.int .i64 op,W a,W b,W c] [] 0 (Q3 (Ao (W (P1 op a b c)) (.int .i64 0)) [] 0):=by
 have c1:((1:Nat):Int)=1:=rfl
 have h4:=VP ok a b
 have h5:=W7 ok a b
 have h6:=Yn ok a b
 have h7:=VV ok a b
 have h11:=Lw ok a b
 have h12:=Le ok a b
 have h13:=Lu ok a b
 have h14:=L1 ok a b
 have h15:=L9 ok a b
 have hf:=fun t=>On ok t
 have hop:op=8 ∨ op=9 ∨ op=10 ∨ op=1 ∨ op=2 ∨ op=22 ∨ op=23 ∨ op=24 ∨ op=25 ∨ op=16 ∨ op=17 ∨ op=18 ∨ op=19 ∨ op=20 ∨ op=21 ∨ op=3 ∨ op=4 ∨ op=5 ∨ op=6 ∨ op=7 ∨ op=11 ∨ op=12 ∨ op=13 ∨ op=14 ∨ op=15:=Aa
 rcases hop with rfl | rfl | rfl | rfl | rfl | rfl | rfl | rfl | rfl | rfl | rfl | rfl | rfl | rfl | rfl | rfl | rfl | rfl | rfl | rfl | rfl | rfl | rfl | rfl | rfl
 ·exact Ww ok a b c
 ·exact WV ok a b c
 ·exact R7 ok a b c
 all_goals
  generalize hF:P1 _ a b c=F
  simp only [P1,seval,CD,or_true,true_or,or_self,or_false] at hF
 iterate 6
  focus
   refine Ac ok.k90 rfl fun x hx=>?_
   refine es 2000 ?_;(simp only [YK,ZW,c1,Lbp,seval])
   subst hF
   have zz:=@Ao.eq_1;exact Bg hx [] ⟨rfl,rfl,rfl⟩
 iterate 6
  focus
   refine Ac ok.k90 rfl fun x hx=>?_
   refine es 2000 ?_;(simp only [YK,ZW,Lbp,X4,seval])
   refine Ah (hf _) ?_
   (simp only [LZ,seval])
   subst hF
   have zz:=@Ao.eq_1;exact Bg hx [] ⟨rfl,rfl,rfl⟩
 all_goals
  refine Ac ok.k90 rfl fun x hx=>?_
  refine es 2000 ?_;(simp only [YK,ZW,Lbp,seval])
  first
   | (refine Ah (Iw ok a b) ?_)
   | (refine Ah (h4) ?_)
   | (refine Ah (h5) ?_)
   | (refine Ah (h6) ?_)
   | (refine Ah (h7) ?_)
   | (refine Ah (h11) ?_)
   | (refine Ah (h12) ?_)
   | (refine Ah (h13) ?_)
   | (refine Ah (h14) ?_)
   | (refine Ah (h15) ?_)
  (simp only [Cb,seval])
  subst hF
  have zz:=@Ao.eq_1;exact Bg hx [] ⟨rfl,rfl,rfl⟩
variable {M:Seat}
theorem Fh (ok:OkV M) (f g:Nat→BitVec 64) (pc xt:BitVec 64) :
 Af M 70 [.ptr 0 [],.ptr 1 []] [(0,mach f g pc true xt)] 2 (Q3 .nili [(0,mach f g pc true xt)] 2):=by
 refine Ac ok.k70 rfl fun x hx=>?_
 refine es 2000 ?_;(simp only [P3,Qh,Ga,seval])
 refine ID hx [0,1] (.nili) ([(0,mach f g pc true xt)]) 2 ?_
 all_goals simp only [mach,LY,seval]
theorem MN (ok:OkV M) (f g:Nat→BitVec 64) (pc xt:BitVec 64) (hpc:8192#64≤pc) :
 Af M 70 [.ptr 0 [],.ptr 1 []] [(0,mach f g pc false xt)] 2 (Q3 .nili [(0,mach f g pc true Ap)] 2):=by
 refine Ac ok.k70 rfl fun x hx=>?_
 refine es 2000 ?_;(simp only [P3,Qh,Ga,eq_true hpc,seval])
 have zz:=@mach.eq_1;refine Fl [0] (Bw ok f g pc false xt Ap) ?_
 (simp only [Ga,seval])
 refine ID hx [0,1] (.nili) ([(0,mach f g pc true Ap)]) 2 ?_
 all_goals simp only [mach,LY,seval]
theorem NT (ok:OkV M) (f g:Nat→BitVec 64) (pc xt:BitVec 64) (hpc:¬ 8192#64≤pc) (w:BitVec 64) (hw:f pc.toNat=w) (h:¬ (AT w≤35∧w >>> 32 &&& 255#64=0#64)) :
 Af M 70 [.ptr 0 [],.ptr 1 []] [(0,mach f g pc false xt)] 2 (Q3 .nili [(0,mach f g pc true Ap)] 2):=by
 refine Ac ok.k70 rfl fun x hx=>?_
 have hp:pc.toNat < 8192:=BM
 refine es 2000 ?_;(simp only [P3,Qh,Ga,hpc,hw,seval])
 repeat refine sd ?_
 refine BI (GZ ok w h) ?_
 (simp only [LZ,seval])
 have zz:=@mach.eq_1;refine Fl [0] (Bw ok f g pc false xt Ap) ?_
 (simp only [Ga,seval])
 refine ID hx [0,1] (.nili) ([(0,mach f g pc true Ap)]) 2 ?_
 all_goals simp only [mach,LY,seval]
def Sm (op:Nat) (f g:Nat→BitVec 64) (pc xt:BitVec 64) (d a:Nat) (to:BitVec 64):V :=
 if (op=30∧¬ g a=0#64) ∨ (op=31∧g a=0#64) then mach f g (pc + 1#64) false xt
 else if 8192#64≤(if op=33 then g a else to) then mach f g pc true Ap
 else mach f (if op=32 then E9 g d (pc + 1#64) else g) (if op=33 then g a else to) false xt
theorem T9 (ok:OkV M) (op:Nat) (ho:op=29 ∨ op=30 ∨ op=31 ∨ op=32 ∨ op=33) (f g:Nat→BitVec 64) (pc xt:BitVec 64) (d a:Nat) (hd:d < 16) (ha:a < 16) (to:BitVec 64) :
 Af M 216 [.ptr 0 [],.int .i64 op,.int .i64 d,.int .i64 a,W to] [(0,mach f g pc false xt)] 1 (Q3 (.tup .fnil) [(0,Sm op f g pc xt d a to)] 1):=by
 refine Ac ok.k216 rfl fun x hx=>?_
 by_cases h0:g a=0#64 <;> by_cases h1:8192#64≤to <;> by_cases h2:8192#64≤g a <;> rcases ho with rfl | rfl | rfl | rfl | rfl
 all_goals simp only [Sm,h0,h1,h2,seval,Vj,true_and,false_and,or_false,not_false_eq_true,false_or]
 all_goals refine es 2000 ?_;(simp only [Afy,Amt,Ga,h0,h1,h2,Int.cast_ofNat_Int,seval])
 all_goals repeat refine sd ?_
 all_goals try ((have zz:=aq2 @mach.eq_1 Og;exact Bg hx [0] ⟨rfl,rfl,rfl⟩))
 all_goals
  have zz:=@mach.eq_1;refine Fl [0] (Bw ok f g pc false xt Ap) ?_
  (simp only [Ga,seval])
  have zz:=aq2 @mach.eq_1 Og;exact Bg hx [0] ⟨rfl,rfl,rfl⟩
theorem Cz (ok:OkV M) (op:Nat) (ho:op=29 ∨ op=30 ∨ op=31 ∨ op=32 ∨ op=33) (f g:Nat→BitVec 64) (pc xt:BitVec 64) (hpc:¬ 8192#64≤pc) (w:BitVec 64) (hw:f pc.toNat=w) (hop:AT w=op) (h2:w >>> 32 &&& 255#64=0#64) :
 Af M 70 [.ptr 0 [],.ptr 1 []] [(0,mach f g pc false xt)] 2 (Q3 .nili [(0,Sm op f g pc xt (pF w 52) (pF w 48) (BitVec.ofInt 64 (pN w)))] 2):=by
 refine Ac ok.k70 rfl fun x hx=>?_
 have hp:pc.toNat < 8192:=BM
 have a1:=Ai w 52
 have a2:=Ai w 48
 have d1:((op:Int)=0)=False:=eq_false Aa
 have d2:((op:Int) < 26)=False:=eq_false Aa
 have d3:((op:Int)=26)=False:=eq_false Aa
 have d4:((op:Int)=27)=False:=eq_false Aa
 have d5:((op:Int)=28)=False:=eq_false Aa
 have d6:((op:Int) < 34)=True:=eq_true Aa
 refine es 2000 ?_;(simp only [P3,Qh,Ga,hpc,hw,seval])
 repeat refine sd ?_
 have zz:=@Bb.eq_1;refine Gy (Az ok w Aa h2) ?_
 (simp only [Hi,hop,d1,d2,d3,d4,d5,d6,seval])
 repeat refine sd ?_
 have hS:∀ H m z,Aw H m z (Sm op f g pc xt (pF w 52) (pF w 48) (BitVec.ofInt 64 (pN w))) (Sm op f g pc xt (pF w 52) (pF w 48) (BitVec.ofInt 64 (pN w))):=by
  intro H m z
  unfold Sm
  repeat' split
  all_goals simp only [mach,LY,seval]
 have hN:AD (Sm op f g pc xt (pF w 52) (pF w 48) (BitVec.ofInt 64 (pN w))):=by
  unfold Sm
  repeat' split
  all_goals simp only [mach,AD,Ru,implies_true,and_self]
 have hR:∀ m,(Sm op f g pc xt (pF w 52) (pF w 48) (BitVec.ofInt 64 (pN w))).ren m=Sm op f g pc xt (pF w 52) (pF w 48) (BitVec.ofInt 64 (pN w)):=by
  intro m
  unfold Sm
  repeat' split
  all_goals rfl
 have zz:=aq2 @mach.eq_1 hN;refine Fl [0] (T9 ok op ho f g pc xt (pF w 52) (pF w 48) Aa Aa (BitVec.ofInt 64 (pN w))) ?_
 (simp only [hR,LZ,seval])
 have zz:=hS;exact Bg hx [0,1] ⟨rfl,rfl,rfl⟩
variable {M:Seat}
structure OkO (M:Seat):Prop extends OkW M where
 k308:Al M 308 Aia=true
 k327:Al M 327 ZF=true
 k326:Al M 326 Ad2=true
 k217:Al M 217 Li=true
theorem AY (ok:OkO M) (a b:BitVec 64):Af M 326 [W a,W b] [] 0 (Q3 (.bool (decide (a≤8192#64) && decide (b≤8192#64 - a))) [] 0):=by
 refine Ac ok.k326 rfl fun x hx=>?_
 rcases Classical.propComplete (a≤8192#64) with h | h
 all_goals refine es 2000 ?_;(simp only [Ad2,Ajw,h,LZ,seval])
 all_goals try simp only [h,decide_true,decide_false,Bool.true_and,Bool.false_and]
 all_goals exact Aq.mkZ hx [] ⟨rfl,rfl,rfl⟩
theorem Aqq (ok:OkO M) (k72:Al M 72 f72=true) (w:WS) :Af M 72 [.ptr 0 []] [(0,QI (.nils)),(1,Bv At Pr.zero w.pres)] 5 (Q3 (.int .i64 w.pres.length) [(0,QI (.nils)),(1,Bv At Pr.zero w.pres)] 5):=by
 refine Ac k72 rfl fun x hx=>?_
 have hl:∀ H:Hp,hget H 1=Bv At Pr.zero w.pres→Ae H 1=true→TB 2 (.map 1) H=⟨True,.int .i64 w.pres.length,H⟩:=by
  intro H h h'
  rw [Aq9,h];simp only [Bv,h']
 refine es 2000 ?_;(simp only [f72,c72,QI,BA,hl,seval])
 have zz:=aq2 @QI.eq_1 @C6;exact Bg hx [0,1,2,3,4] ⟨rfl,rfl,rfl⟩
theorem Aqp (ok:OkO M) (k72:Al M 72 f72=true) (w:WS) (n:Nat):Af M 72 [.ptr 0 []] [(0,QI (.sl 5 [] 0 n 32)),(1,Bv At Pr.zero w.pres)] 6 (Q3 (.int .i64 w.pres.length) [(0,QI (.sl 5 [] 0 n 32)),(1,Bv At Pr.zero w.pres)] 6):=by
 refine Ac k72 rfl fun x hx=>?_
 have hl:∀ H:Hp,hget H 1=Bv At Pr.zero w.pres→Ae H 1=true→TB 2 (.map 1) H=⟨True,.int .i64 w.pres.length,H⟩:=by
  intro H h h'
  rw [Aq9,h];simp only [Bv,h']
 refine es 2000 ?_;(simp only [f72,c72,QI,BA,hl,seval])
 have zz:=aq2 @QI.eq_1 @C6;exact Bg hx [0,1,2,3,4,5] ⟨rfl,rfl,rfl⟩
def Jp (p:Nat→BitVec 8):Nat→BitVec 64
 | 0=>0
 | k + 1=>(Jp p k <<< (8#64).toNat) ||| (p k).setWidth 64
theorem Dh (ok:OkO M) (n:Nat) (hn:8≤n) (p:Nat→BitVec 8):Af M 308 [.lst 1 n (fun j=>B (p j))] [] 0 (Q3 (W (Jp p 8)) [] 0):=by
 refine Ac ok.k308 rfl fun x hx=>?_
 refine es 2000 ?_;(simp only [Aia,Alj,BA,seval])
 repeat refine sd ?_
 refine Ag (σ:=Nat) (fun i=>i≤8) (fun i=>fr 20 [(7,.lst 1 8 fun j=>B (p j)),(8,.int .i64 8),(9,.int .i64 i),(3,W (Jp p i))]) (fun _=>[]) (fun _=>0) (fun i=>8 - i) 0 Aa ?_ ?_
 ·refine Aj.fr [] [] hx Ax Ak ?_ ?_
  ·simp only [Jp,LY,seval]
  ·trivial
 ·intro i hi
  refine es 2000 ?_
  by_cases h8:i=8
  ·subst h8
   (simp only [LZ,seval])
   exact Aq.mkZ hx [] ⟨rfl,rfl,rfl⟩
  ·have d0:((i:Int) < 8)=True:=eq_true Aa
   have w0:IntKind.i64.wrap ((i:Int) + 1)=((i + 1:Nat):Int):=A9
   (simp only [d0,w0,LZ,seval])
   repeat refine sd ?_
   refine ⟨i + 1,by omega,by omega,?_⟩
   refine Aj.fr [] [] hx Ax Ak ?_ ?_
   ·simp only [Jp,LY,seval]
   ·trivial
def V7 (w:BitVec 64) (j:Nat):BitVec 8:=(w >>> (56 - 8 * j)).setWidth 8
theorem Md (hc:Al M 312 UJ=true) (w:BitVec 64) :
 Af M 312 [.sl 0 [] 0 8 1,W w] [(0,.ar 1 8 fun _=>B 0#8)] 1 (Q3 (.tup .fnil) [(0,.ar 1 8 fun j=>B (if j < 8 then V7 w j else 0#8))] 1):=by
 have h:=JU hc 8 0 8 (fun _=>0) (w.toNat:Int) Aa Aa Aa
 have e:(fun j=>V.int .u8 (if 0≤j∧j < 0 + 8 then Zl (w.toNat:Int) (j - 0) else 0))=(fun j=>B (if j < 8 then V7 w j else 0#8)):=by
  funext j
  by_cases hj:j < 8
  ·rw [if_pos hj,if_pos Aa];exact XM w j
  ·rw [if_neg hj,if_neg Aa];rfl
 rw [e] at h
 exact h
theorem CX (okA:OkM M) (ok:OkO M) (w:BitVec 64) :
 Af M 327 [.nils,W w] [] 0 (Q3 (.sl 0 [] 0 8 1) [(0,.ar 1 8 fun j=>B (V7 w j))] 1):=by
 refine Ac ok.k327 rfl fun x hx=>?_
 refine es 2000 ?_;(simp only [ZF,Ah3,BA,seval])
 repeat refine sd ?_
 refine Tc [16] (Md okA.k312 w) ?_
 (simp only [LZ,seval])
 repeat refine sd ?_
 refine ID hx [112] (.sl 0 [] 0 8 1) ([(0,.ar 1 8 fun j=>B (V7 w j))]) 1 ?_
 simp only [LY,seval]
 intro i hi
 rw [if_pos hi]
theorem CZ (okA:OkM M) (ok:OkO M) (n:Nat) (hn:n≤64) (p:Nat→BitVec 8) (w:BitVec 64) :
 Af M 327 [.sl 0 [] 0 n 1,W w] [(0,.ar 1 n (fun j=>B (p j)))] 1 (Q3 (.sl 1 [] 0 (n + 8) 1) [(1,.ar 1 (n + 8) fun j=>B (if j < n then p j else V7 w (j - n)))] 2):=by
 refine Ac ok.k327 rfl fun x hx=>?_
 refine es 2000 ?_;(simp only [ZF,Ah3,BA,seval])
 repeat refine sd ?_
 refine Tc [17] (Md okA.k312 w) ?_
 (simp only [LZ,seval])
 repeat refine sd ?_
 refine ID hx [0,113] (.sl 1 [] 0 (n + 8) 1) ([(1,.ar 1 (n + 8) fun j=>B (if j < n then p j else V7 w (j - n)))]) 2 ?_
 simp only [LY,seval]
 intro i hi
 by_cases h:i < n
 ·rw [if_pos h,if_pos h];simp only [B,LY,seval]
 ·rw [if_neg h,if_neg h,if_pos Aa];simp only [B,LY,seval]
def A6 (f:Nat→BitVec 64) (j:Nat):BitVec 8:=V7 (f (j / 8)) (j % 8)
theorem N9 {M:Seat} (okA:OkM M) (ok:OkO M) (w:WS) (l:List (Dg × Bool)) (f g:Nat→BitVec 64) (pc xt:BitVec 64) (a b:BitVec 64) (ha:a.toNat + 8≤8192) (hb:b.toNat + 4≤8192) :
 Af M 217 [.ptr 5 [],.ptr 0 [],.int .i64 34,W a,W b] (AF w .nils l ++ [(5,mach f g pc false xt)]) 6
  (Q3 (.bool true) (AF (w.add (Pr.mk' (A6 fun j=>f (a.toNat + j)))) .nils l ++ [(5,mach (fun j=>if b.toNat≤j∧j < b.toNat + 4 then Jp (fun i=>(B9 (Pr.mk' (A6 fun j=>f (a.toNat + j))).at).at (8 * (j - b.toNat) + i)) 8 else f j) g pc false xt)]) 6):=by
 refine Ac ok.k217 rfl fun x hx=>?_
 have h1:(decide (a≤8192#64) && decide (8#64≤8192#64 - a))=true:=by
  have:a.toNat≤8192:=Aa
  simp only [Lao,decide_eq_true_eq];omega
 have h2:(decide (b≤8192#64) && decide (4#64≤8192#64 - b))=true:=by
  have:b.toNat≤8192:=Aa
  simp only [Lao,decide_eq_true_eq];omega
 refine es 2000 ?_;(simp only [Li,Nc,Gl,seval])
 refine Ah (AY ok a 8#64) ?_
 (simp only [h1,LZ,seval])
 refine Ah (AY ok b 4#64) ?_
 (simp only [h2,LZ,seval])
 have e8:(a + 8#64).toNat=a.toNat + 8:=Ajs
 rw [e8,Nat.add_sub_cancel_left]
 repeat refine sd ?_
 refine AZ ?_
 refine es 2000 ?_
 (simp only [BA,seval])
 repeat refine sd ?_
 refine Gh (CX okA ok (f (a.toNat + 0))) ?_
 (simp only [BA,seval])
 repeat refine sd ?_
 have w1:IntKind.i64.wrap 1=1:=Ak
 rw [w1]
 refine Ag (σ:=Nat) (fun i=>1≤i∧i≤8) (fun i=>fr 94 [(0,.ptr 5 []),(1,.ptr 0 []),(2,.int .i64 34),(4,W b),(12,W 4#64),(13,.sl 6 [] 0 (8 * i) 1),(43,.sl 5 [Stp.f 0] a.toNat 8 1),(44,.int .i64 8),(45,.int .i64 i)])
  (fun i=>AF w .nils l ++ [(5,mach f g pc false xt),(6,.ar 1 (8 * i) fun j=>B (A6 (fun j=>f (a.toNat + j)) j))]) (fun _=>7) (fun i=>8 - i) 1 Aa ?_ ?_
 ·refine Aj.fr [0,1,2,3,4,5,518] [] hx Ax Ak ?_ ?_
  ·simp only [LY,seval]
  ·simp only [IK,Bo,CF,seval]
   intro i hi
   have q1:i / 8=0:=Aa
   have q2:i % 8=i:=Aa
   simp only [A6,q1,q2,Nat.add_zero]
 ·rintro i ⟨hi1,hi⟩
  refine es 2000 ?_
  by_cases h8:i=8
  ·subst h8
   (simp only [Gl,seval])
   repeat refine sd ?_
   have hP:∀ j,j < 64→(Pr.mk' (A6 fun j=>f (a.toNat + j))).at j=A6 (fun j=>f (a.toNat + j)) j:=fun j hj=>Pr.at_mk' _ _ hj
   generalize Pr.mk' (A6 fun j=>f (a.toNat + j))=P at *
   have hA:Af M 212 [.ptr 0 [],At P] _ _ _:=Mx okA ok.toOkS w P
   generalize hw':w.add P=w' at *
   clear hw'
   generalize B9 P.at=D at *
   refine Xi [0,1,2,3,4] [0,1,2,3] (hA) (by constructor <;> (try simp only [Fo,Nw,At,CF,seval]) <;> first | exact q1 | (exact fun j hj=>(hP j hj).symm)) (by simp only [Fo,Nw,At,C6,LX]) ?_
   (simp only [Gw,Fo,Nw,AR,seval])
   refine Ag (σ:=Nat) (fun i=>i≤4) (fun i=>fr 94 [(0,.ptr 5 []),(4,W b),(16,.sl 7 [] 0 32 1),(77,W 4#64),(78,W (BitVec.ofNat 64 i))])
    (fun i=>AF w' .nils l ++ [(5,mach (fun j=>if b.toNat≤j∧j < b.toNat + i then Jp (fun i=>D.at (8 * (j - b.toNat) + i)) 8 else f j) g pc false xt),(7,dg D)]) (fun _=>8) (fun i=>4 - i) 0 Aa ?_ ?_
   ·refine Aj.fr [0,1,2,3,4,5,6,199] [] hx Ax Ak ?_ ?_
    ·simp only [LY,seval]
    ·simp only [IK,Bo,CF,seval]
     exact fun i _=>(if_neg Aa).symm
   ·intro i hi
    refine es 2000 ?_
    by_cases h4:i=4
    ·subst h4
     (simp only [Gl,seval])
     have zz:=aq2 @Bo @C6;exact Bg hx [0,1,2,3,4,5] ⟨rfl,rfl,rfl⟩
    ·have t1:(BitVec.ofNat 64 i).toNat=i:=HG
     have d0:(BitVec.ofNat 64 i < 4#64)=True:=eq_true (by rw [BitVec.lt_def,t1];show i < 4;omega)
     have t2:(8#64 * BitVec.ofNat 64 i).toNat=8 * i:=Q1
     have t3:(b + BitVec.ofNat 64 i).toNat=b.toNat + i:=U9
     have t4:BitVec.ofNat 64 i + 1#64=BitVec.ofNat 64 (i + 1):=TC
     (simp only [d0,t2,t3,t4,Gl,seval])
     repeat refine sd ?_
     refine Y9 (Dh ok (32 - 8 * i) Aa (fun j=>D.at (8 * i + j))) (by (try simp only [dg,CF,seval]) <;> first | exact q1 | ((show 8 * i + (32 - 8 * i)≤32;omega))) (by simp only [dg,C6,LX]) ?_
     (simp only [t2,t3,t4,BA,seval])
     repeat refine sd ?_
     refine ⟨i + 1,by omega,by omega,?_⟩
     refine Aj.fr [0,1,2,3,4,5,6,7] [] hx Ax Ak ?_ ?_
     ·simp only [LY,seval]
     ·simp only [Bo,CF,seval]
      intro q hq
      by_cases e:q=b.toNat + i
      ·subst e
       rw [if_pos rfl,if_pos Aa,Nat.add_sub_cancel_left];simp only [W,LY,seval]
      ·rw [if_neg e]
       by_cases e2:b.toNat≤q∧q < b.toNat + i
       ·rw [if_pos Aa,if_pos e2];simp only [W,LY,seval]
       ·rw [if_neg Aa,if_neg e2];simp only [W,LY,seval]
  ·have d0:((i:Int) < 8)=True:=eq_true Aa
   have w0:IntKind.i64.wrap ((i:Int) + 1)=((i + 1:Nat):Int):=A9
   have n0:(0:Int)≤(i:Int):=Aa
   (simp only [d0,w0,Gl,seval])
   repeat refine sd ?_
   have zz:=@C6;refine Fl [6] (CZ okA ok (8 * i) Aa (A6 fun j=>f (a.toNat + j)) (f (a.toNat + i))) ?_
   (simp only [BA,w0,seval])
   repeat refine sd ?_
   refine ⟨i + 1,by omega,by omega,by omega,?_⟩
   have e88:8 * (i + 1)=8 * i + 8:=Aa
   rw [e88]
   refine Aj.fr [0,1,2,3,4,5,103] [] hx Ax Ak ?_ ?_
   ·simp only [LY,seval]
   ·simp only [Bo,CF,seval]
    intro q hq
    by_cases e:q < 8 * i
    ·rw [if_pos e]
    ·have e1:q / 8=i:=Aa
     have e2:q % 8=q - 8 * i:=Aa
     rw [if_neg e,A6,e1,e2]
variable {M:Seat}
def wi (a n:BitVec 64):Bool:=decide (a≤8192#64) && decide (n≤8192#64 - a)
theorem Kk (ok:OkO M) (f g:Nat→BitVec 64) (pc xt:BitVec 64) (a b:BitVec 64) (h:(wi a 8#64 && wi b 4#64)=false) :
 Af M 217 [.ptr 0 [],.ptr 1 [],.int .i64 34,W a,W b] [(0,mach f g pc false xt)] 2 (Q3 (.bool false) [(0,mach f g pc true Ap)] 2):=by
 refine Ac ok.k217 rfl fun x hx=>?_
 cases h1:wi a 8#64 with
 | false =>
   unfold wi at h1
   refine es 2000 ?_;(simp only [Li,Nc,Ga,seval])
   refine Ah (AY ok a 8#64) ?_
   (simp only [h1,LZ,seval])
   have zz:=@mach.eq_1;refine Fl [0] (Bw ok.toOkV f g pc false xt Ap) ?_
   (simp only [Ga,seval])
   have zz:=@mach.eq_1;exact Bg hx [0,1] ⟨rfl,rfl,rfl⟩
 | true =>
   rw [h1,Bool.true_and] at h
   unfold wi at h1 h
   refine es 2000 ?_;(simp only [Li,Nc,Ga,seval])
   refine Ah (AY ok a 8#64) ?_
   (simp only [h1,LZ,seval])
   refine Ah (AY ok b 4#64) ?_
   (simp only [h,LZ,seval])
   have zz:=@mach.eq_1;refine Fl [0] (Bw ok.toOkV f g pc false xt Ap) ?_
   (simp only [Ga,seval])
   have zz:=@mach.eq_1;exact Bg hx [0,1] ⟨rfl,rfl,rfl⟩
theorem Ju (ok:OkO M) (f g:Nat→BitVec 64) (pc xt:BitVec 64) (hpc:¬ 8192#64≤pc) (w:BitVec 64) (hw:f pc.toNat=w) (hop:AT w=34) (h2:w >>> 32 &&& 255#64=0#64) (h:(wi (g (pF w 48)) 8#64 && wi (g (pF w 44)) 4#64)=false) :
 Af M 70 [.ptr 0 [],.ptr 1 []] [(0,mach f g pc false xt)] 2 (Q3 .nili [(0,mach f g pc true Ap)] 2):=by
 refine Ac ok.k70 rfl fun x hx=>?_
 have hp:pc.toNat < 8192:=BM
 have a1:=Ai w 52
 have a2:=Ai w 48
 have a3:=Ai w 44
 refine es 2000 ?_;(simp only [Lcb,hpc,hw,seval])
 repeat refine sd ?_
 have zz:=@Bb.eq_1;refine Gy (Az ok.toOkV w Aa h2) ?_
 (simp only [Hi,hop,seval])
 repeat refine sd ?_
 have zz:=@mach.eq_1;refine obY [0,1] [0] (Kk ok f g pc xt _ _ h) ?_
 (simp only [Ga,seval])
 repeat refine sd ?_
 have zz:=@mach.eq_1;exact Bg hx [0,1] ⟨rfl,rfl,rfl⟩
theorem K3 (ok:OkO M) (f g:Nat→BitVec 64) (pc xt:BitVec 64) (a b:BitVec 64) (h:(wi a 4#64 && wi b 8#64)=false) :
 Af M 217 [.ptr 0 [],.ptr 1 [],.int .i64 35,W a,W b] [(0,mach f g pc false xt)] 2 (Q3 (.bool false) [(0,mach f g pc true Ap)] 2):=by
 refine Ac ok.k217 rfl fun x hx=>?_
 cases h1:wi a 4#64 with
 | false =>
   unfold wi at h1
   refine es 2000 ?_;(simp only [Li,Nc,Ga,seval])
   refine Ah (AY ok a 4#64) ?_
   (simp only [h1,LZ,seval])
   have zz:=@mach.eq_1;refine Fl [0] (Bw ok.toOkV f g pc false xt Ap) ?_
   (simp only [Ga,seval])
   have zz:=@mach.eq_1;exact Bg hx [0,1] ⟨rfl,rfl,rfl⟩
 | true =>
   rw [h1,Bool.true_and] at h
   unfold wi at h1 h
   refine es 2000 ?_;(simp only [Li,Nc,Ga,seval])
   refine Ah (AY ok a 4#64) ?_
   (simp only [h1,LZ,seval])
   refine Ah (AY ok b 8#64) ?_
   (simp only [h,LZ,seval])
   have zz:=@mach.eq_1;refine Fl [0] (Bw ok.toOkV f g pc false xt Ap) ?_
   (simp only [Ga,seval])
   have zz:=@mach.eq_1;exact Bg hx [0,1] ⟨rfl,rfl,rfl⟩
theorem Jh (ok:OkO M) (f g:Nat→BitVec 64) (pc xt:BitVec 64) (hpc:¬ 8192#64≤pc) (w:BitVec 64) (hw:f pc.toNat=w) (hop:AT w=35) (h2:w >>> 32 &&& 255#64=0#64) (h:(wi (g (pF w 48)) 4#64 && wi (g (pF w 44)) 8#64)=false) :
 Af M 70 [.ptr 0 [],.ptr 1 []] [(0,mach f g pc false xt)] 2 (Q3 .nili [(0,mach f g pc true Ap)] 2):=by
 refine Ac ok.k70 rfl fun x hx=>?_
 have hp:pc.toNat < 8192:=BM
 have a1:=Ai w 52
 have a2:=Ai w 48
 have a3:=Ai w 44
 refine es 2000 ?_;(simp only [Lcb,hpc,hw,seval])
 repeat refine sd ?_
 have zz:=@Bb.eq_1;refine Gy (Az ok.toOkV w Aa h2) ?_
 (simp only [Hi,hop,seval])
 repeat refine sd ?_
 have zz:=@mach.eq_1;refine obY [0,1] [0] (K3 ok f g pc xt _ _ h) ?_
 (simp only [Ga,seval])
 repeat refine sd ?_
 have zz:=@mach.eq_1;exact Bg hx [0,1] ⟨rfl,rfl,rfl⟩
def Aaj (m:Mc):Prop:=m.hl=false∧¬ 8192#64≤m.pc∧m.f m.pc.toNat >>> 32 &&& 255#64=0#64 ∧
 ((AT (m.f m.pc.toNat)=34∧(wi (m.g (pF (m.f m.pc.toNat) 48)) 8#64 && wi (m.g (pF (m.f m.pc.toNat) 44)) 4#64)=true) ∨ (AT (m.f m.pc.toNat)=35∧(wi (m.g (pF (m.f m.pc.toNat) 48)) 4#64 && wi (m.g (pF (m.f m.pc.toNat) 44)) 8#64)=true))
end Mv
