/- A part. -/
import Derived.Test.YtncipgmjhaiagaaGreatDoorHL
set_option linter.all false
set_option maxRecDepth 20000
set_option maxHeartbeats 4000000
namespace Mv
open Go
variable {M:Seat}
def JR (a:BitVec 64) (n:Nat):BitVec 64:=BitVec.ofNat 64 (a.toNat ^ n)
theorem MT (a:BitVec 64) (m n:Nat):JR a m * JR a n=JR a (m + n):=by
 apply BitVec.eq_of_toNat_eq
 rw [JR,JR,JR,BitVec.toNat_mul,BitVec.toNat_ofNat,BitVec.toNat_ofNat,BitVec.toNat_ofNat,← Nat.mul_mod,Nat.pow_add]
theorem Se (a:BitVec 64):JR a 1=a:=by
 apply BitVec.eq_of_toNat_eq
 rw [JR,BitVec.toNat_ofNat,Nat.pow_one,Nat.mod_eq_of_lt a.isLt]
theorem Afr (a:BitVec 64) (n:Nat):JR (a * a) n=JR a (2 * n):=by
 apply BitVec.eq_of_toNat_eq
 rw [JR,JR,BitVec.toNat_ofNat,BitVec.toNat_ofNat,BitVec.toNat_mul,← Nat.pow_mod,Nat.two_mul,Nat.pow_add,Nat.mul_pow]
theorem Wb:∀ (k:Nat) (a b p:BitVec 64),b.toNat < 2 ^ k→Yd k a b p=p * JR a b.toNat
 | 0, a, b, p, h => by
   have h0:b.toNat=0:=by have:b.toNat < 1:=h;omega
   rw [Yd,h0,JR,Nat.pow_zero,BitVec.mul_one]
 | k + 1, a, b, p, h => by
   rw [Yd]
   split
   ·rename_i h0
    rw [h0]
    show p=p * JR a 0
    rw [JR,Nat.pow_zero,BitVec.mul_one]
   ·have hs:(b >>> 1).toNat=b.toNat / 2:=by rw [BitVec.toNat_ushiftRight,Nat.shiftRight_eq_div_pow]
    rw [Wb k _ _ _ (by rw [hs];rw [Nat.pow_succ] at h;omega),Afr,hs]
    have e1:(b &&& 1#64).toNat=b.toNat % 2:=by rw [BitVec.toNat_and,show (1#64:BitVec 64).toNat=1 from rfl,Nat.and_one_is_mod]
    split
    ·rename_i h1
     rw [h1] at e1
     have e1:1=b.toNat % 2:=e1
     rw [BitVec.mul_assoc]
     congr 1
     have:a=JR a 1:=(Se a).symm
     conv=>lhs;lhs;rw [this]
     rw [MT]
     congr 1;omega
    ·rename_i h1
     have:b.toNat % 2 ≠ 1:=fun h=>h1 (BitVec.eq_of_toNat_eq (by rw [e1,h];rfl))
     congr 2;omega
theorem R7 (ok:OkX M) (a b c:BitVec 64):Af M 90 [.int .i64 10,W a,W b,W c] [] 0 (Q3 (Ao (W (Yd 64 a b 1#64)) (.int .i64 0)) [] 0):=by
 rw [Wb 64 a b 1#64 b.isLt,BitVec.one_mul]
 generalize hF:JR a b.toNat=F
 refine Ac ok.k90 rfl fun x hx=>?_
 refine es 2000 ?_;(simp only [YK,ZW,LZ,seval])
 refine Ag (σ:=Nat × BitVec 64) (fun s=>s.1≤64∧s.2=JR a (b.toNat / 2 ^ s.1)) (fun s=>fr 162 [(1,W a),(2,W b),(16,W s.2),(17,.int .i64 ((s.1:Int) - 1))]) (fun _=>[]) (fun _=>0) (fun s=>s.1) (64,1#64) ?_ ?_ ?_
 ·refine ⟨Nat.le_refl _,?_⟩
  show 1#64=_
  rw [Nat.div_eq_of_lt b.isLt,JR,Nat.pow_zero]
 ·refine Aj.fr [] [] hx Ax Ak ?_ ?_
  ·simp only [LY,seval]
  ·trivial
 ·rintro ⟨k,p⟩ ⟨hk,hp⟩
  dsimp only at hk hp
  refine es 2000 ?_
  cases k with
  | zero =>
    have hz:(((0:Nat):Int) - 1) = -1:=rfl
    rw [Nat.pow_zero,Nat.div_one] at hp
    have e1:p=F:=by rw [hp,hF]
    subst e1
    (simp only [hz,LZ,seval])
    have zz:=@Ao.eq_1;exact Bg hx [] ⟨rfl,rfl,rfl⟩
  | succ k =>
    have hz:(((k + 1:Nat):Int) - 1)=k:=Aa
    have g0:(0≤(k:Int))=True:=eq_true Aa
    have w1:IntKind.i64.wrap ((k:Int) - 1)=(k:Int) - 1:=AI Aa
    have w3:=Ih k Aa
    have hb:=Ajh b k
    have hd:b.toNat / 2 ^ (k + 1)=b.toNat / 2 ^ k / 2:=by rw [Nat.pow_succ,Nat.div_div_eq_div_mul]
    have hbb:b.getLsbD k=decide (b.toNat / 2 ^ k % 2=1):=by
     rw [BitVec.getLsbD,Nat.testBit,Nat.shiftRight_eq_div_pow,Nat.one_and_eq_mod_two]
     rcases Nat.mod_two_eq_zero_or_one (b.toNat / 2 ^ k) with h | h <;> rw [h] <;> rfl
    have hpp:p * p=JR a (b.toNat / 2 ^ k / 2 + b.toNat / 2 ^ k / 2):=by rw [hp,hd,MT]
    by_cases h1:b.toNat / 2 ^ k % 2=1
    ·rw [decide_eq_true h1] at hbb
     have hs:p * p * a=JR a (b.toNat / 2 ^ k):=by
      rw [hpp]
      conv=>lhs;rhs;rw [← Se a]
      rw [MT];congr 1;omega
     (simp only [hz,g0,w1,w3,hb,hbb,LZ,seval])
     refine ⟨(k,p * p * a),(show k≤64 by omega),hs,Nat.lt_succ_self k,?_⟩
     refine Aj.fr [] [] hx Ax Ak ?_ ?_
     ·simp only [LY,seval]
     ·trivial
    ·rw [decide_eq_false h1] at hbb
     have hs:p * p=JR a (b.toNat / 2 ^ k):=by rw [hpp];congr 1;omega
     (simp only [hz,g0,w1,w3,hb,hbb,LZ,seval])
     refine ⟨(k,p * p),(show k≤64 by omega),hs,Nat.lt_succ_self k,?_⟩
     refine Aj.fr [] [] hx Ax Ak ?_ ?_
     ·simp only [LY,seval]
     ·trivial
theorem X4 (a b:BitVec 64):(a ^^^ 9223372036854775808#64 < b ^^^ 9223372036854775808#64)=(a.toInt < b.toInt):=by
 have e:∀ a:BitVec 64,(a ^^^ 9223372036854775808#64).toNat=(a.toInt + 9223372036854775808).toNat:=by
  intro a
  have h1:(a ^^^ 9223372036854775808#64).toNat=a.toNat ^^^ 2 ^ 63:=by rw [BitVec.toNat_xor];rfl
  have d1:(a.toNat ^^^ 2 ^ 63) / 2 ^ 63=a.toNat / 2 ^ 63 ^^^ 1:=by rw [Nat.xor_div_two_pow]
  have d2:(a.toNat ^^^ 2 ^ 63) % 2 ^ 63=a.toNat % 2 ^ 63:=by rw [Nat.xor_mod_two_pow,Nat.mod_self,Nat.xor_zero]
  have:=a.isLt
  rw [h1,BitVec.toInt_eq_toNat_cond]
  by_cases h:a.toNat / 2 ^ 63=0
  ·rw [h] at d1
   have d1:(a.toNat ^^^ 2 ^ 63) / 2 ^ 63=1:=d1
   split <;> omega
  ·have h:a.toNat / 2 ^ 63=1:=Aa
   rw [h] at d1
   have d1:(a.toNat ^^^ 2 ^ 63) / 2 ^ 63=0:=d1
   split <;> omega
 have k1:=BitVec.toInt_lt (x:=a)
 have k2:=BitVec.le_toInt a
 have k3:=BitVec.toInt_lt (x:=b)
 have k4:=BitVec.le_toInt b
 have e63:(2:Int) ^ (64 - 1)=9223372036854775808:=Ak
 rw [e63] at k1 k2 k3 k4
 rw [BitVec.lt_def,e,e]
 apply propext
 omega
theorem Pj (hi lo c:BitVec 64) (n:Nat) (h:E4 hi lo=n):rsR hi lo c=BitVec.ofNat 64 (n % c.toNat):=by rw [rsR,h]
theorem Xw (a b:BitVec 64):E4 (UH a b) (a * b)=a.toNat * b.toNat:=by
 rw [E4,NJ,BitVec.toNat_mul]
 have:=Nat.div_add_mod (a.toNat * b.toNat) 18446744073709551616
 have e2:(2:Nat) ^ 64=18446744073709551616:=Ak
 rw [e2]
 omega
theorem Y8 (a b:BitVec 64):E4 (Vg (decide (a + b < a))) (a + b)=a.toNat + b.toNat:=by
 have h1:=a.isLt
 have h2:=b.isLt
 rw [E4,BitVec.toNat_add]
 by_cases h:a + b < a
 ·rw [decide_eq_true h]
  rw [BitVec.lt_def,BitVec.toNat_add] at h
  show 1 * 18446744073709551616 + _=_
  omega
 ·rw [decide_eq_false h]
  rw [BitVec.lt_def,BitVec.toNat_add] at h
  show 0 * 18446744073709551616 + _=_
  omega
theorem Ww (ok:OkX M) (a b c:BitVec 64):Af M 90 [.int .i64 8,W a,W b,W c] [] 0 (Q3 (Ao (W (P1 8 a b c)) (.int .i64 0)) [] 0):=by
 refine Ac ok.k90 rfl fun x hx=>?_
 by_cases hb:c=0#64
 ·subst hb
  refine es 2000 ?_;(simp only [YK,ZW,LZ,seval])
  have zz:=aq2 @Ao.eq_1 @P1.eq_1;exact Bg hx [] ⟨rfl,rfl,rfl⟩
 ·have z0:(c=0#64)=False:=eq_false hb
  have r1:=D6 ok (Vg (decide (a + b < a))) (a + b) c (M4 c hb)
  rw [Pj _ _ _ _ (Y8 a b)] at r1
  generalize hF:P1 8 a b c=F
  simp only [P1,seval,CD,or_true,true_or,or_self,or_false,z0] at hF
  rw [hF] at r1
  refine es 2000 ?_;(simp only [YK,ZW,z0,LZ,seval])
  refine Ah (Iw ok a b) ?_
  (simp only [Cb,seval])
  refine Ah (On ok _) ?_
  try (simp only [LZ,seval])
  refine Ah (r1) ?_
  (simp only [Cb,seval])
  have zz:=@Ao.eq_1;exact Bg hx [] ⟨rfl,rfl,rfl⟩
theorem WV (ok:OkX M) (a b c:BitVec 64):Af M 90 [.int .i64 9,W a,W b,W c] [] 0 (Q3 (Ao (W (P1 9 a b c)) (.int .i64 0)) [] 0):=by
 refine Ac ok.k90 rfl fun x hx=>?_
 by_cases hb:c=0#64
 ·subst hb
  refine es 2000 ?_;(simp only [YK,ZW,LZ,seval])
  have zz:=aq2 @Ao.eq_1 @P1.eq_1;exact Bg hx [] ⟨rfl,rfl,rfl⟩
 ·have z0:(c=0#64)=False:=eq_false hb
  have r1:=D6 ok (UH a b) (a * b) c (M4 c hb)
  rw [Pj _ _ _ _ (Xw a b)] at r1
  generalize hF:P1 9 a b c=F
  simp only [P1,seval,CD,or_true,true_or,or_self,or_false,z0] at hF
  rw [hF] at r1
  refine es 2000 ?_;(simp only [YK,ZW,z0,LZ,seval])
  refine Ah (Iw ok a b) ?_
  (simp only [Cb,seval])
  skip
  try (simp only [LZ,seval])
  refine Ah (r1) ?_
  (simp only [Cb,seval])
  have zz:=@Ao.eq_1;exact Bg hx [] ⟨rfl,rfl,rfl⟩
theorem N6 (ok:OkX M) (op:Nat) (h1:1≤op) (h2:op≤25) (a b c:BitVec 64):Af M 90 [.int .i64 op,W a,W b,W c] [] 0 (Q3 (Ao (W (P1 op a b c)) (.int .i64 0)) [] 0):=by
 have c1:((1:Nat):Int)=1:=rfl
 have h4:=VP ok a b
 have h5:=W7 ok a b
 have h6:=Yn ok a b
 have h7:=VV ok a b
 have h11:=Lw ok a b
 have h12:=Le ok a b
 have h13:=Lu ok a b
 have h14:=L1 ok a b
 have h15:=L9 ok a b
 have hf:=fun t=>On ok t
 have hop:op=8 ∨ op=9 ∨ op=10 ∨ op=1 ∨ op=2 ∨ op=22 ∨ op=23 ∨ op=24 ∨ op=25 ∨ op=16 ∨ op=17 ∨ op=18 ∨ op=19 ∨ op=20 ∨ op=21 ∨ op=3 ∨ op=4 ∨ op=5 ∨ op=6 ∨ op=7 ∨ op=11 ∨ op=12 ∨ op=13 ∨ op=14 ∨ op=15:=Aa
 rcases hop with rfl | rfl | rfl | rfl | rfl | rfl | rfl | rfl | rfl | rfl | rfl | rfl | rfl | rfl | rfl | rfl | rfl | rfl | rfl | rfl | rfl | rfl | rfl | rfl | rfl
 ·exact Ww ok a b c
 ·exact WV ok a b c
 ·exact R7 ok a b c
 all_goals
  generalize hF:P1 _ a b c=F
  simp only [P1,seval,CD,or_true,true_or,or_self,or_false] at hF
 iterate 6
  focus
   refine Ac ok.k90 rfl fun x hx=>?_
   refine es 2000 ?_;(simp only [YK,ZW,c1,Lbp,seval])
   subst hF
   have zz:=@Ao.eq_1;exact Bg hx [] ⟨rfl,rfl,rfl⟩
 iterate 6
  focus
   refine Ac ok.k90 rfl fun x hx=>?_
   refine es 2000 ?_;(simp only [YK,ZW,Lbp,X4,seval])
   refine Ah (hf _) ?_
   (simp only [LZ,seval])
   subst hF
   have zz:=@Ao.eq_1;exact Bg hx [] ⟨rfl,rfl,rfl⟩
 all_goals
  refine Ac ok.k90 rfl fun x hx=>?_
  refine es 2000 ?_;(simp only [YK,ZW,Lbp,seval])
  first
   | (refine Ah (Iw ok a b) ?_)
   | (refine Ah (h4) ?_)
   | (refine Ah (h5) ?_)
   | (refine Ah (h6) ?_)
   | (refine Ah (h7) ?_)
   | (refine Ah (h11) ?_)
   | (refine Ah (h12) ?_)
   | (refine Ah (h13) ?_)
   | (refine Ah (h14) ?_)
   | (refine Ah (h15) ?_)
  (simp only [Cb,seval])
  subst hF
  have zz:=@Ao.eq_1;exact Bg hx [] ⟨rfl,rfl,rfl⟩
def An8 (m:Mc) (q:Hd × Option Int × Ps):Mc:=match q.2.1 with
 | none=>⟨q.2.2.f,q.1.g,q.1.pc,q.1.hl,q.1.xt⟩
 | some _=>⟨m.f,m.g,m.pc,true,Kq⟩
def Tr (pres:List (Dg × Pr)) (m:Mc):Mc :=
 if m.hl=true then m else if 8192#64≤m.pc then ⟨m.f,m.g,m.pc,true,Ap⟩
 else An8 m (nx (Fc pres) m.h ⟨m.f,[],Pr.zero⟩)
theorem Aok (pres:List (Dg × Pr)) (f g:Nat→BitVec 64) (pc xt:BitVec 64) (hpc:¬ 8192#64≤pc) :
 Tr pres ⟨f,g,pc,false,xt⟩=An8 ⟨f,g,pc,false,xt⟩ (Of (Fc pres) ⟨g,pc,false,xt⟩ (f pc.toNat) ⟨f,[Bf f pc],Pr.zero⟩):=by
 rw [Tr,if_neg Bu,if_neg hpc]
 rfl
theorem Aoi {M:Seat} (ok:OkV M) (okP:OkP M) (f g:Nat→BitVec 64) (pc xt:BitVec 64) (hpc:¬ 8192#64≤pc) (w:BitVec 64) (hw:f pc.toNat=w) (op:Nat) (h1:1≤op) (h25:op≤25) (hop:AT w=op) (h2:w >>> 32 &&& 255#64=0#64) :
 Af M 70 [.ptr 0 [],.ptr 1 []] [(0,mach f g pc false xt)] 2 (Q3 .nili [(0,mach f (E9 g (pF w 52) (P1 op (g (pF w 48)) (g (pF w 44)) (g (pF w 40)))) (pc + 1#64) false xt)] 2):=by
 have hv:=JY okP op h1 h25 (g (pF w 48)) (g (pF w 44)) (g (pF w 40))
 refine Ac ok.k70 rfl fun x hx=>?_
 have hp:pc.toNat < 8192:=BM
 have a1:=Ai w 52
 have a2:=Ai w 48
 have a3:=Ai w 44
 have a4:=Ai w 40
 have d1:((op:Int)=0)=False:=eq_false Aa
 have d2:((op:Int) < 26)=True:=eq_true Aa
 refine es 2000 ?_;(simp only [Lcb,hpc,hw,seval])
 repeat refine sd ?_
 have zz:=@Bb.eq_1;refine Gy (Az ok w Aa h2) ?_
 (simp only [Hi,hop,d1,d2,seval])
 repeat refine sd ?_
 refine BI (hv) ?_
 (simp only [Cb,seval])
 repeat refine sd ?_
 have zz:=aq2 @mach.eq_1 Og;exact Bg hx [0,1] ⟨rfl,rfl,rfl⟩
theorem Api (op:Nat) (f g:Nat→BitVec 64) (pc xt:BitVec 64) (d a:Nat) (to:BitVec 64):Sm op f g pc xt d a to=(⟨f,(Vx op ⟨g,pc,false,xt⟩ d a to).g,(Vx op ⟨g,pc,false,xt⟩ d a to).pc,(Vx op ⟨g,pc,false,xt⟩ d a to).hl,(Vx op ⟨g,pc,false,xt⟩ d a to).xt⟩:Mc).v:=by
 unfold Sm Vx
 repeat' split
 all_goals rfl
theorem Apb {M:Seat} (ok:OkO M) (okP:OkP M) (pres:List (Dg × Pr)) (m:Mc) (h:¬ Aaj m):Y1 M m (Tr pres m):=by
 obtain ⟨f,g,pc,hl,xt⟩:=m
 cases hl with
 | true =>
   rw [Tr,if_pos rfl]
   exact Fh ok.toOkV f g pc xt
 | false =>
   by_cases hpc:8192#64≤pc
   ·rw [Tr,if_neg Bu,if_pos hpc]
    exact MN ok.toOkV f g pc xt hpc
   rw [Aok pres f g pc xt hpc]
   have key:∀ q:Hd × Option Int × Ps,Of (Fc pres) ⟨g,pc,false,xt⟩ (f pc.toNat) ⟨f,[Bf f pc],Pr.zero⟩=q→Af M 70 [.ptr 0 [],.ptr 1 []] [(0,mach f g pc false xt)] 2 (Q3 .nili [(0,(An8 ⟨f,g,pc,false,xt⟩ q).v)] 2) →
    Y1 M ⟨f,g,pc,false,xt⟩ (An8 ⟨f,g,pc,false,xt⟩ (Of (Fc pres) ⟨g,pc,false,xt⟩ (f pc.toNat) ⟨f,[Bf f pc],Pr.zero⟩)):=fun q hq hr=>by rw [hq];exact hr
   have hask:Aaj ⟨f,g,pc,false,xt⟩=Aaj ⟨f,g,pc,false,xt⟩:=rfl
   unfold Aaj at h
   dsimp only at h
   by_cases q0:isI (f pc.toNat)=false
   ·refine key _ (by rw [Of,if_pos q0]) ?_
    exact NT ok.toOkV f g pc xt hpc _ rfl (fun h=>by rw [(Nm _).2 h] at q0;cases q0)
   obtain ⟨h35,h2⟩:=(Nm _).1 (by simpa using q0)
   by_cases q1:AT (f pc.toNat)=0
   ·refine key _ (by rw [Of,if_neg q0,if_pos q1]) ?_
    exact Gu ok.toOkV f g pc xt hpc _ rfl q1 h2
   by_cases q2:AT (f pc.toNat) < 26
   ·refine key _ (by rw [Of,if_neg q0,if_neg q1,if_pos q2]) ?_
    exact Aoi ok.toOkV okP f g pc xt hpc _ rfl (AT (f pc.toNat)) Aa Aa rfl h2
   by_cases q3:AT (f pc.toNat)=26
   ·refine key _ (by rw [Of,if_neg q0,if_neg q1,if_neg q2,if_pos q3]) ?_
    exact PM ok.toOkV f g pc xt hpc _ rfl q3 h2
   by_cases q4:AT (f pc.toNat)=27 ∨ AT (f pc.toNat)=28
   ·by_cases hwh:8192#64≤g (pF (f pc.toNat) 48) + BitVec.ofInt 64 (pN (f pc.toNat))
    ·refine key _ (by rw [Of,if_neg q0,if_neg q1,if_neg q2,if_neg q3,if_pos q4,if_pos hwh]) ?_
     rcases q4 with q4 | q4
     ·exact GG ok.toOkV f g pc xt hpc _ rfl q4 h2 _ rfl hwh
     ·exact Gt ok.toOkV f g pc xt hpc _ rfl q4 h2 _ rfl hwh
    ·by_cases q5:AT (f pc.toNat)=27
     ·refine key _ (by rw [Of,if_neg q0,if_neg q1,if_neg q2,if_neg q3,if_pos q4,if_neg hwh,if_pos q5]) ?_
      exact L2 ok.toOkV f g pc xt hpc _ rfl q5 h2 _ rfl hwh
     ·refine key _ (by rw [Of,if_neg q0,if_neg q1,if_neg q2,if_neg q3,if_pos q4,if_neg hwh,if_neg q5]) ?_
      exact K5 ok.toOkV f g pc xt hpc _ rfl (q4.resolve_left q5) h2 _ rfl hwh
   by_cases q7:AT (f pc.toNat) < 34
   ·refine key _ (by rw [Of,if_neg q0,if_neg q1,if_neg q2,if_neg q3,if_neg q4,if_pos q7]) ?_
    have hJ:=Cz ok.toOkV (AT (f pc.toNat)) Aa f g pc xt hpc _ rfl rfl h2
    rw [Api] at hJ
    exact hJ
   by_cases q8:AT (f pc.toNat)=34
   ·have hw:(wi (g (pF (f pc.toNat) 48)) 8#64 && wi (g (pF (f pc.toNat) 44)) 4#64)=false:=by
     cases hb:(wi (g (pF (f pc.toNat) 48)) 8#64 && wi (g (pF (f pc.toNat) 44)) 4#64) with
     | false=>rfl
     | true=>exact absurd ⟨rfl,hpc,h2,.inl ⟨q8,hb⟩⟩ h
    refine key ((⟨g,pc,false,xt⟩:Hd).stop Ap,none,⟨f,[Bf f pc],Pr.zero⟩) ?_ (Ju ok f g pc xt hpc _ rfl q8 h2 hw)
    rw [Of,if_neg q0,if_neg q1,if_neg q2,if_neg q3,if_neg q4,if_neg q7,MX,if_pos]
    rw [q8];exact hw
   ·have q8:AT (f pc.toNat)=35:=Aa
    have hw:(wi (g (pF (f pc.toNat) 48)) 4#64 && wi (g (pF (f pc.toNat) 44)) 8#64)=false:=by
     cases hb:(wi (g (pF (f pc.toNat) 48)) 4#64 && wi (g (pF (f pc.toNat) 44)) 8#64) with
     | false=>rfl
     | true=>exact absurd ⟨rfl,hpc,h2,.inr ⟨q8,hb⟩⟩ h
    refine key ((⟨g,pc,false,xt⟩:Hd).stop Ap,none,⟨f,[Bf f pc],Pr.zero⟩) ?_ (Jh ok f g pc xt hpc _ rfl q8 h2 hw)
    rw [Of,if_neg q0,if_neg q1,if_neg q2,if_neg q3,if_neg q4,if_neg q7,MX,if_pos]
    rw [q8];exact hw
structure OkT (M:Seat):Prop where
 okA:OkM M
 ok:OkO M
 okP:OkP M
theorem Aoy {p q:Nat→BitVec 8} (h:∀ j,j < 64→p j=q j):Pr.mk' p=Pr.mk' q:=by
 unfold Pr.mk'
 congr 1
 exact List.map_congr_left fun j hj=>h j (List.mem_range.1 hj)
theorem Ao0 {p q:Nat→BitVec 8} (h:∀ j,j < 32→p j=q j):Dg.mk' p=Dg.mk' q:=by
 unfold Dg.mk'
 congr 1
 exact List.map_congr_left fun j hj=>h j (List.mem_range.1 hj)
theorem Aow (f:Nat→BitVec 64) (a:BitVec 64) (n j:Nat) (h:a.toNat + n≤8192) (hj:j < 8 * n):CS (rdL f a n 0) j=A6 (fun j=>f (a.toNat + j)) j:=by
 rw [CS,A6,A6,Ao2 f a n 0 (j / 8) Aa Aa,Nat.add_zero]
theorem Aov (pres:List (Dg × Pr)) (f g:Nat→BitVec 64) (pc xt:BitVec 64) (hpc:¬ 8192#64≤pc) (w:BitVec 64) (hw:f pc.toNat=w) (hop:AT w=34) (h2:w >>> 32 &&& 255#64=0#64) (h3:wi (g (pF w 48)) 8#64=true) (h4:wi (g (pF w 44)) 4#64=true) :
 Tr pres ⟨f,g,pc,false,xt⟩=⟨fun j=>if (g (pF w 44)).toNat≤j∧j < (g (pF w 44)).toNat + 4 then Jp (fun i=>(B9 (Pr.mk' (A6 fun j=>f ((g (pF w 48)).toNat + j))).at).at (8 * (j - (g (pF w 44)).toNat) + i)) 8 else f j,g,pc + 1#64,false,xt⟩:=by
 have ha:(g (pF w 48)).toNat + 8≤8192:=B8 h3
 have hb:(g (pF w 44)).toNat + 4≤8192:=B8 h4
 have q0:¬ isI w=false:=by rw [(Nm w).2 ⟨by omega,h2⟩];simp
 rw [Aok pres f g pc xt hpc,hw,Of,if_neg q0,if_neg Aa,if_neg Aa,if_neg Aa,if_neg Aa,if_neg Aa,hop]
 dsimp only
 rw [MX,if_neg (by simp [h3,h4])]
 rw [show (if (34:Nat)=35 then 4 else 8)=8 from rfl,VY]
 dsimp only
 rw [if_pos rfl,GL,Ri]
 have hP:Pr.mk' (CS (rdL f (g (pF w 48)) 8 0))=Pr.mk' (A6 fun j=>f ((g (pF w 48)).toNat + j)):=Aoy (fun j hj=>Aow f _ 8 j ha Aa)
 rw [List.nil_append,hP]
 show (⟨_,_,_,_,_⟩:Mc)=_
 congr 1
 funext j
 dsimp only
 rw [Aou _ _ 4 0 f j Aa]
 simp only [Nat.add_zero,Vh]
theorem Aoz (pres:List (Dg × Pr)) (f g:Nat→BitVec 64) (pc xt:BitVec 64) (hpc:¬ 8192#64≤pc) (w:BitVec 64) (hw:f pc.toNat=w) (hop:AT w=35) (h2:w >>> 32 &&& 255#64=0#64) (h3:wi (g (pF w 48)) 4#64=true) (h4:wi (g (pF w 44)) 8#64=true) :
 pQ f g pc xt (g (pF w 44)) (Dv (Dg.mk' (A6 fun j=>f ((g (pF w 48)).toNat + j))) pres)=(Tr pres ⟨f,g,pc,false,xt⟩).v:=by
 have ha:(g (pF w 48)).toNat + 4≤8192:=B8 h3
 have hb:(g (pF w 44)).toNat + 8≤8192:=B8 h4
 have q0:¬ isI w=false:=by rw [(Nm w).2 ⟨by omega,h2⟩];simp
 rw [Aok pres f g pc xt hpc,hw,Of,if_neg q0,if_neg Aa,if_neg Aa,if_neg Aa,if_neg Aa,if_neg Aa,hop]
 dsimp only
 rw [MX,if_neg (by simp [h3,h4])]
 rw [show (if (35:Nat)=35 then 4 else 8)=4 from rfl,VY]
 dsimp only
 have hP:Dg.mk' (CS (rdL f (g (pF w 48)) 4 0))=Dg.mk' (A6 fun j=>f ((g (pF w 48)).toNat + j)):=Ao0 (fun j hj=>Aow f _ 4 j ha Aa)
 rw [if_neg Aa,QC,show (Fc pres).pi=OP pres from rfl,OP,List.nil_append,hP]
 cases Dv (Dg.mk' (A6 fun j=>f ((g (pF w 48)).toNat + j))) pres with
 | none=>rfl
 | some p =>
   dsimp only
   rw [GL,Ri]
   show mach _ _ _ _ _=mach _ _ _ _ _
   congr 1
   funext j
   refine Eq.trans ?_ (Aou _ _ 8 0 f j Aa).symm
   simp only [Nat.add_zero,Vh]
theorem Ja {α:Type} (k k':Dg) (hne:¬ k'=k) (x:α):∀ l:List (Dg × α),Dv k' (CG k x l)=Dv k' l
 | []=>by simp [CG,Dv,hne]
 | (h, y) :: r => by
   by_cases e:k=h
   ·subst e;simp [CG,Dv,hne]
   ·have:=Ja k k' hne x r
    simp only [CG,e,if_false,Dv,this]
theorem QY (w:WS) (p:Pr) (h:JT w.pres):JT (w.add p).pres:=by
 intro k q hk
 rw [WS.add,Xv] at hk
 dsimp only at hk
 by_cases e:k=B9 p.at
 ·subst e
  rw [Om] at hk
  cases hk;rfl
 ·rw [Ja _ _ e] at hk
  exact h k q hk
theorem Ao4 {M:Seat} (ok:OkT M) (s:SM) (hs:s.n < 1099511627776):∃ s',S7 M s s'∧s'.m=Tr s.w.pres s.m∧(JT s.w.pres→JT s'.w.pres):=by
 obtain ⟨w,l,n,q,m⟩:=s
 by_cases ha:Aaj m
 ·obtain ⟨f,g,pc,hl,xt⟩:=m
  obtain ⟨h1,hpc,h2,ho⟩:=ha
  dsimp only at h1 hpc h2 ho hs
  subst h1
  rcases ho with ⟨hop,hw⟩ | ⟨hop,hw⟩
  ·simp only [Bool.and_eq_true] at hw
   have ha:=B8 hw.1
   have hb:=B8 hw.2
   have hX:=Aov w.pres f g pc xt hpc _ rfl hop h2 hw.1 hw.2
   cases n with
   | zero=>exact ⟨⟨_,l,0,q,⟨_,g,_,false,xt⟩⟩,.intro (.NN rfl rfl (L6 ok.okA ok.ok w l f g pc xt hpc _ rfl hop h2 ha hb)) Bu,hX.symm,QY _ _⟩
   | succ n=>exact ⟨⟨_,l,n + 1,q,⟨_,g,_,false,xt⟩⟩,.intro (.SS (Nat.succ_pos _) (Nat.succ_pos _) (Ks (n + 1) q ok.okA ok.ok w l f g pc xt hpc _ rfl hop h2 ha hb)) Bu,hX.symm,QY _ _⟩
  ·simp only [Bool.and_eq_true] at hw
   have ha:=B8 hw.1
   have hb:=B8 hw.2
   have hX:=Aoz w.pres f g pc xt hpc _ rfl hop h2 hw.1 hw.2
   obtain ⟨D,hD⟩:∃ D,Dg.mk' (A6 fun j=>f ((g (pF (f pc.toNat) 48)).toNat + j))=D:=⟨_,rfl⟩
   rw [hD] at hX
   obtain ⟨sn,hs'⟩:∃ sn,was l D sn:=by
    cases hc:Dv D l with
    | none=>exact ⟨false,.inr ⟨rfl,.inl hc⟩⟩
    | some b => cases b with
      | false=>exact ⟨false,.inr ⟨rfl,.inr hc⟩⟩
      | true=>exact ⟨true,.inl ⟨rfl,hc⟩⟩
   cases n with
   | zero =>
     have h:=PJ ok.okA ok.ok w l f g pc xt hpc _ rfl hop h2 ha hb D hD _ sn rfl hs'
     rw [hX] at h
     cases sn with
     | true=>exact ⟨⟨w,l,0,q,_⟩,.intro (.NN rfl rfl h) Bu,rfl,id⟩
     | false=>exact ⟨⟨w,_,1,fun _=>D,_⟩,.intro (.NS rfl Nat.one_pos h) Bu,rfl,id⟩
   | succ n =>
     have h:=OM ok.okA ok.ok w (n + 1) hs q l f g pc xt hpc _ rfl hop h2 ha hb D hD _ sn rfl hs'
     rw [hX] at h
     cases sn with
     | true=>exact ⟨⟨w,l,n + 1,q,_⟩,.intro (.SS (Nat.succ_pos _) (Nat.succ_pos _) h) Bu,rfl,id⟩
     | false=>exact ⟨⟨w,_,n + 1 + 1,_,_⟩,.intro (.SN (Nat.succ_pos _) (Nat.succ_pos _) h) Bu,rfl,id⟩
 ·exact ⟨⟨w,l,n,q,Tr w.pres m⟩,⟨.mach (Apb ok.ok ok.okP w.pres m ha) rfl,Nat.le_succ _⟩,rfl,id⟩
def Aki:LC:=(.seq (sr [mt 22 0,nc 23 22,fa 24 3 23,lb 25 1 24] (.cond (.t 25) .ret .skip)) (.seq (sr [mt 26 0,nc 27 26,fa 28 2 27,lb 29 1 28,
  aU 30 .geq 29 8192] (.cond (.t 30) (sr [mt 31 0,kl 32 342 [(.t 31),(cU 18446744073709551614)]] .ret) .skip)) (.seq (.regd [⟨0,0,mt 34 0⟩,⟨1,1,nc 35 34⟩,⟨2,3,fa 36 0 35⟩,⟨3,7,lb 37 1 36⟩,⟨4,0,mt 38 0⟩,⟨5,16,nc 39 38⟩,⟨6,48,fa 40 2 39⟩,⟨7,112,lb 41 1 40⟩,⟨8,255,ia 42 1 37 41⟩,⟨9,511,lb 43 1 42⟩,⟨10,1023,kl 44 78 [(.t 43)]⟩,⟨11,2047,mt 33 44⟩,⟨12,4095,ee 45 33 0⟩,⟨13,4095,ee 46 33 1⟩,⟨14,4095,ee 47 33 2⟩,⟨15,8191,mt 4 45⟩,⟨16,49151,mt 5 46⟩,⟨17,131071,mt 6 47⟩]) (.seq (sr [mt 48 6,A1 49 (.un .not (.t 48))] (.cond (.t 49) (sr [mt 50 0,kl 51 342 [(.t 50),(cU 18446744073709551614)]] .ret) .skip)) (sr [mt 52 0,nc 53 52,fa 54 1 53,lb 55 1 54,mt 7 55] (sr [mt 56 4,
  iJ 57 1 56 0,lb 58 1 57,mt 8 58] (.seq (.regd [⟨0,0,mt 59 7⟩,⟨1,0,mt 60 4⟩,⟨2,2,iJ 61 1 60 2⟩,⟨3,6,lb 62 1 61⟩,⟨4,15,ia 63 1 59 62⟩,⟨5,31,lb 64 1 63⟩,⟨6,0,mt 65 7⟩,⟨7,0,mt 66 4⟩,⟨8,128,iJ 67 1 66 3⟩,⟨9,384,lb 68 1 67⟩,⟨10,960,ia 69 1 65 68⟩,⟨11,1984,lb 70 1 69⟩,⟨12,63,mt 9 64⟩,⟨13,8191,mt 10 70⟩]) (sr [mt 71 0,nc 72 71,fa 73 2 72,lb 74 1 73,
  aU 75 .add 74 1,mt 11 75] (.seq (.block 0 (sr [mt 77 8,aI 78 .eql 77 0,mt 76 78] (.cond (.t 76) (sr [mt 79 0,mt 80 9,kl 81 342 [(.t 79),(.t 80)]] .ret) (sr [mt 83 8,aI 84 .leq 83 25,mt 82 84] (.cond (.t 82) (sr [mt 86 8,mt 87 9,mt 88 10,mt 89 7,mt 90 4,
  iJ 91 1 90 4,lb 92 1 91,ia 93 1 89 92,lb 94 1 93,kl 95 90 [(.t 86),(.t 87),(.t 88),(.t 94)],mt 85 95,ee 96 85 0,ee 97 85 1,mt 12 96,mt 13 97] (.reg [mt 98 7,mt 99 4,
  iJ 100 1 99 1,lb 101 1 100,mt 102 12,ia 103 1 98 101,sb 1 103 102])) (sr [mt 105 8,aI 106 .eql 105 26,mt 104 106] (.cond (.t 104) (.reg [mt 107 7,mt 108 4,
  iJ 109 1 108 1,lb 110 1 109,mt 111 5,ia 112 1 107 110,sb 1 112 111]) (sr [mt 114 8,aI 115 .eql 114 27,mt 116 115,mg 117 116 false 8,A2 118 116 false (.ari .eql (.t 117) (cI 28)),
  pKt 119 116 118,mt 113 119] (.cond (.t 113) (.seq (sr [mt 120 9,mt 121 5,ak 122 .add 120 121,
  aU 123 .geq 122 8192] (.cond (.t 123) (sr [mt 124 0,kl 125 342 [(.t 124),(cU 18446744073709551614)]] .ret) .skip)) (sr [mt 126 8,aI 127 .eql 126 27] (.cond (.t 127) (.regd [⟨0,0,mt 128 7⟩,⟨1,0,mt 129 4⟩,⟨2,2,iJ 130 1 129 1⟩,⟨3,6,lb 131 1 130⟩,⟨4,0,mt 132 0⟩,⟨5,16,nc 133 132⟩,⟨6,48,fa 134 0 133⟩,⟨7,112,lb 135 1 134⟩,⟨8,0,mt 136 9⟩,⟨9,0,mt 137 5⟩,⟨10,768,ak 138 .add 136 137⟩,⟨11,2032,ia 139 1 135 138⟩,⟨12,4080,lb 140 1 139⟩,⟨13,8191,ia 141 1 128 131⟩,⟨14,16383,sb 1 141 140⟩]) (.reg [mt 142 0,nc 143 142,fa 144 0 143,lb 145 1 144,mt 146 9,mt 147 5,ak 148 .add 146 147,mt 149 10,ia 150 1 145 148,sb 1 150 149])))) (sr [mt 152 8,aI 153 .leq 152 33,mt 151 153] (.cond (.t 151) (.seq (sr [mt 154 8,aI 155 .eql 154 29,mt 156 155,mg 157 156 false 8,A2 158 156 false (.ari .eql (.t 157) (cI 32)),
  pKt 159 156 158,mt 160 159,mg 161 160 false 8,A2 162 160 false (.ari .eql (.t 161) (cI 30)),mg 163 160 false 162,mg 164 163 true 9,A2 165 163 true (.ari .eql (.t 164) (cU 0)),A2 166 160 false (.pick (.t 163) (.t 165) (.c (.bool false))),
  pKt 167 160 166,mt 168 167,mg 169 168 false 8,A2 170 168 false (.ari .eql (.t 169) (cI 31)),mg 171 168 false 170,mg 172 171 true 9,A2 173 171 true (.ari .neq (.t 172) (cU 0)),A2 174 168 false (.pick (.t 171) (.t 173) (.c (.bool false))),
  pKt 175 168 174] (.cond (.t 175) (.reg [mt 176 5,mt 11 176]) .skip)) (.seq (sr [mt 177 8,aI 178 .eql 177 33] (.cond (.t 178) (.reg [mt 179 9,mt 11 179]) .skip)) (.seq (sr [mt 180 11,
  aU 181 .geq 180 8192,mt 182 181,mg 183 182 true 11,mg 184 182 true 0,A2 185 182 true (.nilc (.t 184)),A2 186 182 true (.fadr 2 (.t 185)),A2 187 182 true (.load false 1 (.t 186)),A2 188 182 true (.ari .add (.t 187) (cU 1)),A2 189 182 true (.ari .neq (.t 183) (.t 188)),mg 190 182 true 189,mg 191 190 false 8,A2 192 190 false (.ari .eql (.t 191) (cI 29)),A2 193 182 true (.pick (.t 190) (.c (.bool true)) (.t 192)),mg 194 182 true 193,mg 195 194 false 8,A2 196 194 false (.ari .eql (.t 195) (cI 32)),A2 197 182 true (.pick (.t 194) (.c (.bool true)) (.t 196)),mg 198 182 true 197,mg 199 198 false 8,A2 200 198 false (.ari .eql (.t 199) (cI 33)),A2 201 182 true (.pick (.t 198) (.c (.bool true)) (.t 200)),mg 202 182 true 201,mg 203 202 false 8,A2 204 202 false (.ari .eql (.t 203) (cI 30)),mg 205 202 false 204,mg 206 205 true 9,A2 207 205 true (.ari .eql (.t 206) (cU 0)),A2 208 202 false (.pick (.t 205) (.t 207) (.c (.bool false))),A2 209 182 true (.pick (.t 202) (.c (.bool true)) (.t 208)),mg 210 182 true 209,mg 211 210 false 8,A2 212 210 false (.ari .eql (.t 211) (cI 31)),mg 213 210 false 212,mg 214 213 true 9,A2 215 213 true (.ari .neq (.t 214) (cU 0)),A2 216 210 false (.pick (.t 213) (.t 215) (.c (.bool false))),A2 217 182 true (.pick (.t 210) (.c (.bool true)) (.t 216)),
  pKf 218 182 217] (.cond (.t 218) (sr [mt 219 0,kl 220 342 [(.t 219),(cU 18446744073709551614)]] .ret) .skip)) (sr [mt 221 8,aI 222 .eql 221 32] (.cond (.t 222) (.regd [⟨0,0,mt 223 7⟩,⟨1,0,mt 224 4⟩,⟨2,2,iJ 225 1 224 1⟩,⟨3,6,lb 226 1 225⟩,⟨4,0,mt 227 0⟩,⟨5,16,nc 228 227⟩,⟨6,48,fa 229 2 228⟩,⟨7,112,lb 230 1 229⟩,⟨8,240,aU 231 .add 230 1⟩,⟨9,511,ia 232 1 223 226⟩,⟨10,1023,sb 1 232 231⟩]) .skip))))) (sr [mt 234 8,aI 235 .eql 234 34,mt 233 235] (.cond (.t 233) (.seq (sr [mt 236 9,kl 237 343 [(.t 236),(cU 8)],A1 238 (.un .not (.t 237)),mt 239 238,mg 240 239 false 10,⟨(some 241),.call 343 [(.t 240),(cU 4)],(some (239,false))⟩,A2 242 239 false (.un .not (.t 241)),
  pKt 243 239 242] (.cond (.t 243) (sr [mt 244 0,kl 245 342 [(.t 244),(cU 18446744073709551614)]] .ret) .skip)) (sr [mt 246 1,mt 247 0,nc 248 247,fa 249 0 248,lb 250 1 249,mt 251 9,mt 252 9,
  aU 253 .add 252 8,A1 254 (.slsl 1 (.t 250) (some (.t 251)) (some (.t 253))),kl 255 344 [(.t 254)],kl 256 219 [(.t 246),(.t 255)],
  aB 14 32,sb 32 14 256] (sr [mU 15 0] (.block 1 (.loop (.seq (sr [mt 257 15,
  aU 258 .lss 257 32]
 (cXx 258 1)) (.seq (.block 2 (.regd [⟨0,0,mt 261 0⟩,⟨1,1,nc 262 261⟩,⟨2,3,fa 263 0 262⟩,⟨3,7,lb 264 1 263⟩,⟨4,0,mt 265 10⟩,⟨5,0,mt 266 15⟩,⟨6,32,aU 267 .quo 266 8⟩,⟨7,112,ak 268 .add 265 267⟩,⟨8,0,mt 269 0⟩,⟨9,256,nc 270 269⟩,⟨10,768,fa 271 0 270⟩,⟨11,1792,lb 272 1 271⟩,⟨12,0,mt 273 10⟩,⟨13,0,mt 274 15⟩,⟨14,8192,aU 275 .quo 274 8⟩,⟨15,28672,ak 276 .add 273 275⟩,⟨16,65280,ia 277 1 272 276⟩,⟨17,130816,lb 278 1 277⟩,⟨18,261888,aU 279 .mul 278 256⟩,⟨19,0,mt 280 15⟩,⟨20,524288,ib 281 32 1 14 280⟩,⟨21,1572864,lb 282 1 281⟩,⟨22,3670016,cVv 283 .u64 282⟩,⟨23,8388352,ak 284 .add 279 283⟩,⟨24,16777215,ia 285 1 264 268⟩,⟨25,33554431,sb 1 285 284⟩])) (.reg [mt 259 15,
  aU 260 .add 259 1,mt 15 260])))))))) (sr [mt 287 8,aI 288 .eql 287 35,mt 286 288] (.cond (.t 286) (.seq (sr [mt 289 9,kl 290 343 [(.t 289),(cU 4)],A1 291 (.un .not (.t 290)),mt 292 291,mg 293 292 false 10,⟨(some 294),.call 343 [(.t 293),(cU 8)],(some (292,false))⟩,A2 295 292 false (.un .not (.t 294)),
  pKt 296 292 295] (.cond (.t 296) (sr [mt 297 0,kl 298 342 [(.t 297),(cU 18446744073709551614)]] .ret) .skip)) (sr [A1 299 (.bsl 1 0 (.int .u64) []),mt 300 0,nc 301 300,fa 302 0 301,lb 303 1 302,mt 304 9,mt 305 9,
  aU 306 .add 305 4,A1 307 (.slsl 1 (.t 303) (some (.t 304)) (some (.t 306))),
  aP 308 1 8 299 307,A1 309 (.bsl 1 4 (.int .u64) [(.i 1 0,1,(cU 0)),(.i 1 1,1,(cU 0)),(.i 1 2,1,(cU 0)),(.i 1 3,1,(cU 0))]),
  aP 310 1 8 308 309,kl 311 344 [(.t 310)],
  aB 16 64,sb 64 16 311] (sr [aB 17 32] (.seq (sr [mI 18 0] (.block 3 (.loop (.seq (sr [mt 312 18,aI 313 .lss 312 32]
 (cXx 313 3)) (.seq (.block 4 (.reg [mt 316 18,mt 317 18,ib 318 64 1 16 317,lb 319 1 318,ib 320 32 1 17 316,sb 1 320 319])) (.reg [mt 314 18,aI 315 .add 314 1,mt 18 315])))))) (sr [mt 322 1,la 323 32 17,kl 324 345 [(.t 322),(.t 323)],mt 321 324,ee 325 321 0,ee 326 321 1,
  aB 19 64,sb 64 19 325,mt 20 326] (.seq (sr [mt 327 20,aI 328 .neq 327 0] (.cond (.t 328) (sr [mt 329 0,kl 330 342 [(.t 329),(cU 18446744073709551615)]] .ret) .skip)) (sr [mU 21 0] (.block 5 (.loop (.seq (sr [mt 331 21,
  aU 332 .lss 331 64]
 (cXx 332 5)) (.seq (.block 6 (.regd [⟨0,0,mt 335 0⟩,⟨1,1,nc 336 335⟩,⟨2,3,fa 337 0 336⟩,⟨3,7,lb 338 1 337⟩,⟨4,0,mt 339 10⟩,⟨5,0,mt 340 21⟩,⟨6,32,aU 341 .quo 340 8⟩,⟨7,112,ak 342 .add 339 341⟩,⟨8,0,mt 343 0⟩,⟨9,256,nc 344 343⟩,⟨10,768,fa 345 0 344⟩,⟨11,1792,lb 346 1 345⟩,⟨12,0,mt 347 10⟩,⟨13,0,mt 348 21⟩,⟨14,8192,aU 349 .quo 348 8⟩,⟨15,28672,ak 350 .add 347 349⟩,⟨16,65280,ia 351 1 346 350⟩,⟨17,130816,lb 352 1 351⟩,⟨18,261888,aU 353 .mul 352 256⟩,⟨19,0,mt 354 21⟩,⟨20,524288,ib 355 64 1 19 354⟩,⟨21,1572864,lb 356 1 355⟩,⟨22,3670016,cVv 357 .u64 356⟩,⟨23,8388352,ak 358 .add 353 357⟩,⟨24,16777215,ia 359 1 338 342⟩,⟨25,33554431,sb 1 359 358⟩])) (.reg [mt 333 21,
  aU 334 .add 333 1,mt 21 334])))))))))))) .skip))))))))))))))) (.reg [mt 360 0,mt 361 11,nc 362 360,fa 363 2 362,sb 1 363 361]))))))))))
def Af8:LF:=⟨Aki,2,0,364,[]⟩
def Aku:LC:=(sr [mt 4 0,nc 5 4,fa 6 3 5,A0 (.store 1 (.t 6) (.c (.bool true)))] (.reg [mt 7 0,mt 8 1,nc 9 7,fa 10 4 9,sb 1 10 8]))
def Ago:LF:=⟨Aku,2,0,11,[]⟩
def Ama:LC:=(sr [A1 4 (.mv (.c (.bool false)))] (sr [mt 5 0,
  aU 6 .lss 5 8192,mt 7 6,mg 8 7 true 0,mg 9 7 true 1,A2 10 7 true (.ari .add (.t 8) (.t 9)),A2 11 7 true (.ari .leq (.t 10) (cU 8192)),
  pKf 12 7 11,mt 4 12] .ret))
def Ahm:LF:=⟨Ama,2,0,13,[.tmp 4]⟩
def Ak7:LC:=(sr [aB 2 64] (sr [aB 3 64] (.seq (sr [mI 4 0] (.block 0 (.loop (.seq (sr [mt 5 4,aI 6 .lss 5 64]
 (cXx 6 0)) (.seq (.block 1 (.reg [mt 9 4,mt 10 0,mt 11 4,aI 12 .quo 11 8,ia 13 1 10 12,lb 14 1 13,mt 15 4,aI 16 .rem 15 8,
  aJ 17 .mul 8 16,
  aJ 18 .sub 56 17,
  cVv 19 .u64 18,ak 20 .shr 14 19,
  cVv 21 .u8 20,ib 22 64 1 3 9,sb 1 22 21])) (.reg [mt 7 4,aI 8 .add 7 1,mt 4 8])))))) (sr [la 23 64 3,sb 64 2 23] .ret))))
def Ahl:LF:=⟨Ak7,1,0,24,[.cell 2 true 64]⟩
def Af3:LC:=(sr [bX 3 1,
 aB 4 64,
 mI 5 0] (sr [A1 6 (.mv (.c (.bool false)))] (.seq (sr [mI 7 0] (.block 0 (.loop (.seq (sr [mt 9 7,mt 10 0,nc 11 10,fa 12 2 11,lb 13 1 12,
  lN 14 0 13,ak 15 .lss 9 14]
 (cXx 15 0)) (.seq (.block 1 (.regd [⟨0,0,mt 18 6⟩,⟨1,1,mt 19 18⟩,⟨2,3,mg 20 19 false 0⟩,⟨3,7,A2 21 19 false (.nilc (.t 20))⟩,⟨4,15,A2 22 19 false (.fadr 2 (.t 21))⟩,⟨5,31,A2 23 19 false (.load false 1 (.t 22))⟩,⟨6,3,mg 24 19 false 7⟩,⟨7,127,A2 25 19 false (.isl 32 (.t 23) (.t 24))⟩,⟨8,255,A2 26 19 false (.load true 32 (.t 25))⟩,⟨9,3,A2 27 19 false (.load true 32 (.t 3))⟩,⟨10,1023,A2 28 19 false (.eq false false (.ar 32 1 false .int) (.t 26) (.t 27))⟩,⟨11,2047,pKt 29 19 28⟩,⟨12,4095,mt 6 29⟩])) (.reg [mt 16 7,aI 17 .add 16 1,mt 7 17])))))) (.seq (sr [mt 30 6,A1 31 (.un .not (.t 30))] (.cond (.t 31) (.regd [⟨1,0,mt 33 0⟩,⟨2,1,nc 34 33⟩,⟨3,3,fa 35 2 34⟩,⟨4,7,lb 36 1 35⟩,⟨5,0,la 37 32 3⟩,⟨6,16,A1 38 (.bsl 32 1 (.ar 32 (.int .u8)) [(.i 32 0,32,(.t 37))])⟩,⟨7,63,aP 39 32 32 36 38⟩,⟨0,0,mt 32 0⟩,⟨8,255,nc 40 32⟩,⟨9,511,fa 41 2 40⟩,⟨10,1023,sb 1 41 39⟩]) .skip)) (sr [mt 42 0,la 43 32 3,kl 44 330 [(.t 42),(.t 43)],mt 8 44] (.seq (sr [mt 45 8,aI 46 .lss 45 0] (.cond (.t 46) (sr [A1 47 (.build (.ar 64 (.int .u8)) []),sb 64 4 47,
  mI 5 14] .ret) .skip)) (sr [mt 48 0,nc 49 48,fa 50 1 49,lb 51 1 50,mt 52 8,ia 53 64 51 52,la 54 64 53,sb 64 4 54,
  mI 5 0] .ret)))))))
def Aaw:LF:=⟨Af3,2,0,55,[.cell 4 true 64,.tmp 5]⟩
end Mv
