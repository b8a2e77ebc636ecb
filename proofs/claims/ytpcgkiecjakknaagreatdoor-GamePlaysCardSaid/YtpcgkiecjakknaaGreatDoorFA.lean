/- A part. -/
import Derived.Test.YtpcgkiecjakknaaGreatDoorEX
set_option linter.all false
set_option maxRecDepth 20000
set_option maxHeartbeats 4000000
namespace Mv
open Go
def Wz:ByteArray:=⟨#[0,1,2,2,3,3,3,3,4,4,4,4,4,4,4,4,5,5,5,5,5,5,5,5,5,5,5,5,5,5,5,5,6,6,6,6,6,6,6,6,6,6,6,6,6,6,6,6,6,6,6,6,6,6,6,6,6,6,6,6,6,6,6,6,7,7,7,7,7,7,7,7,7,7,7,7,7,7,7,7,7,7,7,7,7,7,7,7,7,7,7,7,7,7,7,7,7,7,7,7,7,7,7,7,7,7,7,7,7,7,7,7,7,7,7,7,7,7,7,7,7,7,7,7,7,7,7,7,8,8,8,8,8,8,8,8,8,8,8,8,8,8,8,8,8,8,8,8,8,8,8,8,8,8,8,8,8,8,8,8,8,8,8,8,8,8,8,8,8,8,8,8,8,8,8,8,8,8,8,8,8,8,8,8,8,8,8,8,8,8,8,8,8,8,8,8,8,8,8,8,8,8,8,8,8,8,8,8,8,8,8,8,8,8,8,8,8,8,8,8,8,8,8,8,8,8,8,8,8,8,8,8,8,8,8,8,8,8,8,8,8,8,8,8,8,8,8,8,8,8,8,8,8,8,8,8]⟩
def Ug:LC:=(sr [mI 2 0] (.seq (sr [mt 3 0,
  aU 4 .geq 3 4294967296] (.cond (.t 4) (sr [mt 5 0,
  aU 6 .shr 5 32,mt 0 6] (.reg [mI 2 32])) .skip)) (.seq (sr [mt 7 0,
  aU 8 .geq 7 65536] (.cond (.t 8) (sr [mt 9 0,
  aU 10 .shr 9 16,mt 0 10] (.reg [mt 11 2,aI 12 .add 11 16,mt 2 12])) .skip)) (.seq (sr [mt 13 0,
  aU 14 .geq 13 256] (.cond (.t 14) (sr [mt 15 0,
  aU 16 .shr 15 8,mt 0 16] (.reg [mt 17 2,aI 18 .add 17 8,mt 2 18])) .skip)) (sr [mt 19 2,mt 20 0,
  D0 21 .u8 20,A1 22 (.sidx (.c (.str Wz)) (.t 21)),
  D0 23 .i64 22,ak 24 .add 19 23,mt 2 24] .ret)))))
def Up:LF:=⟨Ug,1,0,25,[.tmp 2]⟩
structure OkP (M:Seat):Prop where
 k215:Au M 215 f215=true
 k259:Au M 259 Up=true
def Z2 (t:Bool):BitVec 64:=if t then 1#64 else 0#64
def Y1 (op:Nat) (a b:BitVec 64):BitVec 64 :=
 if b=0#64 then 0#64 else if op=4 then a / b else if op=6 then a % b
 else if op=5 then (if ((a.toInt < 0) ↔ (b.toInt < 0)) then (if a.toInt < 0 then -a else a) / (if b.toInt < 0 then -b else b) else -((if a.toInt < 0 then -a else a) / (if b.toInt < 0 then -b else b)))
 else if a.toInt < 0 then -((-a) % (if b.toInt < 0 then -b else b)) else a % (if b.toInt < 0 then -b else b)
def pwr:Nat→BitVec 64→BitVec 64→BitVec 64→BitVec 64
 | 0,_,_,p=>p
 | k + 1,a,b,p=>if b=0#64 then p else pwr k (a * a) (b >>> 1) (if b &&& 1#64=1#64 then p * a else p)
def GO (i:Nat):Nat:=((Wz[i]?).getD 0).toNat
theorem En:∀ i,i < 256→GO i≤8∧(i ≠ 0→1≤GO i∧2 ^ (GO i - 1)≤i∧i < 2 ^ GO i):=by
 have h:(List.range 256).all (fun i=>decide (GO i≤8) && (i == 0 || (decide (1≤GO i) && decide (2 ^ (GO i - 1)≤i) && decide (i < 2 ^ GO i))))=true:=by kernel_rfl
 intro i hi
 have:=List.all_eq_true.1 h i (List.mem_range.2 hi)
 simp only [Bool.and_eq_true,Bool.or_eq_true,beq_iff_eq,decide_eq_true_eq] at this
 exact ⟨this.1,fun h0=>by rcases this.2 with h | h;exact absurd h h0;exact ⟨h.1.1,h.1.2,h.2⟩⟩
def MJ (x:BitVec 64):Nat × BitVec 64:=if 4294967296#64≤x then (32,x >>> 32) else (0,x)
def NJ (s:Nat × BitVec 64):Nat × BitVec 64:=if 65536#64≤s.2 then (s.1 + 16,s.2 >>> 16) else s
def Kx (s:Nat × BitVec 64):Nat × BitVec 64:=if 256#64≤s.2 then (s.1 + 8,s.2 >>> 8) else s
def Cu (x:BitVec 64):Nat:=(Kx (NJ (MJ x))).1 + GO (Kx (NJ (MJ x))).2.toNat
theorem S8 {n t i x:Nat} (hi:x / 2 ^ n=i) (h1:1≤t) (h2:2 ^ (t - 1)≤i) (h3:i < 2 ^ t):2 ^ (n + t - 1)≤x∧x < 2 ^ (n + t):=by
 have hp:0 < 2 ^ n:=Nat.two_pow_pos n
 have e1:2 ^ (n + t - 1)=2 ^ (t - 1) * 2 ^ n:=Ul
 have e2:2 ^ (n + t)=2 ^ t * 2 ^ n:=Ul
 rw [e1,e2]
 subst hi
 exact ⟨Nat.le_trans (Nat.mul_le_mul_right _ h2) (Nat.div_mul_le_self x _),(Nat.div_lt_iff_lt_mul hp).1 h3⟩
theorem Ni (x:BitVec 64):∃ n,(Kx (NJ (MJ x))).1=n∧n≤56∧(Kx (NJ (MJ x))).2.toNat < 256∧x.toNat / 2 ^ n=(Kx (NJ (MJ x))).2.toNat∧(x ≠ 0#64→(Kx (NJ (MJ x))).2.toNat ≠ 0):=by
 have hx:=x.isLt
 have hz:x ≠ 0#64→x.toNat ≠ 0:=fun h h'=>h (BitVec.eq_of_toNat_eq (by simpa using h'))
 have e1:(4294967296#64).toNat=4294967296:=rfl
 have e2:(65536#64).toNat=65536:=rfl
 have e3:(256#64).toNat=256:=rfl
 by_cases h1:4294967296#64≤x
 all_goals simp only [MJ,h1,CL,NJ]
 ·have g1:=h1
  rw [BitVec.le_def,e1] at g1
  by_cases h2:65536#64≤x >>> 32
  all_goals simp only [h2,CL,Kx]
  ·have g2:=h2
   rw [BitVec.le_def,e2,BitVec.toNat_ushiftRight,Nat.shiftRight_eq_div_pow] at g2
   by_cases h3:256#64≤x >>> 32 >>> 16
   all_goals simp only [h3,CL]
   all_goals (have g3:=h3;rw [BitVec.le_def,e3,BitVec.toNat_ushiftRight,Nat.shiftRight_eq_div_pow,BitVec.toNat_ushiftRight,Nat.shiftRight_eq_div_pow] at g3)
   all_goals try simp only [Lb4]
   ·exact ⟨56,rfl,by omega,by omega,by omega,by omega⟩
   ·exact ⟨48,rfl,by omega,by omega,by omega,by omega⟩
  ·have g2:=h2
   rw [BitVec.le_def,e2,BitVec.toNat_ushiftRight,Nat.shiftRight_eq_div_pow] at g2
   by_cases h3:256#64≤x >>> 32
   all_goals simp only [h3,CL]
   all_goals (have g3:=h3;rw [BitVec.le_def,e3,BitVec.toNat_ushiftRight,Nat.shiftRight_eq_div_pow] at g3)
   all_goals try simp only [Lb4]
   ·exact ⟨40,rfl,by omega,by omega,by omega,by omega⟩
   ·exact ⟨32,rfl,by omega,by omega,by omega,by omega⟩
 ·have g1:=h1
  rw [BitVec.le_def,e1] at g1
  by_cases h2:65536#64≤x
  all_goals simp only [h2,CL,Kx]
  ·have g2:=h2
   rw [BitVec.le_def,e2] at g2
   by_cases h3:256#64≤x >>> 16
   all_goals simp only [h3,CL]
   all_goals (have g3:=h3;rw [BitVec.le_def,e3,BitVec.toNat_ushiftRight,Nat.shiftRight_eq_div_pow] at g3)
   all_goals try simp only [Lb4]
   ·exact ⟨24,rfl,by omega,by omega,by omega,by omega⟩
   ·exact ⟨16,rfl,by omega,by omega,by omega,by omega⟩
  ·have g2:=h2
   rw [BitVec.le_def,e2] at g2
   by_cases h3:256#64≤x
   all_goals simp only [h3,CL]
   all_goals (have g3:=h3;rw [BitVec.le_def,e3] at g3)
   all_goals try simp only [Lb4]
   ·exact ⟨8,rfl,by omega,by omega,by omega,by omega⟩
   ·exact ⟨0,rfl,by omega,by omega,by omega,by omega⟩
theorem Jx (x:BitVec 64):Cu x≤64∧(x ≠ 0#64→1≤Cu x∧2 ^ (Cu x - 1)≤x.toNat∧x.toNat < 2 ^ Cu x):=by
 obtain ⟨n,h1,h2,h3,h4,h5⟩:=Ni x
 obtain ⟨q1,q2⟩:=En _ h3
 unfold Cu
 rw [h1]
 refine ⟨by omega,fun h0=>?_⟩
 obtain ⟨k1,k2,k3⟩:=q2 (h5 h0)
 obtain ⟨j1,j2⟩:=S8 h4 k1 k2 k3
 exact ⟨by omega,j1,j2⟩
theorem HV (b:BitVec 8) (H:Hp):Vs (.str Wz) (B b) H=⟨True,.int .u8 (GO b.toNat),H⟩:=by
 have h:=b.isLt
 have hs:Wz.size=256:=rfl
 show (⟨_,_,_⟩:Out)=_
 congr 1
 exact eq_true ⟨by omega,by rw [hs];omega⟩
theorem H4 {n:Nat} (h:n < 9223372036854775808):IntKind.i64.wrap (n:Int)=n:=AY Aa
theorem GN (k:Int) (y:Nat) (hy:y < 256) (h0:0≤k) (h1:k≤56):IntKind.i64.wrap (k + (GO y:Int))=k + (GO y:Int):=by
 have:=(En y hy).1
 rw [AY Aa]
theorem FO {M:Seat} (ok:OkP M) (a:BitVec 64):Ag M 259 [W a] [] 0 (Q3 (.int .i64 (Cu a)) [] 0):=by
 refine Ab ok.k259 rfl fun x hx=>?_
 have e32:(32#64).toNat=32:=rfl
 have e16:(16#64).toNat=16:=rfl
 have e8:(8#64).toNat=8:=rfl
 have w0:IntKind.i64.wrap 0=0:=rfl
 have w1:IntKind.i64.wrap 48=48:=rfl
 have w2:IntKind.i64.wrap 56=56:=rfl
 have w3:IntKind.i64.wrap 40=40:=rfl
 have w4:IntKind.i64.wrap 16=16:=rfl
 have w5:IntKind.i64.wrap 24=24:=rfl
 have w6:IntKind.i64.wrap 8=8:=rfl
 have w7:IntKind.i64.wrap 32=32:=rfl
 have hlen:=Ni a
 unfold Cu
 have ht:∀ y:BitVec 64,y.toNat < 256→((BitVec.setWidth 8 y).toNat=y.toNat∧GO y.toNat≤8):=fun y hy=>⟨by rw [BitVec.toNat_setWidth];omega,(En _ hy).1⟩
 by_cases h1:4294967296#64≤a
 all_goals simp only [MJ,h1,CL,NJ] at hlen ⊢
 ·by_cases h2:65536#64≤a >>> 32
  all_goals simp only [h2,CL,Kx] at hlen ⊢
  ·by_cases h3:256#64≤a >>> 32 >>> 16
   all_goals simp only [h3,CL] at hlen ⊢
   all_goals obtain ⟨n,hn,hn2,hy,-⟩:=hlen
   all_goals obtain ⟨hq,hk⟩:=ht _ hy
   all_goals (refine es 2000 ?_;(simp only [Up,Ug,e32,e16,e8,w0,w1,w2,w3,w4,w5,w6,w7,h1,h2,h3,HV,hq,H4 (Nat.lt_of_le_of_lt hk (by decide:8 < 9223372036854775808)),GN 56 _ hy Aa Aa,GN 48 _ hy Aa Aa,GN 40 _ hy Aa Aa,GN 32 _ hy Aa Aa,GN 24 _ hy Aa Aa,GN 16 _ hy Aa Aa,GN 8 _ hy Aa Aa,Int.zero_add,H4 (Nat.lt_of_le_of_lt (En _ hy).1 (by decide:8 < 9223372036854775808)),LZ,seval]);exact Ar.mkZ hx [] ⟨rfl,rfl,rfl⟩)
  ·by_cases h3:256#64≤a >>> 32
   all_goals simp only [h3,CL] at hlen ⊢
   all_goals obtain ⟨n,hn,hn2,hy,-⟩:=hlen
   all_goals obtain ⟨hq,hk⟩:=ht _ hy
   all_goals (refine es 2000 ?_;(simp only [Up,Ug,e32,e16,e8,w0,w1,w2,w3,w4,w5,w6,w7,h1,h2,h3,HV,hq,H4 (Nat.lt_of_le_of_lt hk (by decide:8 < 9223372036854775808)),GN 56 _ hy Aa Aa,GN 48 _ hy Aa Aa,GN 40 _ hy Aa Aa,GN 32 _ hy Aa Aa,GN 24 _ hy Aa Aa,GN 16 _ hy Aa Aa,GN 8 _ hy Aa Aa,Int.zero_add,H4 (Nat.lt_of_le_of_lt (En _ hy).1 (by decide:8 < 9223372036854775808)),LZ,seval]);exact Ar.mkZ hx [] ⟨rfl,rfl,rfl⟩)
 ·by_cases h2:65536#64≤a
  all_goals simp only [h2,CL,Kx] at hlen ⊢
  ·by_cases h3:256#64≤a >>> 16
   all_goals simp only [h3,CL] at hlen ⊢
   all_goals obtain ⟨n,hn,hn2,hy,-⟩:=hlen
   all_goals obtain ⟨hq,hk⟩:=ht _ hy
   all_goals (refine es 2000 ?_;(simp only [Up,Ug,e32,e16,e8,w0,w1,w2,w3,w4,w5,w6,w7,h1,h2,h3,HV,hq,H4 (Nat.lt_of_le_of_lt hk (by decide:8 < 9223372036854775808)),GN 56 _ hy Aa Aa,GN 48 _ hy Aa Aa,GN 40 _ hy Aa Aa,GN 32 _ hy Aa Aa,GN 24 _ hy Aa Aa,GN 16 _ hy Aa Aa,GN 8 _ hy Aa Aa,Int.zero_add,H4 (Nat.lt_of_le_of_lt (En _ hy).1 (by decide:8 < 9223372036854775808)),LZ,seval]);exact Ar.mkZ hx [] ⟨rfl,rfl,rfl⟩)
  ·by_cases h3:256#64≤a
   all_goals simp only [h3,CL] at hlen ⊢
   all_goals obtain ⟨n,hn,hn2,hy,-⟩:=hlen
   all_goals obtain ⟨hq,hk⟩:=ht _ hy
   all_goals (refine es 2000 ?_;(simp only [Up,Ug,e32,e16,e8,w0,w1,w2,w3,w4,w5,w6,w7,h1,h2,h3,HV,hq,H4 (Nat.lt_of_le_of_lt hk (by decide:8 < 9223372036854775808)),GN 56 _ hy Aa Aa,GN 48 _ hy Aa Aa,GN 40 _ hy Aa Aa,GN 32 _ hy Aa Aa,GN 24 _ hy Aa Aa,GN 16 _ hy Aa Aa,GN 8 _ hy Aa Aa,Int.zero_add,H4 (Nat.lt_of_le_of_lt (En _ hy).1 (by decide:8 < 9223372036854775808)),LZ,seval]);exact Ar.mkZ hx [] ⟨rfl,rfl,rfl⟩)
end Mv
namespace Mv
def dl (y1 y0 u:BitVec 64):Nat→BitVec 64→BitVec 64→BitVec 64
 | 0,q,_=>q
 | k + 1,q,r=>if 4294967296#64≤q ∨ 4294967296#64 * r + u < q * y0 then (if 4294967296#64≤r + y1 then q - 1#64 else dl y1 y0 u k (q - 1#64) (r + y1)) else q
end Mv
namespace Mv
open Go
def Og (op:Nat) (a b:BitVec 64):BitVec 64 :=
 if op=11 then (if 7#64≤a then b else (b <<< (56#64 - 8#64 * a)).sshiftRight (56#64 - 8#64 * a).toNat)
 else if op=12 then (if 7#64 < a then 0#64 else (b >>> (56#64 - 8#64 * a)) &&& 255#64)
 else if op=13 then b <<< a else if op=14 then b >>> a else b.sshiftRight a.toNat
def apW (op:Nat) (a b c:BitVec 64):BitVec 64 :=
 if op=1 then a + b else if op=2 then a - b else if op=3 then a * b
 else if op=4 ∨ op=5 ∨ op=6 ∨ op=7 then Y1 op a b
 else if op=8 then (if c=0#64 then 0#64 else BitVec.ofNat 64 ((a.toNat + b.toNat) % c.toNat))
 else if op=9 then (if c=0#64 then 0#64 else BitVec.ofNat 64 ((a.toNat * b.toNat) % c.toNat))
 else if op=10 then pwr 64 a b 1#64
 else if op=11 ∨ op=12 ∨ op=13 ∨ op=14 ∨ op=15 then Og op a b
 else if op=16 then Z2 (decide (a < b)) else if op=17 then Z2 (decide (b < a))
 else if op=18 then Z2 (decide (a.toInt < b.toInt)) else if op=19 then Z2 (decide (b.toInt < a.toInt))
 else if op=20 then Z2 (decide (a=b)) else if op=21 then Z2 (decide (a=0#64))
 else if op=22 then a &&& b else if op=23 then a ||| b else if op=24 then a ^^^ b else a ^^^ 18446744073709551615#64
def TB (op:Nat) (f g:Nat→BitVec 64) (pc xt:BitVec 64) (d a:Nat) (to:BitVec 64):V :=
 if (op=30∧¬ g a=0#64) ∨ (op=31∧g a=0#64) then A3 f g (pc + 1#64) false xt
 else if 8192#64≤(if op=33 then g a else to) then A3 f g pc true Bn
 else A3 f (if op=32 then FI g d (pc + 1#64) else g) (if op=33 then g a else to) false xt
theorem R5 {M:Seat} (ok:OkV M) (op:Nat) (ho:op=29 ∨ op=30 ∨ op=31 ∨ op=32 ∨ op=33) (f g:Nat→BitVec 64) (pc xt:BitVec 64) (d a:Nat) (hd:d < 16) (ha:a < 16) (to:BitVec 64) :
 Ag M 216 [.ptr 0 [],.int .i64 op,.int .i64 d,.int .i64 a,W to] [(0,A3 f g pc false xt)] 1 (Q3 (.tup .fnil) [(0,TB op f g pc xt d a to)] 1):=by
 refine Ab ok.k216 rfl fun x hx=>?_
 by_cases h0:g a=0#64 <;> by_cases h1:8192#64≤to <;> by_cases h2:8192#64≤g a <;> rcases ho with rfl | rfl | rfl | rfl | rfl
 all_goals simp only [TB,h0,h1,h2,seval,Lb9,true_and,false_and,or_false,not_false_eq_true,false_or]
 all_goals refine es 2000 ?_;(simp only [Ae3,Ah9,Zt,h0,h1,h2,Int.cast_ofNat_Int,seval])
 all_goals repeat refine sd ?_
 all_goals try ((have zz:=Bb @A3.eq_1 Zh;exact Bf hx [0] ⟨rfl,rfl,rfl⟩))
 all_goals
  have zz:=@A3.eq_1;refine SM [0] (RU ok f g pc false xt Bn) ?_
  (simp only [Zt,seval])
  have zz:=Bb @A3.eq_1 Zh;exact Bf hx [0] ⟨rfl,rfl,rfl⟩
theorem Kn {M:Seat} (ok:OkV M) (op:Nat) (ho:op=29 ∨ op=30 ∨ op=31 ∨ op=32 ∨ op=33) (f g:Nat→BitVec 64) (pc xt:BitVec 64) (hpc:¬ 8192#64≤pc) (w:BitVec 64) (hw:f pc.toNat=w) (hop:CP w=op) (h2:w >>> 32 &&& 255#64=0#64) :
 Ag M 70 [.ptr 0 [],.ptr 1 []] [(0,A3 f g pc false xt)] 2 (Q3 .nili [(0,TB op f g pc xt (pF w 52) (pF w 48) (BitVec.ofInt 64 (pN w)))] 2):=by
 refine Ab ok.k70 rfl fun x hx=>?_
 have hp:pc.toNat < 8192:=YU
 have a1:=A5 w 52
 have a2:=A5 w 48
 have d1:((op:Int)=0)=False:=eq_false Aa
 have d2:((op:Int) < 26)=False:=eq_false Aa
 have d3:((op:Int)=26)=False:=eq_false Aa
 have d4:((op:Int)=27)=False:=eq_false Aa
 have d5:((op:Int)=28)=False:=eq_false Aa
 have d6:((op:Int) < 34)=True:=eq_true Aa
 refine es 2000 ?_;(simp only [f70,c70,Zt,hpc,hw,seval])
 repeat refine sd ?_
 have zz:=@BB.eq_1;refine G0 (AO ok w Aa h2) ?_
 (simp only [Mx,hop,d1,d2,d3,d4,d5,d6,seval])
 repeat refine sd ?_
 have hS:∀ H m z,Az H m z (TB op f g pc xt (pF w 52) (pF w 48) (BitVec.ofInt 64 (pN w))) (TB op f g pc xt (pF w 52) (pF w 48) (BitVec.ofInt 64 (pN w))):=by
  intro H m z
  unfold TB
  repeat' split
  all_goals simp only [A3,LY,seval]
 have hN:AC (TB op f g pc xt (pF w 52) (pF w 48) (BitVec.ofInt 64 (pN w))):=by
  unfold TB
  repeat' split
  all_goals simp only [A3,AC,UL,implies_true,and_self]
 have hR:∀ m,(TB op f g pc xt (pF w 52) (pF w 48) (BitVec.ofInt 64 (pN w))).ren m=TB op f g pc xt (pF w 52) (pF w 48) (BitVec.ofInt 64 (pN w)):=by
  intro m
  unfold TB
  repeat' split
  all_goals rfl
 have zz:=Bb @A3.eq_1 hN;refine SM [0] (R5 ok op ho f g pc xt (pF w 52) (pF w 48) Aa Aa (BitVec.ofInt 64 (pN w))) ?_
 (simp only [hR,LZ,seval])
 have zz:=hS;exact Bf hx [0,1] ⟨rfl,rfl,rfl⟩
def wi (a n:BitVec 64):Bool:=decide (a≤8192#64) && decide (n≤8192#64 - a)
variable {M:Seat}
def Gh (H H':Hp):Prop:=∀ i,Af H' i=Af H i∧hget H' i=hget H i
theorem GZ {i:Nat}:∀ {H:Hp},Af H i=false→hget H i = .junk
 | [],_=>rfl
 | (j, v) :: r, h => by
   simp only [Af,Bool.or_eq_false_iff,beq_eq_false_iff_ne,ne_eq] at h
   simp only [hget,if_neg h.1]
   exact GZ h.2
theorem Gh.symm {H H':Hp} (h:Gh H H'):Gh H' H:=fun i=>⟨(h i).1.symm,(h i).2.symm⟩
theorem Gh.swap {A B:Hp} (h:∀ i,Af A i=true→Af B i=false):Gh (A ++ B) (B ++ A):=fun i=>by
 rw [Ba,Ba,Bool.or_comm]
 refine ⟨rfl,?_⟩
 cases ha:Af A i with
 | true =>
   have hb:=h i ha
   rw [AN hb,Cn ha]
 | false =>
   rw [AN (H:=A) ha]
   cases hb:Af B i with
   | true=>rw [Cn hb]
   | false=>rw [AN hb,GZ ha,GZ hb]
theorem Inv.same {c:Ctx} {e:Env} {H H':Hp} (hI:Inv M c e H) (h:Gh H H'):Inv M c e H' where
 ev:=hI.ev
 blk id hid:=by
  rw [(h id).1] at hid
  rw [(h id).2];exact hI.blk id hid
 inj i j hi hj:=hI.inj i j ((h i).1 ▸ hi) ((h j).1 ▸ hj)
 imo:=hI.imo
 imb:=hI.imb
 rb:=hI.rb
 keep:=hI.keep
 low:=hI.low
 gs:=hI.gs
 φ:=hI.φ
 τ:=hI.τ
theorem AR.same {f:Nat} {us:List V} {H H2:Hp} {n:Nat} {K:V→Hp→Prop} (h:AR M f us H n K) (hs:Gh H2 H):AR M f us H2 n K :=
 fun c e vs hI hD hk ha=>h c e vs (hI.same hs) hD hk ha
theorem AR.out {f:Nat} {us:List V} {H:Hp} {n:Nat} {K K':V→Hp→Prop} (h:AR M f us H n K) (hK:∀ v H1,K v H1→∃ H2,Gh H1 H2∧K' v H2):AR M f us H n K':=by
 intro c e vs hI hD hk ha
 refine (h c e vs hI hD hk ha).mono ?_
 rintro en w' ⟨x,v,e',H',h1,h2,h3,h4,h5,h6,h7⟩
 obtain ⟨H2,k1,k2⟩:=hK v H' h7
 exact ⟨x,v,e',H2,h1,h2,h3,h4.same k1,h5,h6,k2⟩
def ow (b n:Nat) (own:Hp):Bool:=own.all fun p=>decide (17≤p.1) && decide (p.1 ≠ b) && decide (p.1 < n)
def owk (n:Nat) (own:Hp):Bool:=own.all fun p=>decide (17≤p.1) && decide (p.1 < n)
def XY (b n:Nat) (own:Hp):Prop:=∀ i,Af own i=true→17≤i∧i ≠ b∧i < n
theorem Ek {b n:Nat}:∀ {own:Hp},ow b n own=true→XY b n own
 | [],_,_,h=>by cases h
 | (j, v) :: r, ho, i, h => by
   simp only [ow,List.all_cons,Bool.and_eq_true,decide_eq_true_eq] at ho
   simp only [Pi,beq_iff_eq] at h
   rcases h with rfl | h
   ·exact ⟨ho.1.1.1,ho.1.1.2,ho.1.2⟩
   ·exact Ek (own:=r) ho.2 i h
theorem Gj {b n:Nat} (hb:b < 17):∀ {own:Hp},owk n own=true→XY b n own
 | [],_,_,h=>by cases h
 | (j, v) :: r, ho, i, h => by
   simp only [owk,List.all_cons,Bool.and_eq_true,decide_eq_true_eq] at ho
   simp only [Pi,beq_iff_eq] at h
   rcases h with rfl | h
   ·exact ⟨ho.1.1,by omega,ho.1.2⟩
   ·exact Gj hb (own:=r) ho.2 i h
theorem Fh {i:Nat}:∀ {H:Hp},Af H i=false→BS H i=H
 | [],_=>rfl
 | (j, v) :: r, h => by
   simp only [Af,Bool.or_eq_false_iff,beq_eq_false_iff_ne,ne_eq] at h
   simp only [BS,if_neg h.1]
   rw [Fh h.2]
theorem NN {lo hi:Nat}:∀ {H:Hp},(∀ i,Af H i=true→i < lo ∨ hi≤i)→CX lo hi H
 | [],_=>trivial
 | (j,v) :: r,h=>⟨h j (by simp [Af]),NN (H:=r) fun i hi=>h i (by simp [Af,hi])⟩
def B7:Option Int→V
 | none=>.nili
 | some a=>.ifc 74 (.int .i64 a)
structure Mm (σ:Type) where
 rd:σ→BitVec 64→BitVec 64 × Option Int × σ
 wr:σ→BitVec 64→BitVec 64→Option Int × σ
 pi:σ→Dg→Pr × Option Int × σ
def Ja (us us':List V):Prop:=∀ (H:Hp) (m z:List Nat),m[0]?=some 0→Bd H m z us us'
def JN (v:V):Prop:=∀ m:List Nat,v.ren m=v
structure MemI (M:Seat) where
 σ:Type
 t:Nat
 ht:t=422 ∨ t=426
 k0:Nat
 kk:Nat
 hk:1≤k0∧k0≤16∧k0≤kk∧kk≤k0 + 1
 E:σ→Nat→Hp
 E0:σ→Hp
 mm:Mm σ
 Z:σ→Prop
 len:σ→Nat
 lr:∀ s a,len (mm.rd s a).2.2≤len s + 1
 lw:∀ s a v,len (mm.wr s a v).2≤len s + 1
 lp:∀ s h,len (mm.pi s h).2.2≤len s
 lz:∀ s,Z s→len s=0
 hids:∀ s b i,Af (E s b) i=true→i < k0 ∨ i=b
 hids0:∀ s i,Af (E0 s) i=true→i < k0
 sim0:∀ (s:σ) (H:Hp) (m z:List Nat),(∀ i,i < k0→m[i]?=some i)→(∀ i,Af (E0 s) i=true→Af H i=true∧hget H i=hget (E0 s) i)→Br H m z (E0 s)
 simE:∀ (s:σ) (b b':Nat) (H:Hp) (m z:List Nat),k0≤b→(∀ i,i < k0→m[i]?=some i)→m[b']?=some b→(∀ i,Af (E s b) i=true→Af H i=true∧hget H i=hget (E s b) i)→Br H m z (E s b')
 c0:∀ {f:Nat} {us us':List V} {v:V} {s s':σ} (own:Hp) {n:Nat} {K:V→Hp→Prop},Ag M f us (E0 s) k0 (Q3 v (E s' k0) (k0 + 1))→Ja us us'→JN v→XY 0 n own→K v (own ++ E s' n)→AR M f us' (own ++ E0 s) n K
 ck:∀ {f:Nat} {us us':List V} {v:V} {s s':σ} {b:Nat} (own:Hp) {n:Nat} {K:V→Hp→Prop},Ag M f us (E s k0) kk (Q3 v (E s' kk) (kk + 1))→Ja us us'→JN v→k0≤b→XY b n own→K v (own ++ E s' n)→AR M f us' (own ++ E s b) n K
 cu:∀ {f:Nat} {us us':List V} {v:V} {s s':σ} {b:Nat} (own:Hp) {n:Nat} {K:V→Hp→Prop},Ag M f us (E s k0) kk (Q3 v (E s' k0) (kk + 1))→Ja us us'→JN v→k0≤b→XY b n own→K v (own ++ E s' b)→AR M f us' (own ++ E s b) n K
 fr:Nat
 fw:Nat
 fp:Nat
 mr:AG M t 0 fr
 mw:AG M t 1 fw
 mp:AG M t 2 fp
 rr0:∀ (s:σ) (a:BitVec 64),Z s→¬ 8192#64≤a→Ag M fr [.ptr 0 [],W a] (E0 s) k0 (Q3 (Ah (W (mm.rd s a).1) (B7 (mm.rd s a).2.1)) (E (mm.rd s a).2.2 k0) (k0 + 1))
 rr:∀ (s:σ) (a:BitVec 64),len s≤100→¬ 8192#64≤a→Ag M fr [.ptr 0 [],W a] (E s k0) kk (Q3 (Ah (W (mm.rd s a).1) (B7 (mm.rd s a).2.1)) (E (mm.rd s a).2.2 kk) (kk + 1))
 rw:∀ (s:σ) (a v:BitVec 64),len s≤100→¬ 8192#64≤a→Ag M fw [.ptr 0 [],W a,W v] (E s k0) kk (Q3 (B7 (mm.wr s a v).1) (E (mm.wr s a v).2 kk) (kk + 1))
 rp:∀ (s:σ) (h:Dg),Ag M fp [.ptr 0 [],dg h] (E s k0) kk (Q3 (Ah (Bk (mm.pi s h).1) (B7 (mm.pi s h).2.1)) (E (mm.pi s h).2.2 k0) (kk + 1))
theorem EK (i:Nat):∀ (A B:Hp),BS (A ++ B) i=BS A i ++ BS B i
 | [],_=>rfl
 | (j, v) :: r, B => by
   simp only [List.cons_append,BS]
   split
   ·exact EK i r B
   ·rw [EK i r B];rfl
theorem K8 {own E:Hp}:∀ {m0:List Nat},(∀ i ∈ m0,Af own i=false)→A6 (own ++ E) m0=own ++ A6 E m0
 | [],_=>rfl
 | i :: r, h => by
   rw [A6,K8 (m0:=r) (fun j hj=>h j (by simp [hj])),EK,Fh (h i B5),A6]
theorem MQ {own E:Hp} {i:Nat}:∀ {m0:List Nat},(∀ p ∈ m0,Af own p=false)→GJ m0 (own ++ E) i=GJ m0 E i
 | [],_=>rfl
 | p :: r, h => by
   have hp:=h p B5
   have ih:=MQ (own:=own) (E:=E) (i:=i) (m0:=r) (fun q hq=>h q (by simp [hq]))
   unfold GJ at ih ⊢
   rw [List.any_cons,List.any_cons,ih,Ba,hp,Bool.false_or,AN hp]
theorem Iy {own E:Hp} (hd:∀ i,Af E i=true→Af own i=false) (i:Nat) (h:Af E i=true):Af (own ++ E) i=true∧hget (own ++ E) i=hget E i:=by
 have hn:=hd i h
 rw [Ba,hn,AN hn,h]
 exact ⟨rfl,rfl⟩
theorem DM {f:Nat} {us us':List V} {v:V} {own E E' H0 Hn:Hp} {n k kn:Nat} {K:V→Hp→Prop} (m m0:List Nat) (hr:Ag M f us H0 k (Q3 v Hn kn))
 (h0:∀ id i,Af H0 id=true→m[id]?=some i→i ∈ m0) (h0m:∀ i ∈ m0,i ∈ m) (hm:m.Nodup) (hk:m.length=k∧kn≤k + 16) (hall0:∀ i ∈ m0,Af E i=true∧Af own i=false) (hall:∀ i ∈ m,Af E i=true ∨ GJ m0 E i=true) (hus:Bd (own ++ E) m [] us us') (hH:Br (own ++ E) m [] H0)
 (hren:AV (Bh m n kn) Hn=E') (hrst:A6 E m0=[]) (hv:JN v) (hd:∀ i,Af E' i=true→Af own i=false) (hK:K v (own ++ E')):AR M f us' (own ++ E) n K:=by
 have key:AR M f us' (own ++ E) n (fun v' H'=>v'=v∧H'=E' ++ own):=by
  refine FV hr False m m0 [] h0 h0m hm B5 hk.1 (fun i hi=>by rw [Ba,(hall0 i hi).1,Bool.or_true]) (fun i hi=>?_) hus hH ?_
  ·rcases hall i hi with h | h
   ·left;rw [Ba,h,Bool.or_true]
   ·exact .inr (.inr ((MQ (fun p hp=>(hall0 p hp).2)).trans h))
  ·rintro v' H' k' ⟨rfl,rfl,rfl⟩
   refine ⟨⟨hk.2,fun h=>h.elim⟩,hv _,?_⟩
   rw [hren,if_neg (fun h:False=>h),List.append_nil,K8 (fun i hi=>(hall0 i hi).2),hrst,List.append_nil]
 refine AR.out key ?_
 rintro v' H' ⟨rfl,rfl⟩
 exact ⟨own ++ E',Gh.swap (fun i hi=>hd i hi),hK⟩
theorem HZ (e:Option Int) (m:List Nat):(B7 e).ren m=B7 e:=by cases e <;> rfl
namespace MemI
variable {M:Seat} (I:MemI M)
theorem noE {s:I.σ} {b i:Nat} (h:17≤i) (hb:i ≠ b):Af (I.E s b) i=false:=by
 cases hh:Af (I.E s b) i with
 | false=>rfl
 | true => rcases I.hids s b i hh with h' | h'
           ·have:=I.hk;omega
           ·exact absurd h' hb
theorem no0 {s:I.σ} {i:Nat} (h:17≤i):Af (I.E0 s) i=false:=by
 cases hh:Af (I.E0 s) i with
 | false=>rfl
 | true=>have:=I.hids0 s i hh;have:=I.hk;omega
theorem hdel0 (s:I.σ) (i:Nat) (h:17≤i):BS (I.E0 s) i=I.E0 s:=Fh (I.no0 h)
theorem idsE (s:I.σ) (b lo hi:Nat) (h:17≤lo) (hb:b < lo ∨ hi≤b):CX lo hi (I.E s b)=True:=eq_true (NN fun i hi'=>by
 rcases I.hids s b i hi' with h' | h'
 ·have:=I.hk;exact .inl Aa
 ·subst h';exact hb)
theorem nil_in (v:Prop):(I.t ∈ [422,426]∧v)=v:=by
 rcases I.ht with h | h <;> rw [h] <;> simp
theorem tail {s:I.σ} {b n:Nat} {own:Hp} (ho:XY b n own) (i:Nat) (h:Af (I.E s b) i=true):Af (own ++ I.E s b) i=true∧hget (own ++ I.E s b) i=hget (I.E s b) i:=by
 have hn:Af own i=false:=by
  cases hh:Af own i with
  | false=>rfl
  | true =>
    obtain ⟨h1,h2,_⟩:=ho i hh
    rw [I.noE h1 h2] at h;cases h
 rw [Ba,hn,AN hn,h]
 exact ⟨rfl,rfl⟩
theorem tail0 {s:I.σ} {b n:Nat} {own:Hp} (ho:XY b n own) (i:Nat) (h:Af (I.E0 s) i=true):Af (own ++ I.E0 s) i=true∧hget (own ++ I.E0 s) i=hget (I.E0 s) i:=by
 have hn:Af own i=false:=by
  cases hh:Af own i with
  | false=>rfl
  | true =>
    obtain ⟨h1,_⟩:=ho i hh
    rw [I.no0 h1] at h;cases h
 rw [Ba,hn,AN hn,h]
 exact ⟨rfl,rfl⟩
theorem flatR (s:I.σ) (a:BitVec 64):JN (Ah (W (I.mm.rd s a).1) (B7 (I.mm.rd s a).2.1)):=fun m=>by simp only [Ah,V.ren,W,HZ]
theorem Arq (a:BitVec 64):Ja [.ptr 0 [],W a] [.ptr 0 [],W a]:=fun H m z h=>by simp only [Bd,Bi,Az,W,h,and_self]
theorem Afb (a b:BitVec 64):Ja [.ptr 0 [],W a,W b] [.ptr 0 [],W a,W b]:=fun H m z h=>by simp only [Bd,Bi,Az,W,h,and_self]
theorem dynR0 {n:Nat} {K:V→Hp→Prop} (own:Hp) {s:I.σ} (hz:I.Z s) {a:BitVec 64} {u w:V} (h:¬ 8192#64≤a) (ho:owk n own=true) (hK:K (Ah (W (I.mm.rd s a).1) (B7 (I.mm.rd s a).2.1)) (own ++ I.E (I.mm.rd s a).2.2 n)):Eo M (.fcons 0 u w) [.ifc I.t (.ptr 0 []),W a] (own ++ I.E0 s) n K :=
 ⟨rfl,I.fr,I.mr,I.c0 own (I.rr0 s a hz h) (Arq a) (I.flatR s a) (Gj Aa ho) hK⟩
theorem dynW {n:Nat} {K:V→Hp→Prop} (own:Hp) {s:I.σ} {b:Nat} {a v:BitVec 64} {u w:V} (hL:I.len s≤100) (h:¬ 8192#64≤a) (hb:17≤b) (ho:ow b n own=true) (hK:K (B7 (I.mm.wr s a v).1) (own ++ I.E (I.mm.wr s a v).2 n)):Eo M (.fcons 1 u w) [.ifc I.t (.ptr 0 []),W a,W v] (own ++ I.E s b) n K :=
 ⟨rfl,I.fw,I.mw,I.ck own (I.rw s a v hL h) (Afb a v) (fun m=>HZ _ m) F9 (Ek ho) hK⟩
theorem opyW {n:Nat} {C:V→Hp→Prop} (own:Hp) {s:I.σ} {b:Nat} {a v:BitVec 64} {u w:V} (hL:I.len s≤100) (h:¬ 8192#64≤a) (hb:17≤b) (ho:ow b n own=true) (hC:C (B7 (I.mm.wr s a v).1) (own ++ I.E (I.mm.wr s a v).2 n)):SI M (.fcons 1 u w) [.ifc I.t (.ptr 0 []),W a,W v] (own ++ I.E s b) n C :=
 ⟨_,_,I.dynW own hL h hb ho ⟨rfl,rfl⟩,hC⟩
theorem rng {q b j:Nat} (h:j < q):(List.range q ++ [b])[j]?=some j:=by
 rw [List.getElem?_append_left Ke];simp [h]
theorem Ai8 {q b:Nat}:(List.range q ++ [b])[q]?=some b:=by
 rw [List.getElem?_append_right B5];simp
theorem Vm {q b:Nat} (h:q≤b):(decide (List.range q ++ [b]).Nodup && ([]:List Nat).all (fun i=>!(List.range q ++ [b]).contains i) && decide ((List.range q ++ [b]).length≤q + 1) && decide (q≤q + 1) && (List.range q).all (fun j=>(List.range q ++ [b])[j]? == some j))=true:=by
 simp only [Lc6,decide_eq_true_eq,List.all_nil,beq_iff_eq]
 refine ⟨⟨⟨⟨?_,trivial⟩,by simp⟩,by omega⟩,fun j hj=>rng (List.mem_range.1 hj)⟩
 rw [List.nodup_append]
 refine ⟨List.nodup_range,by simp,?_⟩
 intro a ha c hc
 simp only [List.mem_range,List.mem_singleton] at ha hc
 omega
theorem ret {x:Ctx} {rs:List RVr} {Q:V→Hp→Nat→Prop} {A:List V} (own:Hp) {s:I.σ} {b N q:Nat} {v:V} (hq:I.k0≤q∧q≤17) (hx:x.k=q) (hb:17≤b) (ho:(own.all fun p=>decide (17≤p.1) && decide (p.1 ≠ b))=true)
 (h4:Q v (I.E s q) (q + 1)) (h1:(Dz A (own ++ I.E s b) rs).1) (h2:Bi (own ++ I.E s b) (List.range q ++ [b]) [] v (Dz A (own ++ I.E s b) rs).2):Ar M x rs Q A (own ++ I.E s b) N:=by
 refine Ar.mk hx (List.range q ++ [b]) [] v (I.E s q) (q + 1) (Vm Aa) h1 h2 (I.simE s b q _ _ _ Aa (fun i hi=>rng Aa) Ai8 (I.tail (n:=own.foldl (fun a p=>max a (p.1 + 1)) 0) fun i hi=>?_)) h4
 have:∀ (own:Hp) (a:Nat),(own.all fun p=>decide (17≤p.1) && decide (p.1 ≠ b))=true→(Af own i=true→17≤i∧i ≠ b∧i < own.foldl (fun a p=>max a (p.1 + 1)) a)∧a≤own.foldl (fun a p=>max a (p.1 + 1)) a:=by
  intro own
  induction own with
  | nil=>intro a _;exact ⟨(fun h=>by cases h),Nat.le_refl _⟩
  | cons p r ih =>
    intro a ho
    simp only [List.all_cons,Bool.and_eq_true,decide_eq_true_eq] at ho
    obtain ⟨k1,k2⟩:=ih (max a (p.1 + 1)) ho.2
    simp only [List.foldl_cons]
    refine ⟨fun h=>?_,by omega⟩
    have h:(p.1 == i || Af r i)=true:=h
    simp only [Bool.or_eq_true,beq_iff_eq] at h
    rcases h with h | h
    ·subst h;exact ⟨ho.1.1,ho.1.2,by omega⟩
    ·exact k1 h
 exact (this own 0 ho).1 hi
theorem ret0 {x:Ctx} {rs:List RVr} {Q:V→Hp→Nat→Prop} {A:List V} (own:Hp) {s:I.σ} {N:Nat} {v:V} (hx:x.k=I.k0) {n:Nat} (ho:owk n own=true)
 (h4:Q v (I.E0 s) (I.k0 + 1)) (h1:(Dz A (own ++ I.E0 s) rs).1) (h2:Bi (own ++ I.E0 s) (List.range I.k0 ++ [n]) [] v (Dz A (own ++ I.E0 s) rs).2) (hn:17≤n):Ar M x rs Q A (own ++ I.E0 s) N:=by
 have:=I.hk
 exact Ar.mk hx (List.range I.k0 ++ [n]) [] v (I.E0 s) (I.k0 + 1) (Vm Aa) h1 h2 (I.sim0 s _ _ _ (fun i hi=>rng hi) (I.tail0 (Gj (b:=0) Aa ho))) h4
theorem sm (own:Hp) {s:I.σ} {b b' n:Nat} {m z:List Nat} (h1:(List.range 17).all (fun j=>m[j]? == some j)=true) (h2:m[b']?=some b) (h3:ow b n own=true) (hb:17≤b:=by decide):Br (own ++ I.E s b) m z (I.E s b') :=
 I.simE s b b' _ m z F9 (fun i hi=>by have:=List.all_eq_true.1 h1 i (List.mem_range.2 F9);simpa using this) h2 (I.tail (Ek h3))
end MemI
theorem Bm.up {x:Ctx} {Q:List V→Hp→Nat→Prop} {k:List It} {N N':Nat} {A:List V} {H:Hp} (hN:N≤N') (h:Bm M x Q k N' A H):Bm M x Q k N A H:=by
 rintro a w kr ⟨e,h1,h2,h3,h4,h5,h6⟩ hm
 exact h a w kr ⟨e,h1,h2,h3,fun id hid=>h4 id (Nat.le_trans hN hid),Nat.le_trans h5 hN,h6⟩ hm
end Mv
