/- A part. -/
import Derived.Test.YtlfkjfonpacelaaGreatDoorFK
set_option linter.all false
set_option maxRecDepth 20000
set_option maxHeartbeats 8000000
namespace Mv
open Go
variable {M:Seat}
structure OkLd (M:Seat):Prop where
 k222:Au M 222 Axj=true
 k223:Au M 223 Axe=true
 k250:Au M 250 RQ=true
 k258:Au M 258 XF=true
 k355:Au M 355 YK=true
def Aq (b:Nat→BitVec 64) (i o:BitVec 64) (bs:V) (k:BitVec 64):V:=.st 12 (.fcons 0 (.ar 1 8 fun j=>W (b j)) (.fcons 8 (W i) (.fcons 9 (W o) (.fcons 10 bs (.fcons 11 (W k) .fnil)))))
theorem MF (ok:OkLd M):Ag M 222 [] [] 0 (Q3 (.ptr 0 []) [(0,Aq (fun _=>0#64) 0#64 0#64 .nils 0#64)] 1):=by
 refine Ab ok.k222 rfl fun x hx=>?_
 refine es 2000 ?_;(simp only [Axj,Aik,LZ,seval])
 refine Ar.mk hx [32] [] (.ptr 0 []) [(0,Aq (fun _=>0#64) 0#64 0#64 .nils 0#64)] 1 Am (by (simp only [CU,Aq,seval])) (by simp only [LV,Aq,LY,seval]) (by simp only [Aq,LY,seval]) ⟨rfl,rfl,rfl⟩
theorem Dq (ok:OkLd M) (p:Nat) (hp:p < 8):Ag M 258 [.ptr 0 [],.int .i64 p] [] 1 (Q3 .nili [] 1):=by
 refine Ab ok.k258 rfl fun x hx=>?_
 have e0:((p:Int) < 0)=False:=eq_false Aa
 have e1:((8:Int)≤(p:Int))=False:=eq_false Aa
 refine es 2000 ?_;(simp only [XF,Yf,e0,e1,LZ,seval])
 exact Ar.mkZ hx [0] ⟨rfl,rfl,rfl⟩
theorem JJ (ok:OkLd M) (b:Nat→BitVec 64) (i o:BitVec 64) (k:BitVec 64) (p:Nat) (hp:p < 8) (v:BitVec 64) (h1:¬ 281474976710656#64 < v) (h2:¬ 281474976710656#64 < i + v) :
 Ag M 223 [.ptr 0 [],.int .i64 p,W v] [(0,Aq b i o .nils k)] 1 (Q3 .nili [(0,Aq (fun j=>if j=p then b p + v else b j) (i + v) o .nils k)] 1):=by
 refine Ab ok.k223 rfl fun x hx=>?_
 have e0:((p:Int) < 0)=False:=eq_false Aa
 have e1:((p:Int) < 8)=True:=eq_true Aa
 have e2:(0≤(p:Int))=True:=eq_true Aa
 refine es 2000 ?_;(simp only [Axe,Aic,Aq,LZ,seval])
 refine Wx [0] [] (Dq ok p hp) (by constructor <;> (try simp only [LY,seval]) <;> exact q1) (by simp only [LX]) ?_
 (simp only [Aq,h1,h2,e0,e1,e2,LZ,seval])
 repeat refine sd ?_
 refine Ar.mk hx [0] [] .nili [(0,Aq (fun j=>if j=p then b p + v else b j) (i + v) o .nils k)] 1 Am (by (simp only [CU,Aq,seval])) (by simp only [LV,Aq,LY,seval]) ?_ ⟨rfl,rfl,rfl⟩
 simp only [Aq,LY,seval]
 intro j hj
 by_cases h:j=p <;> simp only [h,CL,LY,seval]
def A4 (v:BitVec 64) (g:Bool):V:=.st 2 (.fcons 0 (W v) (.fcons 1 (.bool g) .fnil))
theorem KW (ok:OkLd M) (b:Nat→BitVec 64) (i o:BitVec 64) (bs:V) (n:Nat) (hbs:(bs = .nils∧n=1) ∨ ∃ m,bs = .sl 1 [] 0 m 2∧n=2) (k:BitVec 64) (p:Nat) (hp:p < 8) (v:BitVec 64) (h1:¬ b p < v) :
 Ag M 355 [.ptr 0 [],.int .i64 p,W v] [(0,Aq b i o bs k)] n (Q3 .nili [(0,Aq (fun j=>if j=p then b p - v else b j) i o bs k)] n):=by
 refine Ab ok.k355 rfl fun x hx=>?_
 have e0:((p:Int) < 0)=False:=eq_false Aa
 have e1:((p:Int) < 8)=True:=eq_true Aa
 have e2:(0≤(p:Int))=True:=eq_true Aa
 rcases hbs with ⟨rfl,rfl⟩ | ⟨m,rfl,rfl⟩
 all_goals
  refine es 2000 ?_;(simp only [YK,Xk,Aq,LZ,seval])
  refine Wx [0] [] (Dq ok p hp) (by constructor <;> (try simp only [LY,seval]) <;> exact q1) (by simp only [LX]) ?_
  (simp only [Aq,h1,e0,e1,e2,LZ,seval])
  repeat refine sd ?_
 ·refine Ar.mk hx [0] [] .nili [(0,Aq (fun j=>if j=p then b p - v else b j) i o .nils k)] 1 Am (by (simp only [CU,Aq,seval])) (by simp only [LV,Aq,LY,seval]) ?_ ⟨rfl,rfl,rfl⟩
  simp only [Aq,LY,seval]
  intro j hj
  by_cases h:j=p <;> simp only [h,CL,LY,seval]
 ·refine Ar.mk hx [0,1] [] .nili [(0,Aq (fun j=>if j=p then b p - v else b j) i o (.sl 1 [] 0 m 2) k)] 2 Am (by (simp only [CU,Aq,seval])) (by simp only [LV,Aq,LY,seval]) ?_ ⟨rfl,rfl,rfl⟩
  simp only [Aq,LY,seval]
  intro j hj
  by_cases h:j=p <;> simp only [h,CL,LY,seval]
theorem J0 (ok:OkLd M) (b:Nat→BitVec 64) (i o:BitVec 64) (k:BitVec 64) (p:Nat) (hp:p < 8) (v:BitVec 64) (h1:¬ b p < v) :
 Ag M 250 [.ptr 0 [],.int .i64 p,W v] [(0,Aq b i o .nils k)] 1 (Q3 (Ah (.int .i64 0) .nili) [(0,Aq (fun j=>if j=p then b p - v else b j) i o (.sl 1 [] 0 1 2) (k + v)),(1,.ar 2 1 fun _=>A4 v false)] 2):=by
 refine Ab ok.k250 rfl fun x hx=>?_
 have z0:IntKind.i64.wrap 0=0:=rfl
 refine es 2000 ?_;(simp only [RQ,RW,Aq,LZ,seval])
 have zz:=@Aq.eq_1;refine Om [0] [0] (KW ok b i o .nils 1 (.inl ⟨rfl,rfl⟩) k p hp v h1) ?_
 (simp only [Aq,z0,LZ,seval])
 refine Ar.mk hx [0,369] [] (Ah (.int .i64 0) .nili) [(0,Aq (fun j=>if j=p then b p - v else b j) i o (.sl 1 [] 0 1 2) (k + v)),(1,.ar 2 1 fun _=>A4 v false)] 2 Am (by (simp only [CU,Aq,seval])) (by simp only [LV,Aq,Ah,LY,seval]) ?_ ⟨rfl,rfl,rfl⟩
 simp only [Aq,A4,LY,seval]
 intro j hj
 obtain rfl:j=0:=Aa
 simp only [if_true,LY,seval]
theorem J6 (ok:OkLd M) (b:Nat→BitVec 64) (i o:BitVec 64) (k:BitVec 64) (p:Nat) (hp:p < 8) (v:BitVec 64) (h1:¬ b p < v) (m:Nat) (hm:m < 1000) (f:Nat→V) (hf:∀ j,∃ u g,f j=A4 u g) :
 Ag M 250 [.ptr 0 [],.int .i64 p,W v] [(0,Aq b i o (.sl 1 [] 0 m 2) k),(1,.ar 2 m f)] 2 (Q3 (Ah (.int .i64 m) .nili) [(0,Aq (fun j=>if j=p then b p - v else b j) i o (.sl 2 [] 0 (m + 1) 2) (k + v)),(2,.ar 2 (m + 1) fun j=>if j < m then f j else A4 v false)] 3):=by
 refine Ab ok.k250 rfl fun x hx=>?_
 have z0:IntKind.i64.wrap ((m + 1:Nat) - 1:Int)=(m:Int):=AZ
 have z1:((65536:Int)≤(m:Int))=False:=eq_false Aa
 refine es 2000 ?_;(simp only [RQ,RW,Aq,LZ,seval])
 have zz:=@Aq.eq_1;refine Om [0,1] [0] (KW ok b i o (.sl 1 [] 0 m 2) 2 (.inr ⟨m,rfl,rfl⟩) k p hp v h1) ?_
 (simp only [Aq,z0,z1,LZ,seval])
 repeat refine sd ?_
 refine Ar.mk hx [0,1,370] [] (Ah (.int .i64 m) .nili) [(0,Aq (fun j=>if j=p then b p - v else b j) i o (.sl 2 [] 0 (m + 1) 2) (k + v)),(2,.ar 2 (m + 1) fun j=>if j < m then f j else A4 v false)] 3 Am (by (simp only [CU,Aq,seval])) (by simp only [LV,Aq,Ah,LY,seval]) ?_ ⟨rfl,rfl,rfl⟩
 simp only [Aq,A4,LY,seval]
 intro j hj
 by_cases h:j < m
 ·obtain ⟨u,g,e⟩:=hf j
  rw [if_pos h,if_pos h,e];simp only [A4,LY,seval]
 ·rw [if_neg h,if_neg h,if_pos Aa];simp only [LY,seval]
def HK (v:BitVec 64):Nat→BitVec 64
 | 0=>0#64
 | n + 1=>HK v n + v
def DD (v:BitVec 64) (n j:Nat):BitVec 64:=if j < n then v else 0#64
structure OkPo (M:Seat):Prop where
 p:OkP M
 k130:Au M 130 W7=true
 k131:Au M 131 Abk=true
 k132:Au M 132 WO=true
 k260:Au M 260 Ad4=true
theorem D4 {M:Seat} (ok:OkPo M):Ag M 130 [W 1#64] [] 0 (Q3 (AS (.int .i64 0) (W 0#64) .nili) [] 0):=by
 have h:=FO ok.p 1#64
 rw [show Cu 1#64=1 by decide] at h
 refine Ab ok.k130 rfl fun x hx=>?_
 have z0:IntKind.i64.wrap 0=0:=rfl
 refine es 2000 ?_;(simp only [W7,Xl,LZ,seval])
 refine Ak (h) ?_
 (simp only [z0,Lbp,seval])
 have zz:=@AS.eq_1;exact Bf hx [] ⟨rfl,rfl,rfl⟩
def Aiy:LC:=(sr [mU 4 0,mn 5] (sr [mt 10 0,kl 11 130 [(.t 10)],mt 9 11,ee 12 9 0,ee 13 9 1,ee 14 9 2,mt 6 12,mt 7 13,mt 8 14] (.seq (.block 0 (sr [mt 16 8,A1 17 (.eq true true (.iface [74]) (.t 16) (.c .nili)),mt 15 17] (.cond (.t 15) (sr [mt 18 8,
  mU 4 0,mt 5 18] .ret) (sr [mt 20 1,mt 21 6,ak 22 .lss 20 21,mt 23 22,mg 24 23 false 1,A2 25 23 false (.ari .gtr (.t 24) (cI 24)),
  BV 26 23 25,mt 19 26] (.cond (.t 19) (sr [A1 27 (.mkif 74 (cI 2)),
  mU 4 0,mt 5 27] .ret) .skip))))) (sr [mt 28 7,
  aU 29 .add 28 1,mt 30 1,mt 31 6,ak 32 .sub 30 31,ak 33 .shl 29 32,
  aU 34 .sub 33 1,mt 4 34,mn 5] .ret))))
def Aaj:LF:=⟨Aiy,2,0,35,[.tmp 4,.tmp 5]⟩
variable {M:Seat}
def pw (k i:Nat):BitVec 64:=BitVec.ofNat 64 (2 ^ k + i)
theorem Tu {k:Nat} (hk:k≤24):1≤2 ^ k∧2 ^ k≤16777216:=⟨Nat.one_le_two_pow,Nat.pow_le_pow_right Am hk⟩
theorem L2 {k i:Nat} (hk:k≤24) (hi:i < 2 ^ k):(pw k i).toNat=2 ^ k + i:=by
 have:=Tu hk
 rw [pw,BitVec.toNat_ofNat];omega
theorem MI {k i:Nat} (hk:k≤24) (hi:i < 2 ^ k):Cu (pw k i)=k + 1:=by
 have hn:=L2 hk hi
 have hp:=Tu hk
 have h0:pw k i ≠ 0#64:=by
  intro h
  rw [h] at hn
  simp at hn
  omega
 obtain ⟨hl,hr⟩:=Jx (pw k i)
 obtain ⟨h1,h2,h3⟩:=hr h0
 rw [hn] at h2 h3
 have e:2 ^ (k + 1)=2 * 2 ^ k:=Y6
 rcases Nat.lt_trichotomy (Cu (pw k i)) (k + 1) with h | h | h
 ·have:=Nat.pow_le_pow_right (n:=2) Am (show Cu (pw k i)≤k by omega)
  omega
 ·exact h
 ·have:=Nat.pow_le_pow_right (n:=2) Am (show k + 1≤Cu (pw k i) - 1 by omega)
  omega
theorem sh1 (k:Nat):1#64 <<< k=BitVec.ofNat 64 (2 ^ k):=by
 apply BitVec.eq_of_toNat_eq
 rw [BitVec.toNat_shiftLeft,BitVec.toNat_ofNat,BitVec.toNat_ofNat,Nat.shiftLeft_eq]
 simp
theorem ZV {k i:Nat} (hk:k≤24) (hi:i < 2 ^ k):pw k i - 1#64 <<< k=BitVec.ofNat 64 i:=by
 have hp:=Tu hk
 rw [sh1]
 apply BitVec.eq_of_toNat_eq
 rw [BitVec.toNat_sub,L2 hk hi,BitVec.toNat_ofNat,BitVec.toNat_ofNat]
 omega
theorem Bc (ok:OkPo M) {k i:Nat} (hk:k≤24) (hi:i < 2 ^ k):Ag M 130 [W (pw k i)] [] 0 (Q3 (AS (.int .i64 k) (W (BitVec.ofNat 64 i)) .nili) [] 0):=by
 have h:=FO ok.p (pw k i)
 have hn:=L2 hk hi
 have hp:=Tu hk
 rw [MI hk hi] at h
 refine Ab ok.k130 rfl fun x hx=>?_
 have e0:(pw k i=0#64)=False:=eq_false fun h=>by rw [h] at hn;simp at hn;omega
 have e1:(33554432#64≤pw k i)=False:=eq_false fun h=>by rw [BitVec.le_def,hn] at h;simp at h;omega
 have z0:IntKind.i64.wrap (((k + 1:Nat):Int) - 1)=(k:Int):=AZ
 have z1:0≤(k:Int):=Aa
 refine es 2000 ?_;(simp only [W7,Xl,e0,e1,LZ,seval])
 refine Ak (h) ?_
 (simp only [z0,z1,ZV hk hi,LZ,seval])
 have zz:=@AS.eq_1;exact Bf hx [] ⟨rfl,rfl,rfl⟩
theorem KP (ok:OkPo M) {k i:Nat} (hk:k≤24) (hi:i < 2 ^ k):Ag M 260 [.int .i64 k,W (BitVec.ofNat 64 i)] [] 0 (Q3 (Ah (W (pw k i)) .nili) [] 0):=by
 have hp:=Tu hk
 refine Ab ok.k260 rfl fun x hx=>?_
 have e0:((k:Int) < 0)=False:=eq_false Aa
 have e1:(24 < (k:Int))=False:=eq_false Aa
 have z1:0≤(k:Int):=Aa
 have e2:(1#64 <<< k≤BitVec.ofNat 64 i)=False:=eq_false fun h=>by
  rw [sh1,BitVec.le_def,BitVec.toNat_ofNat,BitVec.toNat_ofNat] at h
  omega
 have e3:1#64 <<< k + BitVec.ofNat 64 i=pw k i:=by
  rw [sh1,pw,BitVec.ofNat_add]
 refine es 2000 ?_;(simp only [Ad4,Aao,e0,e1,e2,z1,LZ,seval])
 have zz:=Bb @Ah.eq_1 e3;exact Bf hx [] ⟨rfl,rfl,rfl⟩
theorem Zr (i:Nat):2#64 * BitVec.ofNat 64 i=BitVec.ofNat 64 (2 * i):=by rw [BitVec.ofNat_mul]
theorem Ach (i:Nat):BitVec.ofNat 64 (2 * i) + 2#64=BitVec.ofNat 64 (2 * i + 2):=by rw [BitVec.ofNat_add]
theorem D6 (ok:OkPo M) {k i:Nat} (hk:k < 24) (hi:i < 2 ^ k):Ag M 131 [W (pw k i)] [] 0 (Q3 (Ah (W (pw (k + 1) (2 * i))) .nili) [] 0):=by
 have hM:=KP ok (k:=k + 1) (i:=2 * i) Aa (by rw [Nat.pow_succ];omega)
 refine Ab ok.k131 rfl fun x hx=>?_
 have z1:IntKind.i64.wrap ((k:Int) + 1)=((k + 1:Nat):Int):=AZ
 refine es 2000 ?_;(simp only [Abk,Aag,LZ,seval])
 refine Ak (Bc ok (Nat.le_of_lt hk) hi) ?_
 (simp only [AS,z1,Zr,LZ,seval])
 refine Ak (hM) ?_
 (simp only [AH,seval])
 have zz:=@Ah.eq_1;exact Bf hx [] ⟨rfl,rfl,rfl⟩
theorem HA (ok:OkPo M) {k i:Nat} (hk:k < 24) (hi:i + 1 < 2 ^ k):Ag M 132 [W (pw k i)] [] 0 (Q3 (Ah (W (pw (k + 1) (2 * i + 2))) .nili) [] 0):=by
 have hp:=Tu (Nat.le_of_lt hk)
 have hM:=KP ok (k:=k + 1) (i:=2 * i + 2) Aa (by rw [Nat.pow_succ];omega)
 refine Ab ok.k132 rfl fun x hx=>?_
 have e0:((k:Int)=24)=False:=eq_false Aa
 have z1:0≤(k:Int):=Aa
 have z2:IntKind.i64.wrap ((k:Int) + 1)=((k + 1:Nat):Int):=AZ
 have e1:(BitVec.ofNat 64 i=1#64 <<< k - 1#64)=False:=eq_false (by
  rw [sh1]
  intro h
  have h:=congrArg BitVec.toNat h
  rw [BitVec.toNat_sub,BitVec.toNat_ofNat,BitVec.toNat_ofNat] at h
  simp at h
  omega)
 refine es 2000 ?_;(simp only [WO,Xu,LZ,seval])
 refine Ak (Bc ok (Nat.le_of_lt hk) (show i < 2 ^ k by omega)) ?_
 (simp only [AS,e0,z1,e1,z2,Zr,Ach,LZ,seval])
 refine Ak (hM) ?_
 (simp only [AH,seval])
 have zz:=@Ah.eq_1;exact Bf hx [] ⟨rfl,rfl,rfl⟩
def Zp (D k i:Nat):Nat:=(i + 1) * 2 ^ (D - k) - 1
theorem FA (ok:OkPo M) (k359:Au M 359 Aaj=true) {D k i:Nat} (hD:D≤24) (hk:k≤D) (hi:i < 2 ^ k):Ag M 359 [W (pw k i),.int .i64 D] [] 0 (Q3 (Ah (W (BitVec.ofNat 64 (Zp D k i))) .nili) [] 0):=by
 refine Ab k359 rfl fun x hx=>?_
 have hp:=Tu hD
 have hq:=Tu (show D - k≤24 by omega)
 have e0:((D:Int) < (k:Int))=False:=eq_false Aa
 have e1:(24 < (D:Int))=False:=eq_false Aa
 have z2:IntKind.i64.wrap ((D:Int) - (k:Int))=((D - k:Nat):Int):=AZ
 have z1:0≤((D - k:Nat):Int):=Aa
 have e3:(BitVec.ofNat 64 i + 1#64) <<< (D - k) - 1#64=BitVec.ofNat 64 (Zp D k i):=by
  have h2:2 ^ D=2 ^ k * 2 ^ (D - k):=Ul
  have h3:(i + 1) * 2 ^ (D - k)≤2 ^ k * 2 ^ (D - k):=Nat.mul_le_mul_right _ hi
  have h4:1 * 2 ^ (D - k)≤(i + 1) * 2 ^ (D - k):=Nat.mul_le_mul_right _ Aa
  have h5:i < 16777216:=by have:=(Tu (show k≤24 by omega)).2;omega
  apply BitVec.eq_of_toNat_eq
  rw [BitVec.toNat_sub,BitVec.toNat_shiftLeft,BitVec.toNat_add,BitVec.toNat_ofNat,BitVec.toNat_ofNat,Nat.shiftLeft_eq,Zp]
  rw [show (i % 2 ^ 64 + 1 % 2 ^ 64) % 2 ^ 64=i + 1 by omega,BitVec.toNat_ofNat]
  omega
 refine es 2000 ?_;(simp only [Aaj,Aiy,LZ,seval])
 refine Ak (Bc ok (show k≤24 by omega) hi) ?_
 (simp only [AS,e0,e1,z2,z1,e3,LZ,seval])
 have zz:=@Ah.eq_1;exact Bf hx [] ⟨rfl,rfl,rfl⟩
structure OkLe (M:Seat):Prop where
 l:OkLd M
structure OkGm (M:Seat):Prop where
 n:OkGN M
 l:OkLd M
 p:OkPo M
 k249:Au M 249 Acw=true
 k248:Au M 248 Ac5=true
 k350:Au M 350 P4=true
 k354:Au M 354 Yu=true
def Ai (d:Int) (l g:BitVec 64) (s:Dg) (ld cs:V):V:=.st 37 (.fcons 0 (Al d l g s) (.fcons 35 ld (.fcons 36 cs .fnil)))
theorem FB {M:Seat} (ok:OkGm M) (c:Int):Ag M 248 [.int .i64 c,.nili] [] 0 (Q3 .nili [] 0):=by
 refine Ab ok.k248 rfl fun x hx=>?_
 refine es 2000 ?_;(simp only [Ac5,Aal,LZ,seval])
 exact Ar.mkZ hx [] ⟨rfl,rfl,rfl⟩
def Aap (max:Bool) (x y z w:V) (H:Hp):Out:=match x,y,z,w with
 | .int k a,.int k1 b,.int k2 c,.int k3 d=>⟨k=k1∧k=k2∧k=k3,.int k (OU max (OU max (OU max a b) c) d),H⟩
 | _,_,_,_=>BG H
theorem HX (A:List V) (H:Hp) (n:Nat) (max:Bool) (x y z w:X):Ae A H n (.mm4 max x y z w)=Aap max (x.ev A) (y.ev A) (z.ev A) (w.ev A) H:=rfl
def Kv (a b:BitVec 64):BitVec 64:=if a < b then b else a
theorem Aen (a b:BitVec 64):OU true (a.toNat:Int) (b.toNat:Int)=((Kv a b).toNat:Int):=by
 unfold OU Kv
 simp only [if_true,BitVec.lt_def]
 by_cases h:a.toNat < b.toNat
 ·rw [if_pos h,if_pos Aa]
 ·rw [if_neg h,if_neg Aa]
theorem Lm (a b c d:BitVec 64) (H:Hp):Aap true (W a) (W b) (W c) (W d) H=⟨True,W (Kv (Kv (Kv a b) c) d),H⟩:=by
 simp only [W,Aap,Aen,and_self]
structure OkMv (M:Seat):Prop where
 g:OkGm M
 k351:Au M 351 Yv=true
 k352:Au M 352 RK=true
 k353:Au M 353 Um=true
 k452:Au M 452 WG=true
 k453:Au M 453 WD=true
 k487:Au M 487 T1=true
 k247:Au M 247 Ot=true
 fn352:EC M 352
theorem Wj {M:Seat} {f:Nat} {v w:V} {us:List V} {H:Hp} {n:Nat} {K:V→Hp→Prop} (hf:EC M f) (hv:(v.solid && !v.isAgg)=true) (hw:(w.solid && !w.isAgg)=true) (h:AR M f (us ++ [v,w]) H n K):Eo M (.fn f (.st 2 (.fcons 0 v (.fcons 1 w .fnil)))) us H n K:=by
 refine .inl ⟨⟨hf,?_⟩,h⟩
 simp [V.fhas,V.fget,List.range_succ] at hv hw ⊢
 exact ⟨hv,hw⟩
variable {M:Seat}
def Oa (l g:BitVec 64):Prop:=¬ l < 1#64∧¬ 1099511627776#64 < l∧¬ l < g
def Gy (u a b n:BitVec 64):Prop:=n < a ∨ 1099511627776#64 < Kv (Kv (Kv u a) b) n
def YI (a b:BitVec 64):BitVec 64:=if a < b then a else b
theorem Ago (a b:BitVec 64) (H:Hp):WY false (W a) (W b) H=⟨True,W (YI a b),H⟩:=by
 have:WY false (W a) (W b) H=⟨IntKind.u64=IntKind.u64,.int .u64 (OU false (a.toNat:Int) (b.toNat:Int)),H⟩:=rfl
 rw [this]
 have h:OU false (a.toNat:Int) (b.toNat:Int)=((YI a b).toNat:Int):=by
  unfold OU YI
  simp only [SR,BitVec.lt_def]
  repeat' split
  all_goals omega
 rw [h];simp [W]
structure OkCl (M:Seat):Prop where
 v:OkMv M
theorem Fc (ok:OkMv M) (l g:BitVec 64) (h:Oa l g):Ag M 249 [Ac l g] [] 0 (Q3 .nili [] 0):=by
 obtain ⟨h1,h2,h3⟩:=h
 refine Ab ok.g.k249 rfl fun x hx=>?_
 refine es 2000 ?_;(simp only [Acw,Abc,Ac,h1,h2,h3,LZ,seval])
 exact Ar.mkZ hx [] ⟨rfl,rfl,rfl⟩
theorem MM (ok:OkMv M) (u a b n:BitVec 64) (h:¬ Gy u a b n):Ag M 487 [Ac u a,W b,W n] [] 0 (Q3 (Ah (W (b + n - a)) .nili) [] 0):=by
 obtain ⟨h1,h2⟩:=not_or.1 h
 refine Ab ok.k487 rfl fun x hx=>?_
 refine es 2000 ?_;(simp only [T1,UT,Ac,HX,Lm,h1,h2,LZ,seval])
 have zz:=@Ah.eq_1;exact Bf hx [] ⟨rfl,rfl,rfl⟩
theorem EW (ok:OkMv M) (l g u a b n:BitVec 64) (hc:Oa l g) (h:¬ Gy u a b n):Ag M 453 [Ac l g,Ac u a,W b,W n] [] 0 (Q3 (Ah (W (b + n - a)) .nili) [] 0):=by
 refine Ab ok.k453 rfl fun x hx=>?_
 refine es 2000 ?_;(simp only [WD,X6,Ac,LZ,seval])
 have zz:=@Ac.eq_1;refine Ce (Fc ok l g hc) ?_
 (simp only [LZ,seval])
 have zz:=@Ac.eq_1;refine Ce (MM ok u a b n h) ?_
 (simp only [AH,seval])
 have zz:=@Ah.eq_1;exact Bf hx [] ⟨rfl,rfl,rfl⟩
theorem I8 (ok:OkMv M) (l g u a b n:BitVec 64) (hc:Oa l g) (h:¬ Gy u a b n) (hl:¬ l≤b + n - a):Ag M 353 [Ac l g,Ac u a,W b,W n] [] 0 (Q3 (Ah (Ac (YI (b + n - a) (l - g)) n) .nili) [] 0):=by
 refine Ab ok.k353 rfl fun x hx=>?_
 refine es 2000 ?_;(simp only [Um,VD,Ac,LZ,seval])
 have zz:=@Ac.eq_1;refine Ce (EW ok l g u a b n hc h) ?_
 (simp only [AH,hl,Ago,seval])
 have zz:=Bb @Ah.eq_1 @Ac.eq_1;exact Bf hx [] ⟨rfl,rfl,rfl⟩
def Ap (n:Nat) (c:Nat→Cl):V:=.ar 42 n fun j=>(c j).v
theorem FT {M:Seat} (ok:OkGm M) (d:Int) (l g:BitVec 64) (s:Dg) (n:Nat) (c:Nat→Cl) (a:Nat) (ha:a < n) (hr:(c a).rs=false) :
 Ag M 246 [.ptr 0 [],.int .i64 a] [(0,Ai d l g s (.ptr 2 []) (.sl 1 [] 0 n 42)),(1,Ap n c)] 3 (Q3 (Ah (c a).v .nili) [(0,Ai d l g s (.ptr 2 []) (.sl 1 [] 0 n 42)),(1,Ap n c)] 3):=by
 have d0:((a:Int) < 0)=False:=eq_false Aa
 have d1:((n:Int)≤(a:Int))=False:=eq_false Aa
 have d2:((a:Int) < (n:Int))=True:=eq_true Aa
 have d3:(0≤(a:Int))=True:=eq_true Aa
 refine Ab ok.n.k246 rfl fun x hx=>?_
 refine es 2000 ?_;(simp only [Rm,R8,Ai,Al,Ac,Ap,Cl.v,hr,d0,d1,d2,d3,LZ,seval])
 repeat refine sd ?_
 have zz:=Bb @Ah.eq_1 @dg.eq_1;exact Bf hx [0,1,2] ⟨rfl,rfl,rfl⟩
def CQ (c:Nat→Cl) (q:Cl):BitVec 64:=if q.par < 0 then 0#64 else (c q.par.toNat).us
theorem Dc {M:Seat} (ok:OkGm M) (d:Int) (l g:BitVec 64) (s:Dg) (n:Nat) (c:Nat→Cl) (q:Cl) (hq:q.par < 0 ∨ ∃ p:Nat,q.par=p∧p < n) :
 Ag M 354 [.ptr 0 [],q.v] [(0,Ai d l g s (.ptr 2 []) (.sl 1 [] 0 n 42)),(1,Ap n c)] 3 (Q3 (W (CQ c q)) [(0,Ai d l g s (.ptr 2 []) (.sl 1 [] 0 n 42)),(1,Ap n c)] 3):=by
 unfold CQ
 refine Ab ok.k354 rfl fun x hx=>?_
 rcases hq with h0 | ⟨p,hp,hn⟩
 ·rw [if_pos h0]
  refine es 2000 ?_;(simp only [Yu,Xq,Ai,Al,Ac,Ap,Cl.v,h0,LZ,seval])
  have zz:=@dg.eq_1;exact Bf hx [0,1,2] ⟨rfl,rfl,rfl⟩
 ·have d0:((p:Int) < 0)=False:=eq_false Aa
  have d2:((p:Int) < (n:Int))=True:=eq_true Aa
  have d3:(0≤(p:Int))=True:=eq_true Aa
  rw [hp,if_neg Aa,Int.toNat_natCast]
  refine es 2000 ?_;(simp only [Yu,Xq,Ai,Al,Ac,Ap,Cl.v,hp,d0,d2,d3,LZ,seval])
  repeat refine sd ?_
  have zz:=@dg.eq_1;exact Bf hx [0,1,2] ⟨rfl,rfl,rfl⟩
variable {M:Seat}
theorem GH (ok:OkGm M) (D:Nat) (l g:BitVec 64) (s:Dg) (n:Nat) (q:Cl) (k i:Nat) (hk:k≤20) (hi:i < 2 ^ k) (hq:q.pos=pw k i) (hD:¬ D≤k) :
 Ag M 350 [.ptr 0 [],q.v,.bool false] [(0,Ai D l g s (.ptr 2 []) (.sl 1 [] 0 n 42))] 3 (Q3 (AS (W (pw (k + 1) (2 * i))) (.int .i64 ((k + 1:Nat):Int)) .nili) [(0,Ai D l g s (.ptr 2 []) (.sl 1 [] 0 n 42))] 3):=by
 refine Ab ok.k350 rfl fun x hx=>?_
 have d0:((D:Int)≤(k:Int))=False:=eq_false Aa
 have z1:IntKind.i64.wrap ((k:Int) + 1)=((k + 1:Nat):Int):=AZ
 refine es 2000 ?_;(simp only [P4,Pv,Ai,Al,Ac,Cl.v,hq,LZ,seval])
 refine Ak (Bc ok.p (show k≤24 by omega) hi) ?_
 (simp only [AS,d0,LZ,seval])
 refine Ak (D6 ok.p (show k < 24 by omega) hi) ?_
 (simp only [AH,z1,seval])
 have zz:=Bb @AS.eq_1 @dg.eq_1;exact Bf hx [0,1,2] ⟨rfl,rfl,rfl⟩
theorem Gw (ok:OkGm M) (D:Nat) (l g:BitVec 64) (s:Dg) (n:Nat) (q:Cl) (k i:Nat) (hk:k≤20) (hi:i + 1 < 2 ^ k) (hq:q.pos=pw k i) (hD:¬ D≤k) :
 Ag M 350 [.ptr 0 [],q.v,.bool true] [(0,Ai D l g s (.ptr 2 []) (.sl 1 [] 0 n 42))] 3 (Q3 (AS (W (pw (k + 1) (2 * i + 2))) (.int .i64 ((k + 1:Nat):Int)) .nili) [(0,Ai D l g s (.ptr 2 []) (.sl 1 [] 0 n 42))] 3):=by
 refine Ab ok.k350 rfl fun x hx=>?_
 have d0:((D:Int)≤(k:Int))=False:=eq_false Aa
 have z1:IntKind.i64.wrap ((k:Int) + 1)=((k + 1:Nat):Int):=AZ
 have hi':i < 2 ^ k:=Aa
 refine es 2000 ?_;(simp only [P4,Pv,Ai,Al,Ac,Cl.v,hq,LZ,seval])
 refine Ak (Bc ok.p (show k≤24 by omega) hi') ?_
 (simp only [AS,d0,LZ,seval])
 refine Ak (D6 ok.p (show k < 24 by omega) hi') ?_
 (simp only [AH,seval])
 refine Ak (HA ok.p (show k < 24 by omega) hi) ?_
 (simp only [AH,z1,seval])
 have zz:=Bb @AS.eq_1 @dg.eq_1;exact Bf hx [0,1,2] ⟨rfl,rfl,rfl⟩
def M4 (X:Cl) (q:BitVec 64) (y:Cl):Prop:=y.par=X.par∧y.pos=q∧y.val=X.val
instance (X:Cl) (q:BitVec 64) (y:Cl):Decidable (M4 X q y):=by unfold M4;infer_instance
theorem I7 (ok:OkMv M) (y X:Cl) (q:BitVec 64):Ag M 352 [y.v,.imm X.v,.imm (W q)] [] 0 (Q3 (.bool (decide (M4 X q y))) [] 0):=by
 refine Ab ok.k352 rfl fun x hx=>?_
 by_cases h1:y.par=X.par
 ·by_cases h2:y.pos=q
  ·by_cases h3:y.val=X.val
   ·have e:decide (M4 X q y)=true:=decide_eq_true ⟨h1,h2,h3⟩
    rw [e]
    refine es 2000 ?_;(simp only [RK,Sf,Cl.v,Ac,h1,h2,h3,LZ,seval])
    exact Ar.mkZ hx [] ⟨rfl,rfl,rfl⟩
   ·have e:decide (M4 X q y)=false:=decide_eq_false fun h=>h3 h.2.2
    rw [e]
    refine es 2000 ?_;(simp only [RK,Sf,Cl.v,Ac,h1,h2,h3,LZ,seval])
    exact Ar.mkZ hx [] ⟨rfl,rfl,rfl⟩
  ·have e:decide (M4 X q y)=false:=decide_eq_false fun h=>h2 h.2.1
   rw [e]
   refine es 2000 ?_;(simp only [RK,Sf,Cl.v,Ac,h1,h2,LZ,seval])
   exact Ar.mkZ hx [] ⟨rfl,rfl,rfl⟩
 ·have e:decide (M4 X q y)=false:=decide_eq_false fun h=>h1 h.1
  rw [e]
  refine es 2000 ?_;(simp only [RK,Sf,Cl.v,Ac,h1,LZ,seval])
  exact Ar.mkZ hx [] ⟨rfl,rfl,rfl⟩
theorem M9 (ok:OkMv M) (n:Nat) (hn:n < 1000) (c:Nat→Cl) (X:Cl) (q:BitVec 64) (hno:∀ j,j < n→¬ M4 X q (c j)) :
 Ag M 452 [.lst 42 n (fun j=>(c j).v),.fn 352 (.st 2 (.fcons 0 (.imm X.v) (.fcons 1 (.imm (W q)) .fnil)))] [] 0 (Q3 (.int .i64 (-1)) [] 0):=by
 refine Ab ok.k452 rfl fun x hx=>?_
 refine es 2000 ?_;(simp only [WG,WH,LZ,seval])
 refine An (σ:=Nat) (fun i=>i≤n) (fun i=>fr 19 [(8,.int .i64 i),(7,.int .i64 n),(1,.fn 352 (.st 2 (.fcons 0 (.imm X.v) (.fcons 1 (.imm (W q)) .fnil)))),(0,.lst 42 n fun j=>(c j).v)]) (fun _=>[]) (fun _=>0) (fun i=>n - i) 0 Aa ?_ ?_
 ·refine Ao.fr [] [] hx AQ Am ?_ ?_
  all_goals simp only [Int.natCast_zero,Cl.v,Ac,dg,implies_true,LY,seval]
 ·intro i hi
  refine es 2000 ?_
  by_cases h0:i=n
  ·subst h0
   have d0:((i:Int) < (i:Int))=False:=eq_false Aa
   (simp only [d0,LZ,seval])
   exact Ar.mkZ hx [] ⟨rfl,rfl,rfl⟩
  ·have d0:((i:Int) < (n:Int))=True:=eq_true Aa
   have d2:(0≤(i:Int))=True:=eq_true Aa
   have hS:=I7 ok (c i) X q
   rw [decide_eq_false (hno i Aa)] at hS
   have z0:IntKind.i64.wrap ((i:Int) + 1)=((i + 1:Nat):Int):=AZ
   (simp only [d0,d2,LZ,seval])
   repeat refine sd ?_
   refine Wj ok.fn352 rfl rfl ?_
   have zz:=C4 @Cl.v.eq_1 @Ac.eq_1 @dg.eq_1;refine Ce (hS) ?_
   (simp only [z0,LZ,seval])
   refine ⟨i + 1,by omega,by omega,?_⟩
   refine Ao.fr [] [] hx AQ Am ?_ ?_
   all_goals simp only [Cl.v,Ac,dg,implies_true,LY,seval]
theorem Fe (ok:OkMv M) (n:Nat) (hn:n < 1000) (c:Nat→Cl) (X:Cl) (q:BitVec 64) (h:¬ ∃ j,j < n∧M4 X q (c j)) :
 Ag M 351 [.lst 42 n (fun j=>(c j).v),.fn 352 (.st 2 (.fcons 0 (.imm X.v) (.fcons 1 (.imm (W q)) .fnil)))] [] 0 (Q3 (.bool false) [] 0):=by
 have h:=M9 ok n hn c X q (fun j hj hs=>h ⟨j,hj,hs⟩)
 refine Ab ok.k351 rfl fun x hx=>?_
 refine es 2000 ?_;(simp only [Yv,W9,LZ,seval])
 have zz:=C4 @Cl.v.eq_1 @Ac.eq_1 @dg.eq_1;refine Ce (h) ?_
 (simp only [LZ,seval])
 exact Ar.mkZ hx [] ⟨rfl,rfl,rfl⟩
end Mv
