/- A part. -/
import Derived.Test.YtlfkjfonpacelaaGreatDoorEZ
set_option linter.all false
set_option maxRecDepth 20000
set_option maxHeartbeats 4000000
namespace Mv
open Go
variable {M:Seat}
structure OkV (M:Seat):Prop extends OkS M where
 k70:Au M 70 f70=true
 k71:Au M 71 f71=true
 k79:Au M 79 f79=true
 k214:Au M 214 Axg=true
 k220:Au M 220 Afl=true
 fn220:EC M 220
def CP (w:BitVec 64):Nat:=(w >>> 56).toNat
def pF (w:BitVec 64) (k:Nat):Nat:=(w >>> k &&& 15#64).toNat
def pN (w:BitVec 64):Int:=(w.setWidth 32).toInt
theorem Lw (w:BitVec 64):(w >>> 56).toInt=(CP w:Int):=by
 have h:(w >>> 56).toNat < 256:=by rw [BitVec.toNat_ushiftRight,Nat.shiftRight_eq_div_pow];have:=w.isLt;omega
 rw [BitVec.toInt_eq_toNat_cond,if_pos Aa];rfl
theorem A5 (w:BitVec 64) (k:Nat):pF w k < 16:=by
 rw [pF,BitVec.toNat_and]
 exact Nat.lt_of_le_of_lt Nat.and_le_right Am
theorem Ab7 (w:BitVec 64) (k:Nat):(w >>> k &&& 15#64).toInt=(pF w k:Int):=by
 have h:=A5 w k
 rw [BitVec.toInt_eq_toNat_cond,if_pos (by unfold pF at h;omega)];rfl
theorem RU (ok:OkV M) (f g:Nat→BitVec 64) (pc:BitVec 64) (hl:Bool) (xt e:BitVec 64) :
 Ag M 214 [.ptr 0 [],W e] [(0,A3 f g pc hl xt)] 1 (Q3 (.tup .fnil) [(0,A3 f g pc true e)] 1):=by
 refine Ab ok.k214 rfl fun x hx=>?_
 refine es 2000 ?_;(simp only [Axg,Aig,Zt,seval])
 refine Rv hx [0] (.tup .fnil) ([(0,A3 f g pc true e)]) 1 ?_
 all_goals simp only [A3,LY,seval]
theorem Eu (ok:OkV M) (w:BitVec 64) (k:Nat):Ag M 220 [.int .i64 k,.imm (W w)] [] 0 (Q3 (.int .i64 (pF w k:Nat)) [] 0):=by
 refine Ab ok.k220 rfl fun x hx=>?_
 refine es 2000 ?_;(simp only [Afl,Age,LZ,seval])
 simp only [Ab7]
 repeat refine sd ?_
 refine Ar.mk hx [] [] (.int .i64 (pF w k:Nat)) [] 0 Am (by (simp only [CU,seval])) (by (try simp only [OJ,seval]) <;> exact q2) trivial ⟨rfl,rfl,rfl⟩
def BB (w:BitVec 64):V:=.tup (.fcons 0 (.int .i64 (CP w)) (.fcons 1 (.int .i64 (pF w 52)) (.fcons 2 (.int .i64 (pF w 48)) (.fcons 3 (.int .i64 (pF w 44)) (.fcons 4 (.int .i64 (pF w 40)) (.fcons 5 (.int .i64 (pN w)) (.fcons 6 (.bool true) .fnil)))))))
def Mx:=(Bb @LZ @BB.eq_1)
theorem AO (ok:OkV M) (w:BitVec 64) (h1:CP w≤35) (h2:w >>> 32 &&& 255#64=0#64):Ag M 79 [W w] [] 0 (Q3 (BB w) [] 0):=by
 refine Ab ok.k79 rfl fun x hx=>?_
 have e1:((35:Int) < (CP w:Int))=False:=eq_false Aa
 refine es 2000 ?_;(simp only [f79,c79,Lw,e1,h2,LZ,seval])
 have wn:IntKind.i64.wrap (w.setWidth 32).toInt=pN w:=by
  have h1:=BitVec.toInt_lt (x:=w.setWidth 32)
  have h2:=BitVec.le_toInt (x:=w.setWidth 32)
  rw [AY Aa];rfl
 refine oyK (ok.fn220) (Eu ok w 52) (by (try simp only [LY,seval]) <;> exact q1) (by simp only [LX]) ?_
 (simp only [LZ,seval])
 refine oyK (ok.fn220) (Eu ok w 48) (by (try simp only [LY,seval]) <;> exact q1) (by simp only [LX]) ?_
 (simp only [LZ,seval])
 refine oyK (ok.fn220) (Eu ok w 44) (by (try simp only [LY,seval]) <;> exact q1) (by simp only [LX]) ?_
 (simp only [LZ,seval])
 refine oyK (ok.fn220) (Eu ok w 40) (by (try simp only [LY,seval]) <;> exact q1) (by simp only [LX]) ?_
 (simp only [wn,LZ,seval])
 refine Ar.mk hx [] [] (BB w) [] 0 Am (by simp only [Laj,G5,LZ,seval]) ?_ trivial ⟨rfl,rfl,rfl⟩
 simp only [Mx,Dz,DC,FY,seval,LY]
theorem L8 (ok:OkV M) (w:BitVec 64) (h1:¬ (CP w≤35∧w >>> 32 &&& 255#64=0#64)):Ag M 79 [W w] [] 0 (Q3 (.tup (.fcons 0 (.int .i64 0) (.fcons 1 (.int .i64 0) (.fcons 2 (.int .i64 0) (.fcons 3 (.int .i64 0) (.fcons 4 (.int .i64 0) (.fcons 5 (.int .i64 0) (.fcons 6 (.bool false) .fnil)))))))) [] 0):=by
 refine Ab ok.k79 rfl fun x hx=>?_
 by_cases hp:CP w≤35
 ·have e1:((35:Int) < (CP w:Int))=False:=eq_false Aa
  have e2:(w >>> 32 &&& 255#64=0#64)=False:=eq_false (fun h=>h1 ⟨hp,h⟩)
  refine es 2000 ?_;(simp only [f79,c79,Lw,e1,e2,LZ,seval])
  refine Ar.mk hx [] [] (.tup (.fcons 0 (.int .i64 0) (.fcons 1 (.int .i64 0) (.fcons 2 (.int .i64 0) (.fcons 3 (.int .i64 0) (.fcons 4 (.int .i64 0) (.fcons 5 (.int .i64 0) (.fcons 6 (.bool false) .fnil)))))))) [] 0 Am (by (simp only [CU,seval])) (by (try simp only [OJ,seval]) <;> exact q2) trivial ⟨rfl,rfl,rfl⟩
 ·have e1:((35:Int) < (CP w:Int))=True:=eq_true Aa
  refine es 2000 ?_;(simp only [f79,c79,Lw,e1,LZ,seval])
  refine Ar.mk hx [] [] (.tup (.fcons 0 (.int .i64 0) (.fcons 1 (.int .i64 0) (.fcons 2 (.int .i64 0) (.fcons 3 (.int .i64 0) (.fcons 4 (.int .i64 0) (.fcons 5 (.int .i64 0) (.fcons 6 (.bool false) .fnil)))))))) [] 0 Am (by (simp only [CU,seval])) (by (try simp only [OJ,seval]) <;> exact q2) trivial ⟨rfl,rfl,rfl⟩
abbrev Bn:BitVec 64:=18446744073709551614#64
theorem Atx (ok:OkV M) (f g:Nat→BitVec 64) (pc xt:BitVec 64) (hpc:¬ 8192#64≤pc) (w:BitVec 64) (hw:f pc.toNat=w) (hop:CP w=0) (h2:w >>> 32 &&& 255#64=0#64) :
 Ag M 70 [.ptr 0 [],.ptr 1 []] [(0,A3 f g pc false xt)] 2 (Q3 .nili [(0,A3 f g pc true (g (pF w 48)))] 2):=by
 refine Ab ok.k70 rfl fun x hx=>?_
 have hp:pc.toNat < 8192:=YU
 have a1:=A5 w 52
 have a2:=A5 w 48
 have a3:=A5 w 44
 have a4:=A5 w 40
 refine es 2000 ?_;(simp only [f70,c70,Zt,hpc,hw,seval])
 repeat refine sd ?_
 have zz:=@BB.eq_1;refine G0 (AO ok w Aa h2) ?_
 (simp only [Mx,hop,seval])
 repeat refine sd ?_
 have zz:=@A3.eq_1;refine SM [0] (RU ok f g pc false xt (g (pF w 48))) ?_
 (simp only [Zt,seval])
 refine Rv hx [0,1] (.nili) ([(0,A3 f g pc true (g (pF w 48)))]) 2 ?_
 all_goals simp only [A3,Zh,LY,seval]
structure Mc where
 f:Nat→BitVec 64
 g:Nat→BitVec 64
 pc:BitVec 64
 hl:Bool
 xt:BitVec 64
def Mc.v (m:Mc):V:=A3 m.f m.g m.pc m.hl m.xt
def Mz (M:Seat) (m m':Mc):Prop:=Ag M 70 [.ptr 0 [],.ptr 1 []] [(0,m.v)] 2 (Q3 .nili [(0,m'.v)] 2)
theorem Avv {M:Seat} (ok:OkV M) (ms:Nat→Mc) (k n:Nat) (hk:k≤n) (hn:n < 9223372036854775808) (hs:∀ i,i < k→(ms i).hl=false∧Mz M (ms i) (ms (i + 1))) (he:(ms k).hl=true ∨ k=n) :
 Ag M 71 [.ptr 0 [],.ptr 1 [],.int .i64 n] [(0,(ms 0).v)] 2 (Q3 (Ah (.int .i64 k) .nili) [(0,(ms k).v)] 2):=by
 refine Ab ok.k71 rfl fun x hx=>?_
 have e0:((n:Int) < 0)=False:=eq_false Aa
 have hS:∀ (m:Mc) H a z,Az H a z m.v m.v:=fun m H a z=>by simp only [Mc.v,A3,LY,seval]
 have hN:∀ m:Mc,AC m.v:=fun m=>by simp only [Mc.v,A3,AC,UL,implies_true,and_self]
 have hR:∀ (m:Mc) a,m.v.ren a=m.v:=fun m a=>rfl
 refine es 2000 ?_;(simp only [f71,c71,e0,LZ,seval])
 refine An (σ:=Nat) (fun i=>i≤k) (fun i=>fr 37 [(0,.ptr 0 []),(1,.ptr 1 []),(2,.int .i64 n),(8,.int .i64 i)]) (fun i=>[(0,(ms i).v)]) (fun _=>2) (fun i=>k - i) 0 Aa ?_ ?_
 ·refine Ao.fr [0,1] [] hx AQ Am ?_ ?_
  ·simp only [LY,seval]
  ·simp only [hS,LY,seval]
 ·intro i hi
  refine es 2000 ?_
  by_cases hik:i=k
  ·subst hik
   rcases he with he | he
   ·by_cases hin:i < n
    ·have d0:((i:Int) < (n:Int))=True:=eq_true Aa
     (simp only [d0,Mc.v,Zt,he,seval])
     have zz:=C4 @Mc.v.eq_1 @A3.eq_1 he;exact Bf hx [0,1] ⟨rfl,rfl,rfl⟩
    ·have d0:((i:Int) < (n:Int))=False:=eq_false Aa
     (simp only [d0,Mc.v,Zt,seval])
     have zz:=Bb @Mc.v.eq_1 @A3.eq_1;exact Bf hx [0,1] ⟨rfl,rfl,rfl⟩
   ·have d0:((i:Int) < (n:Int))=False:=eq_false Aa
    (simp only [d0,Mc.v,Zt,seval])
    have zz:=Bb @Mc.v.eq_1 @A3.eq_1;exact Bf hx [0,1] ⟨rfl,rfl,rfl⟩
  ·obtain ⟨h1,h2⟩:=hs i Aa
   have d0:((i:Int) < (n:Int))=True:=eq_true Aa
   have w0:IntKind.i64.wrap ((i:Int) + 1)=((i + 1:Nat):Int):=AZ
   have hv:(ms i).v=A3 (ms i).f (ms i).g (ms i).pc (ms i).hl (ms i).xt:=rfl
   rw [hv]
   (simp only [d0,Zt,h1,seval])
   have hst:=h2
   unfold Mz at hst
   rw [hv,h1] at hst
   have zz:=Bb @A3.eq_1 hN;refine Om [0,1] [0] (hst) ?_
   (simp only [hR,w0,LZ,seval])
   refine ⟨i + 1,by omega,by omega,?_⟩
   refine Ao.fr [0,1] [] hx AQ Am ?_ ?_
   ·simp only [LY,seval]
   ·simp only [hS,LY,seval]
structure OkI (M:Seat):Prop extends OkV M where
structure In where
 op:Int
 d:Int
 a:Int
 b:Int
 c:Int
 n:Int
 raw:BitVec 64
instance:Inhabited In:=⟨⟨0,0,0,0,0,0,0#64⟩⟩
structure OkW (M:Seat):Prop extends OkI M where
 k215:Au M 215 Avy=true
def i32 (n:Int):Int:=if n % 4294967296 ≥ 2147483648 then n % 4294967296 - 4294967296 else n % 4294967296
variable {M:Seat}
structure OkO (M:Seat):Prop extends OkW M where
 k308:Au M 308 Afc=true
 k327:Au M 327 Ad1=true
def wrd (p:Nat→BitVec 8):Nat→BitVec 64
 | 0=>0
 | k + 1=>(wrd p k <<< (8#64).toNat) ||| (p k).setWidth 64
theorem Sl (ok:OkO M) (n:Nat) (hn:8≤n) (p:Nat→BitVec 8):Ag M 308 [.lst 1 n (fun j=>B (p j))] [] 0 (Q3 (W (wrd p 8)) [] 0):=by
 refine Ab ok.k308 rfl fun x hx=>?_
 refine es 2000 ?_;(simp only [Afc,Agy,EE,seval])
 repeat refine sd ?_
 refine An (σ:=Nat) (fun i=>i≤8) (fun i=>fr 20 [(7,.lst 1 8 fun j=>B (p j)),(8,.int .i64 8),(9,.int .i64 i),(3,W (wrd p i))]) (fun _=>[]) (fun _=>0) (fun i=>8 - i) 0 Aa ?_ ?_
 ·refine Ao.fr [] [] hx AQ Am ?_ ?_
  ·simp only [wrd,LY,seval]
  ·trivial
 ·intro i hi
  refine es 2000 ?_
  by_cases h8:i=8
  ·subst h8
   (simp only [LZ,seval])
   exact Ar.mkZ hx [] ⟨rfl,rfl,rfl⟩
  ·have d0:((i:Int) < 8)=True:=eq_true Aa
   have w0:IntKind.i64.wrap ((i:Int) + 1)=((i + 1:Nat):Int):=AZ
   (simp only [d0,w0,LZ,seval])
   repeat refine sd ?_
   refine ⟨i + 1,by omega,by omega,?_⟩
   refine Ao.fr [] [] hx AQ Am ?_ ?_
   ·simp only [wrd,LY,seval]
   ·trivial
def WK (w:BitVec 64) (j:Nat):BitVec 8:=(w >>> (56 - 8 * j)).setWidth 8
theorem KQ (hc:Au M 312 Uv=true) (w:BitVec 64) :
 Ag M 312 [.sl 0 [] 0 8 1,W w] [(0,.ar 1 8 fun _=>B 0#8)] 1 (Q3 (.tup .fnil) [(0,.ar 1 8 fun j=>B (if j < 8 then WK w j else 0#8))] 1):=by
 have h:=Iw hc 8 0 8 (fun _=>0) (w.toNat:Int) Aa Aa Aa
 have e:(fun j=>V.int .u8 (if 0≤j∧j < 0 + 8 then XZ (w.toNat:Int) (j - 0) else 0))=(fun j=>B (if j < 8 then WK w j else 0#8)):=by
  funext j
  by_cases hj:j < 8
  ·rw [if_pos hj,if_pos Aa];exact Tl w j
  ·rw [if_neg hj,if_neg Aa];rfl
 rw [e] at h
 exact h
theorem JV (okA:OkM M) (ok:OkO M) (w:BitVec 64) :
 Ag M 327 [.nils,W w] [] 0 (Q3 (.sl 0 [] 0 8 1) [(0,.ar 1 8 fun j=>B (WK w j))] 1):=by
 refine Ab ok.k327 rfl fun x hx=>?_
 refine es 2000 ?_;(simp only [Ad1,Aam,EE,seval])
 repeat refine sd ?_
 refine HY [16] (KQ okA.k312 w) ?_
 (simp only [LZ,seval])
 repeat refine sd ?_
 refine Rv hx [112] (.sl 0 [] 0 8 1) ([(0,.ar 1 8 fun j=>B (WK w j))]) 1 ?_
 simp only [LY,seval]
 intro i hi
 rw [if_pos hi]
theorem Jw (okA:OkM M) (ok:OkO M) (n:Nat) (hn:n≤64) (p:Nat→BitVec 8) (w:BitVec 64) :
 Ag M 327 [.sl 0 [] 0 n 1,W w] [(0,.ar 1 n (fun j=>B (p j)))] 1 (Q3 (.sl 1 [] 0 (n + 8) 1) [(1,.ar 1 (n + 8) fun j=>B (if j < n then p j else WK w (j - n)))] 2):=by
 refine Ab ok.k327 rfl fun x hx=>?_
 refine es 2000 ?_;(simp only [Ad1,Aam,EE,seval])
 repeat refine sd ?_
 refine HY [17] (KQ okA.k312 w) ?_
 (simp only [LZ,seval])
 repeat refine sd ?_
 refine Rv hx [0,113] (.sl 1 [] 0 (n + 8) 1) ([(1,.ar 1 (n + 8) fun j=>B (if j < n then p j else WK w (j - n)))]) 2 ?_
 simp only [LY,seval]
 intro i hi
 by_cases h:i < n
 ·rw [if_pos h,if_pos h];simp only [B,LY,seval]
 ·rw [if_neg h,if_neg h,if_pos Aa];simp only [B,LY,seval]
def JB (f:Nat→BitVec 64) (j:Nat):BitVec 8:=WK (f (j / 8)) (j % 8)
def c55:LC:=(sr [A1 2 (.alloc (.st (.cons (.ar 16 (.int .u64)) (.cons (.int .u64) (.cons .bool (.cons (.int .u64) .nil)))))),mn 3] (.seq (sr [mt 4 0,A1 5 (.eq false true .ptr (.t 4) (.c .nilp))] (.cond (.t 5) (sr [A1 6 (.build (.st (.cons (.ar 16 (.int .u64)) (.cons (.int .u64) (.cons .bool (.cons (.int .u64) .nil))))) []),A1 7 (.mkif 74 (cI 1)),sb 19 2 6,mt 3 7] .ret) .skip)) (.seq (.regd [⟨0,0,mt 8 0⟩,⟨1,1,nc 9 8⟩,⟨2,3,fa 10 8192 9⟩,⟨3,7,la 11 16 10⟩,⟨4,0,mt 12 0⟩,⟨5,16,nc 13 12⟩,⟨6,48,fa 14 8208 13⟩,⟨7,112,lb 15 1 14⟩,⟨8,0,mt 16 0⟩,⟨9,256,nc 17 16⟩,⟨10,768,fa 18 8209 17⟩,⟨11,1792,lb 19 1 18⟩,⟨12,0,mt 20 0⟩,⟨13,4096,nc 21 20⟩,⟨14,12288,fa 22 8210 21⟩,⟨15,28672,lb 23 1 22⟩,⟨16,65535,A1 24 (.build (.st (.cons (.ar 16 (.int .u64)) (.cons (.int .u64) (.cons .bool (.cons (.int .u64) .nil))))) [(.f 0,16,(.t 11)),(.f 16,1,(.t 15)),(.f 17,1,(.t 19)),(.f 18,1,(.t 23))])⟩,⟨17,131071,sb 19 2 24⟩,⟨18,262143,mn 3⟩]) .ret)))
def f55:LF:=⟨c55,1,0,25,[.cell 2 true 19,.tmp 3]⟩
def c59:LC:=(sr [bX 1 0,
 aB 2 32] (sr [fa 7 0 1,A1 8 (.slarr 16 1 (.t 7) none none),mt 3 8] (sr [mU 4 0] (.seq (sr [fa 9 17 1,lb 10 1 9] (.cond (.t 10) (.reg [mU 4 1]) .skip)) (.seq (.regd [⟨0,0,mt 11 3⟩,⟨1,1,kl 12 208 [(.t 11)]⟩,⟨2,0,mt 13 3⟩,⟨3,4,A1 14 (.slsl 1 (.t 13) (some (cI 4)) none)⟩,⟨4,15,kl 15 208 [(.t 14)]⟩,⟨5,31,kl 16 207 [(.t 12),(.t 15)]⟩,⟨6,0,mt 17 3⟩,⟨7,64,A1 18 (.slsl 1 (.t 17) (some (cI 8)) none)⟩,⟨8,255,kl 19 208 [(.t 18)]⟩,⟨9,0,mt 20 3⟩,⟨10,512,A1 21 (.slsl 1 (.t 20) (some (cI 12)) none)⟩,⟨11,2047,kl 22 208 [(.t 21)]⟩,⟨12,4095,kl 23 207 [(.t 19),(.t 22)]⟩,⟨13,0,aB 5 32⟩,⟨14,0,aB 6 32⟩,⟨15,32767,sb 32 5 16⟩,⟨16,65535,sb 32 6 23⟩]) (.seq (.regd [⟨0,0,la 24 32 5⟩,⟨1,0,la 25 32 6⟩,⟨2,3,kl 26 207 [(.t 24),(.t 25)]⟩,⟨3,0,fa 27 16 1⟩,⟨4,8,lb 28 1 27⟩,⟨5,0,mt 29 4⟩,⟨6,0,fa 30 18 1⟩,⟨7,64,lb 31 1 30⟩,⟨8,248,A1 32 (.bsl 1 4 (.int .u64) [(.i 1 0,1,(.t 28)),(.i 1 1,1,(.t 29)),(.i 1 2,1,(.t 31)),(.i 1 3,1,(cU 0))])⟩,⟨9,511,kl 33 208 [(.t 32)]⟩,⟨10,1023,kl 34 207 [(.t 26),(.t 33)]⟩,⟨11,2047,sb 32 2 34⟩]) .ret))))))
def f59:LF:=⟨c59,1,0,35,[.cell 2 true 32]⟩
def c62:LC:=(sr [bX 2 0,
 bX 3 1,
 aB 4 32] (.seq (.regd [⟨1,0,la 6 19 3⟩,⟨2,1,kl 7 59 [(.t 6)]⟩,⟨0,0,la 5 32 2⟩,⟨3,7,kl 8 207 [(.t 5),(.t 7)]⟩,⟨4,15,sb 32 4 8⟩]) .ret))
def f62:LF:=⟨c62,2,0,9,[.cell 4 true 32]⟩
def Af0:LC:=(sr [aB 2 32] (sr [aB 3 32] (.seq (sr [mI 5 0] (.block 0 (.loop (sr [aI 6 .lss 5 4] (.seq (Dd 6 0) (.seq (.block 1 (sr [mt 7 5,mt 4 7]
 (.regd [⟨0,0,mt 8 4⟩,⟨1,1,aJ 9 .mul 8 8⟩,⟨2,3,A1 10 (.slarr 32 1 (.t 3) (some (.t 9)) none)⟩,⟨3,0,mt 11 0⟩,⟨4,0,mt 12 4⟩,⟨5,24,ia 13 1 11 12⟩,⟨6,56,lb 14 1 13⟩,⟨7,127,kl 15 312 [(.t 10),(.t 14)]⟩]))) (.reg [aI 16 .add 5 1,mt 5 16]))))))) (sr [la 17 32 3,sb 32 2 17] .ret))))
def Agd:LF:=⟨Af0,1,0,18,[.cell 2 true 32]⟩
variable {M:Seat}
structure OkD (M:Seat):Prop where
 k55:Au M 55 f55=true
 k59:Au M 59 f59=true
 k62:Au M 62 f62=true
 k208:Au M 208 Agd=true
theorem Sh (hc:Au M 312 Uv=true) (n o m:Nat) (ho:o + 8≤n) (hm:8≤m) (hom:o + m≤n) (p:Nat→BitVec 8) (w:BitVec 64) :
 Ag M 312 [.sl 0 [] o m 1,W w] [(0,.ar 1 n fun j=>B (p j))] 1 (Q3 (.tup .fnil) [(0,.ar 1 n fun j=>B (if o≤j∧j < o + 8 then WK w (j - o) else p j))] 1):=by
 have h:=Iw hc n o m (fun j=>((p j).toNat:Int)) (w.toNat:Int) Aa Aa Aa
 have e:(fun j=>V.int .u8 (if o≤j∧j < o + 8 then XZ (w.toNat:Int) (j - o) else ((p j).toNat:Int)))=(fun j=>B (if o≤j∧j < o + 8 then WK w (j - o) else p j)):=by
  funext j
  by_cases hj:o≤j∧j < o + 8
  ·rw [if_pos hj,if_pos hj];exact Tl w (j - o)
  ·rw [if_neg hj,if_neg hj];rfl
 rw [e] at h
 exact h
def Bu (w:Nat→BitVec 64):Dg:=Dg.mk' (JB w)
def w4 (a b c d:BitVec 64) (j:Nat):BitVec 64:=if j=0 then a else if j=1 then b else if j=2 then c else d
theorem BM (ok:OkM M) (okD:OkD M) (n:Nat) (hn:4≤n) (w:Nat→BitVec 64) :
 Ag M 208 [.lst 1 n (fun j=>W (w j))] [] 0 (Q3 (dg (Bu w)) [] 0):=by
 refine Ab okD.k208 rfl fun x hx=>?_
 refine es 2000 ?_;(simp only [Agd,Af0,LZ,seval])
 refine An (σ:=Nat) (fun i=>i≤4) (fun i=>fr 18 [(0,.lst 1 n (fun j=>W (w j))),(2,.ptr 0 []),(3,.ptr 1 []),(5,.int .i64 i)])
  (fun i=>[(0,.ar 1 32 (fun _=>B 0)),(1,.ar 1 32 (fun j=>B (if j < 8 * i then JB w j else 0)))]) (fun _=>2) (fun i=>4 - i) 0 Aa ?_ ?_
 ·refine Ao.fr [0,16] [] hx AQ Am ?_ ?_
  ·simp only [LY,seval]
  ·simp only [LY,seval]
   intro j hj
   rw [if_neg Aa]
 ·intro i hi
  refine es 2000 ?_
  by_cases h4:i=4
  ·subst h4
   (simp only [LZ,seval])
   refine Ar.mk hx [] [] (dg (Bu w)) [] 0 Am (by simp only [CU,seval]) ?_ trivial ⟨rfl,rfl,rfl⟩
   simp only [CU,seval]
   simp only [dg,LY,seval]
   intro j hj
   rw [if_pos Aa,Bu,Dg.at_mk' _ _ hj]
  ·have d0:((i:Int) < 4)=True:=eq_true Aa
   have w1:IntKind.i64.wrap ((i:Int) + 1)=((i + 1:Nat):Int):=AZ
   have w2:IntKind.i64.wrap (8 * (i:Int))=((8 * i:Nat):Int):=AZ
   (simp only [d0,w1,w2,LZ,seval])
   repeat refine sd ?_
   refine Ab2 [1] (Sh ok.k312 32 (8 * i) (32 - 8 * i) Aa Aa Aa (fun j=>if j < 8 * i then JB w j else 0#8) (w i)) ?_
   (simp only [w1,LZ,seval])
   repeat refine sd ?_
   refine ⟨i + 1,by omega,by omega,?_⟩
   refine Ao.fr [0,1] [] hx AQ Am ?_ ?_
   ·simp only [LY,seval]
   ·simp only [LY,seval]
    intro j hj
    by_cases h1:8 * i≤j∧j < 8 * i + 8
    ·rw [if_pos h1,if_pos Aa,JB,show j / 8=i by omega,show j % 8=j - 8 * i by omega]
    ·rw [if_neg h1]
     by_cases h2:j < 8 * i
     ·rw [if_pos h2,if_pos Aa]
     ·rw [if_neg h2,if_neg Aa]
def AM (g:Nat→BitVec 64) (pc:BitVec 64) (hl:Bool) (xt:BitVec 64):V :=
 .st 19 (.fcons 0 (.ar 1 16 (fun j=>W (g j))) (.fcons 16 (W pc) (.fcons 17 (.bool hl) (.fcons 18 (W xt) .fnil))))
def Wv:=(C4 @LY @AM.eq_1 @true_and)
def Z0:=(C4 @AH @List.nil_append.{0} @AM.eq_1)
def CR:=(Bb @LZ @AM.eq_1)
def E9:=(GM @LV @LZ @List.nil_append.{0} @AM.eq_1 @Zk)
theorem Ft (ok:OkD M) (f g:Nat→BitVec 64) (pc:BitVec 64) (hl:Bool) (xt:BitVec 64) :
 Ag M 55 [.imm (A3 f g pc hl xt)] [] 0 (Q3 (Ah (AM g pc hl xt) .nili) [] 0):=by
 refine Ab ok.k55 rfl fun x hx=>?_
 refine es 2000 ?_;(simp only [f55,c55,Zt,seval])
 have zz:=@AM.eq_1;exact Bf hx [] ⟨rfl,rfl,rfl⟩
def DT (g:Nat→BitVec 64) (pc:BitVec 64) (hl:Bool) (xt:BitVec 64):Dg :=
 Ch (Ch (Ch (Bu g) (Bu fun j=>g (4 + j))) (Ch (Bu fun j=>g (8 + j)) (Bu fun j=>g (12 + j)))) (Bu (w4 pc (if hl then 1 else 0) xt 0))
theorem Gr (ok:OkM M) (okD:OkD M) (g:Nat→BitVec 64) (pc:BitVec 64) (xt:BitVec 64) :
 Ag M 59 [AM g pc false xt] [] 0 (Q3 (dg (DT g pc false xt)) [] 0):=by
 refine Ab okD.k59 rfl fun x hx=>?_
 refine es 2000 ?_;(simp only [f59,c59,CR,seval])
 repeat refine sd ?_
 refine Bq (BM ok okD 16 Aa g) ?_
 (simp only [LZ,seval])
 repeat refine sd ?_
 refine Bq (BM ok okD 12 Aa (fun j=>g (4 + j))) ?_
 (simp only [LZ,seval])
 repeat refine sd ?_
 refine Bq (Bl ok (Bu g) (Bu fun j=>g (4 + j))) ?_
 (simp only [LZ,seval])
 repeat refine sd ?_
 refine Bq (BM ok okD 8 Aa (fun j=>g (8 + j))) ?_
 (simp only [LZ,seval])
 repeat refine sd ?_
 refine Bq (BM ok okD 4 Aa (fun j=>g (12 + j))) ?_
 (simp only [LZ,seval])
 repeat refine sd ?_
 refine Bq (Bl ok (Bu fun j=>g (8 + j)) (Bu fun j=>g (12 + j))) ?_
 (simp only [LZ,seval])
 repeat refine sd ?_
 refine Bq (Bl ok (Ch (Bu g) (Bu fun j=>g (4 + j))) (Ch (Bu fun j=>g (8 + j)) (Bu fun j=>g (12 + j)))) ?_
 (simp only [LZ,seval])
 repeat refine sd ?_
 refine opK (BM ok okD 4 Aa (w4 pc 0#64 xt 0#64)) (by (try simp only [LT,LY,seval]) <;> first | exact q1 | ((intro j hj;unfold w4;(repeat' split);all_goals first | exact (Rc _ _ _ _ _).mpr rfl | omega))) (by simp only [LT,LX]) ?_
 (simp only [LZ,seval])
 repeat refine sd ?_
 refine Bq (Bl ok (Ch (Ch (Bu g) (Bu fun j=>g (4 + j))) (Ch (Bu fun j=>g (8 + j)) (Bu fun j=>g (12 + j)))) (Bu (w4 pc 0#64 xt 0#64))) ?_
 (simp only [LZ,seval])
 repeat refine sd ?_
 have zz:=Bb @DT.eq_1 Lbn;exact Bf hx [] ⟨rfl,rfl,rfl⟩
theorem GX (ok:OkM M) (okD:OkD M) (g:Nat→BitVec 64) (pc:BitVec 64) (xt:BitVec 64) :
 Ag M 59 [AM g pc true xt] [] 0 (Q3 (dg (DT g pc true xt)) [] 0):=by
 refine Ab okD.k59 rfl fun x hx=>?_
 refine es 2000 ?_;(simp only [f59,c59,CR,seval])
 repeat refine sd ?_
 refine Bq (BM ok okD 16 Aa g) ?_
 (simp only [LZ,seval])
 repeat refine sd ?_
 refine Bq (BM ok okD 12 Aa (fun j=>g (4 + j))) ?_
 (simp only [LZ,seval])
 repeat refine sd ?_
 refine Bq (Bl ok (Bu g) (Bu fun j=>g (4 + j))) ?_
 (simp only [LZ,seval])
 repeat refine sd ?_
 refine Bq (BM ok okD 8 Aa (fun j=>g (8 + j))) ?_
 (simp only [LZ,seval])
 repeat refine sd ?_
 refine Bq (BM ok okD 4 Aa (fun j=>g (12 + j))) ?_
 (simp only [LZ,seval])
 repeat refine sd ?_
 refine Bq (Bl ok (Bu fun j=>g (8 + j)) (Bu fun j=>g (12 + j))) ?_
 (simp only [LZ,seval])
 repeat refine sd ?_
 refine Bq (Bl ok (Ch (Bu g) (Bu fun j=>g (4 + j))) (Ch (Bu fun j=>g (8 + j)) (Bu fun j=>g (12 + j)))) ?_
 (simp only [LZ,seval])
 repeat refine sd ?_
 refine opK (BM ok okD 4 Aa (w4 pc 1#64 xt 0#64)) (by (try simp only [LT,LY,seval]) <;> first | exact q1 | ((intro j hj;unfold w4;(repeat' split);all_goals first | exact (Rc _ _ _ _ _).mpr rfl | omega))) (by simp only [LT,LX]) ?_
 (simp only [LZ,seval])
 repeat refine sd ?_
 refine Bq (Bl ok (Ch (Ch (Bu g) (Bu fun j=>g (4 + j))) (Ch (Bu fun j=>g (8 + j)) (Bu fun j=>g (12 + j)))) (Bu (w4 pc 1#64 xt 0#64))) ?_
 (simp only [LZ,seval])
 repeat refine sd ?_
 have zz:=Bb @DT.eq_1 Lbn;exact Bf hx [] ⟨rfl,rfl,rfl⟩
theorem ME (ok:OkM M) (okD:OkD M) (g:Nat→BitVec 64) (pc:BitVec 64) (hl:Bool) (xt:BitVec 64) :
 Ag M 59 [AM g pc hl xt] [] 0 (Q3 (dg (DT g pc hl xt)) [] 0):=by
 cases hl
 ·exact Gr ok okD g pc xt
 ·exact GX ok okD g pc xt
theorem Dj (ok:OkM M) (okD:OkD M) (r:Dg) (g:Nat→BitVec 64) (pc:BitVec 64) (hl:Bool) (xt:BitVec 64) :
 Ag M 62 [dg r,AM g pc hl xt] [] 0 (fun r' H' k'=>r'=dg (Ch r (DT g pc hl xt))∧H'=[]∧k'=0):=by
 refine Ab okD.k62 rfl fun x hx=>?_
 refine es 2000 ?_;(simp only [f62,c62,CR,seval])
 repeat refine sd ?_
 have zz:=@AM.eq_1;refine G0 (ME ok okD g pc hl xt) ?_
 (simp only [LZ,seval])
 repeat refine sd ?_
 refine Bq (Bl ok r (DT g pc hl xt)) ?_
 (simp only [LZ,seval])
 repeat refine sd ?_
 exact Ar.mkZ hx [] ⟨rfl,rfl,rfl⟩
def Ac7 (f g:Nat→BitVec 64) (pc:BitVec 64) (hl:Bool) (xt:BitVec 64):Dg:=Ch (Dp f 13 0) (DT g pc hl xt)
end Mv
