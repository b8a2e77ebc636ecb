/- A part. -/
import Derived.Test.YtpcgkiecjakknaaGreatDoorCZ
set_option linter.all false
set_option maxRecDepth 20000
set_option maxHeartbeats 4000000
namespace Mv
open Go
variable {M:Seat}
structure OkV (M:Seat):Prop extends OkS M where
 k70:Au M 70 f70=true
 k79:Au M 79 f79=true
 k214:Au M 214 f214=true
 k216:Au M 216 Ae3=true
 k220:Au M 220 Afl=true
 fn220:EC M 220
def CP (w:BitVec 64):Nat:=(w >>> 56).toNat
def pF (w:BitVec 64) (k:Nat):Nat:=(w >>> k &&& 15#64).toNat
def pN (w:BitVec 64):Int:=(w.setWidth 32).toInt
theorem Lw (w:BitVec 64):(w >>> 56).toInt=(CP w:Int):=by
 have h:(w >>> 56).toNat < 256:=by rw [BitVec.toNat_ushiftRight,Nat.shiftRight_eq_div_pow];have:=w.isLt;omega
 rw [BitVec.toInt_eq_toNat_cond,if_pos Aa];rfl
theorem A5 (w:BitVec 64) (k:Nat):pF w k < 16:=by
 rw [pF,BitVec.toNat_and]
 exact Nat.lt_of_le_of_lt Nat.and_le_right Am
theorem Ab7 (w:BitVec 64) (k:Nat):(w >>> k &&& 15#64).toInt=(pF w k:Int):=by
 have h:=A5 w k
 rw [BitVec.toInt_eq_toNat_cond,if_pos (by unfold pF at h;omega)];rfl
theorem RU (ok:OkV M) (f g:Nat→BitVec 64) (pc:BitVec 64) (hl:Bool) (xt e:BitVec 64) :
 Ag M 214 [.ptr 0 [],W e] [(0,A3 f g pc hl xt)] 1 (Q3 (.tup .fnil) [(0,A3 f g pc true e)] 1):=by
 refine Ab ok.k214 rfl fun x hx=>?_
 refine es 2000 ?_;(simp only [f214,Aig,Zt,seval])
 refine Rv hx [0] (.tup .fnil) ([(0,A3 f g pc true e)]) 1 ?_
 all_goals simp only [A3,LY,seval]
theorem Eu (ok:OkV M) (w:BitVec 64) (k:Nat):Ag M 220 [.int .i64 k,.imm (W w)] [] 0 (Q3 (.int .i64 (pF w k:Nat)) [] 0):=by
 refine Ab ok.k220 rfl fun x hx=>?_
 refine es 2000 ?_;(simp only [Afl,Age,LZ,seval])
 simp only [Ab7]
 repeat refine sd ?_
 refine Ar.mk hx [] [] (.int .i64 (pF w k:Nat)) [] 0 Am (by (simp only [CU,seval])) (by (try simp only [OJ,seval]) <;> exact q2) trivial ⟨rfl,rfl,rfl⟩
def BB (w:BitVec 64):V:=.tup (.fcons 0 (.int .i64 (CP w)) (.fcons 1 (.int .i64 (pF w 52)) (.fcons 2 (.int .i64 (pF w 48)) (.fcons 3 (.int .i64 (pF w 44)) (.fcons 4 (.int .i64 (pF w 40)) (.fcons 5 (.int .i64 (pN w)) (.fcons 6 (.bool true) .fnil)))))))
def Mx:=(Bb @LZ @BB.eq_1)
theorem AO (ok:OkV M) (w:BitVec 64) (h1:CP w≤35) (h2:w >>> 32 &&& 255#64=0#64):Ag M 79 [W w] [] 0 (Q3 (BB w) [] 0):=by
 refine Ab ok.k79 rfl fun x hx=>?_
 have e1:((35:Int) < (CP w:Int))=False:=eq_false Aa
 refine es 2000 ?_;(simp only [f79,c79,Lw,e1,h2,LZ,seval])
 have wn:IntKind.i64.wrap (w.setWidth 32).toInt=pN w:=by
  have h1:=BitVec.toInt_lt (x:=w.setWidth 32)
  have h2:=BitVec.le_toInt (x:=w.setWidth 32)
  rw [AY Aa];rfl
 refine oyK (ok.fn220) (Eu ok w 52) (by (try simp only [LY,seval]) <;> exact q1) (by simp only [LX]) ?_
 (simp only [LZ,seval])
 refine oyK (ok.fn220) (Eu ok w 48) (by (try simp only [LY,seval]) <;> exact q1) (by simp only [LX]) ?_
 (simp only [LZ,seval])
 refine oyK (ok.fn220) (Eu ok w 44) (by (try simp only [LY,seval]) <;> exact q1) (by simp only [LX]) ?_
 (simp only [LZ,seval])
 refine oyK (ok.fn220) (Eu ok w 40) (by (try simp only [LY,seval]) <;> exact q1) (by simp only [LX]) ?_
 (simp only [wn,LZ,seval])
 refine Ar.mk hx [] [] (BB w) [] 0 Am (by simp only [Laj,G5,LZ,seval]) ?_ trivial ⟨rfl,rfl,rfl⟩
 simp only [Mx,Dz,DC,FY,seval,LY]
theorem L8 (ok:OkV M) (w:BitVec 64) (h1:¬ (CP w≤35∧w >>> 32 &&& 255#64=0#64)):Ag M 79 [W w] [] 0 (Q3 (.tup (.fcons 0 (.int .i64 0) (.fcons 1 (.int .i64 0) (.fcons 2 (.int .i64 0) (.fcons 3 (.int .i64 0) (.fcons 4 (.int .i64 0) (.fcons 5 (.int .i64 0) (.fcons 6 (.bool false) .fnil)))))))) [] 0):=by
 refine Ab ok.k79 rfl fun x hx=>?_
 by_cases hp:CP w≤35
 ·have e1:((35:Int) < (CP w:Int))=False:=eq_false Aa
  have e2:(w >>> 32 &&& 255#64=0#64)=False:=eq_false (fun h=>h1 ⟨hp,h⟩)
  refine es 2000 ?_;(simp only [f79,c79,Lw,e1,e2,LZ,seval])
  refine Ar.mk hx [] [] (.tup (.fcons 0 (.int .i64 0) (.fcons 1 (.int .i64 0) (.fcons 2 (.int .i64 0) (.fcons 3 (.int .i64 0) (.fcons 4 (.int .i64 0) (.fcons 5 (.int .i64 0) (.fcons 6 (.bool false) .fnil)))))))) [] 0 Am (by (simp only [CU,seval])) (by (try simp only [OJ,seval]) <;> exact q2) trivial ⟨rfl,rfl,rfl⟩
 ·have e1:((35:Int) < (CP w:Int))=True:=eq_true Aa
  refine es 2000 ?_;(simp only [f79,c79,Lw,e1,LZ,seval])
  refine Ar.mk hx [] [] (.tup (.fcons 0 (.int .i64 0) (.fcons 1 (.int .i64 0) (.fcons 2 (.int .i64 0) (.fcons 3 (.int .i64 0) (.fcons 4 (.int .i64 0) (.fcons 5 (.int .i64 0) (.fcons 6 (.bool false) .fnil)))))))) [] 0 Am (by (simp only [CU,seval])) (by (try simp only [OJ,seval]) <;> exact q2) trivial ⟨rfl,rfl,rfl⟩
abbrev Bn:BitVec 64:=18446744073709551614#64
theorem Jl (ok:OkV M) (f g:Nat→BitVec 64) (pc xt:BitVec 64) (hpc:¬ 8192#64≤pc) (w:BitVec 64) (hw:f pc.toNat=w) (hop:CP w=28) (h2:w >>> 32 &&& 255#64=0#64) (wh:BitVec 64) (hwh:g (pF w 48) + BitVec.ofInt 64 (pN w)=wh) (hlt:¬ 8192#64≤wh) :
 Ag M 70 [.ptr 0 [],.ptr 1 []] [(0,A3 f g pc false xt)] 2 (Q3 .nili [(0,A3 (FI f wh.toNat (g (pF w 44))) g (pc + 1#64) false xt)] 2):=by
 refine Ab ok.k70 rfl fun x hx=>?_
 have hp:pc.toNat < 8192:=YU
 have a1:=A5 w 52
 have a2:=A5 w 48
 have a3:=A5 w 44
 have a4:=A5 w 40
 have hp2:wh.toNat < 8192:=by rw [BitVec.le_def] at hlt;simpa using hlt
 refine es 2000 ?_;(simp only [f70,c70,Zt,hpc,hw,seval])
 repeat refine sd ?_
 have zz:=@BB.eq_1;refine G0 (AO ok w Aa h2) ?_
 (simp only [Mx,hop,hlt,hwh,seval])
 repeat refine sd ?_
 refine Rv hx [0,1] (.nili) ([(0,A3 (FI f wh.toNat (g (pF w 44))) g (pc + 1#64) false xt)]) 2 ?_
 all_goals simp only [A3,Zh,LY,seval]
theorem Np (ok:OkV M) (f g:Nat→BitVec 64) (pc xt:BitVec 64) (hpc:¬ 8192#64≤pc) (w:BitVec 64) (hw:f pc.toNat=w) (hop:CP w=26) (h2:w >>> 32 &&& 255#64=0#64) :
 Ag M 70 [.ptr 0 [],.ptr 1 []] [(0,A3 f g pc false xt)] 2 (Q3 .nili [(0,A3 f (FI g (pF w 52) (BitVec.ofInt 64 (pN w))) (pc + 1#64) false xt)] 2):=by
 refine Ab ok.k70 rfl fun x hx=>?_
 have hp:pc.toNat < 8192:=YU
 have a1:=A5 w 52
 have a2:=A5 w 48
 have a3:=A5 w 44
 have a4:=A5 w 40
 refine es 2000 ?_;(simp only [f70,c70,Zt,hpc,hw,seval])
 repeat refine sd ?_
 have zz:=@BB.eq_1;refine G0 (AO ok w Aa h2) ?_
 (simp only [Mx,hop,seval])
 repeat refine sd ?_
 refine Rv hx [0,1] (.nili) ([(0,A3 f (FI g (pF w 52) (BitVec.ofInt 64 (pN w))) (pc + 1#64) false xt)]) 2 ?_
 all_goals simp only [A3,Zh,LY,seval]
def TB (op:Nat) (f g:Nat→BitVec 64) (pc xt:BitVec 64) (d a:Nat) (to:BitVec 64):V :=
 if (op=30∧¬ g a=0#64) ∨ (op=31∧g a=0#64) then A3 f g (pc + 1#64) false xt
 else if 8192#64≤(if op=33 then g a else to) then A3 f g pc true Bn
 else A3 f (if op=32 then FI g d (pc + 1#64) else g) (if op=33 then g a else to) false xt
theorem R5 {M:Seat} (ok:OkV M) (op:Nat) (ho:op=29 ∨ op=30 ∨ op=31 ∨ op=32 ∨ op=33) (f g:Nat→BitVec 64) (pc xt:BitVec 64) (d a:Nat) (hd:d < 16) (ha:a < 16) (to:BitVec 64) :
 Ag M 216 [.ptr 0 [],.int .i64 op,.int .i64 d,.int .i64 a,W to] [(0,A3 f g pc false xt)] 1 (Q3 (.tup .fnil) [(0,TB op f g pc xt d a to)] 1):=by
 refine Ab ok.k216 rfl fun x hx=>?_
 by_cases h0:g a=0#64 <;> by_cases h1:8192#64≤to <;> by_cases h2:8192#64≤g a <;> rcases ho with rfl | rfl | rfl | rfl | rfl
 all_goals simp only [TB,h0,h1,h2,seval,Lb9,true_and,false_and,or_false,not_false_eq_true,false_or]
 all_goals refine es 2000 ?_;(simp only [Ae3,Ah9,Zt,h0,h1,h2,Int.cast_ofNat_Int,seval])
 all_goals repeat refine sd ?_
 all_goals try ((have zz:=Bb @A3.eq_1 Zh;exact Bf hx [0] ⟨rfl,rfl,rfl⟩))
 all_goals
  have zz:=@A3.eq_1;refine SM [0] (RU ok f g pc false xt Bn) ?_
  (simp only [Zt,seval])
  have zz:=Bb @A3.eq_1 Zh;exact Bf hx [0] ⟨rfl,rfl,rfl⟩
theorem Kn {M:Seat} (ok:OkV M) (op:Nat) (ho:op=29 ∨ op=30 ∨ op=31 ∨ op=32 ∨ op=33) (f g:Nat→BitVec 64) (pc xt:BitVec 64) (hpc:¬ 8192#64≤pc) (w:BitVec 64) (hw:f pc.toNat=w) (hop:CP w=op) (h2:w >>> 32 &&& 255#64=0#64) :
 Ag M 70 [.ptr 0 [],.ptr 1 []] [(0,A3 f g pc false xt)] 2 (Q3 .nili [(0,TB op f g pc xt (pF w 52) (pF w 48) (BitVec.ofInt 64 (pN w)))] 2):=by
 refine Ab ok.k70 rfl fun x hx=>?_
 have hp:pc.toNat < 8192:=YU
 have a1:=A5 w 52
 have a2:=A5 w 48
 have d1:((op:Int)=0)=False:=eq_false Aa
 have d2:((op:Int) < 26)=False:=eq_false Aa
 have d3:((op:Int)=26)=False:=eq_false Aa
 have d4:((op:Int)=27)=False:=eq_false Aa
 have d5:((op:Int)=28)=False:=eq_false Aa
 have d6:((op:Int) < 34)=True:=eq_true Aa
 refine es 2000 ?_;(simp only [f70,c70,Zt,hpc,hw,seval])
 repeat refine sd ?_
 have zz:=@BB.eq_1;refine G0 (AO ok w Aa h2) ?_
 (simp only [Mx,hop,d1,d2,d3,d4,d5,d6,seval])
 repeat refine sd ?_
 have hS:∀ H m z,Az H m z (TB op f g pc xt (pF w 52) (pF w 48) (BitVec.ofInt 64 (pN w))) (TB op f g pc xt (pF w 52) (pF w 48) (BitVec.ofInt 64 (pN w))):=by
  intro H m z
  unfold TB
  repeat' split
  all_goals simp only [A3,LY,seval]
 have hN:AC (TB op f g pc xt (pF w 52) (pF w 48) (BitVec.ofInt 64 (pN w))):=by
  unfold TB
  repeat' split
  all_goals simp only [A3,AC,UL,implies_true,and_self]
 have hR:∀ m,(TB op f g pc xt (pF w 52) (pF w 48) (BitVec.ofInt 64 (pN w))).ren m=TB op f g pc xt (pF w 52) (pF w 48) (BitVec.ofInt 64 (pN w)):=by
  intro m
  unfold TB
  repeat' split
  all_goals rfl
 have zz:=Bb @A3.eq_1 hN;refine SM [0] (R5 ok op ho f g pc xt (pF w 52) (pF w 48) Aa Aa (BitVec.ofInt 64 (pN w))) ?_
 (simp only [hR,LZ,seval])
 have zz:=hS;exact Bf hx [0,1] ⟨rfl,rfl,rfl⟩
structure Mc where
 f:Nat→BitVec 64
 g:Nat→BitVec 64
 pc:BitVec 64
 hl:Bool
 xt:BitVec 64
def Mc.v (m:Mc):V:=A3 m.f m.g m.pc m.hl m.xt
def Mz (M:Seat) (m m':Mc):Prop:=Ag M 70 [.ptr 0 [],.ptr 1 []] [(0,m.v)] 2 (Q3 .nili [(0,m'.v)] 2)
structure OkI (M:Seat):Prop extends OkV M where
 k76:Au M 76 f76=true
def QJ (op:Int) (d a b c:Nat) (n:Int):BitVec 64 :=
 (((((BitVec.ofInt 64 op <<< 4 ||| BitVec.ofInt 64 d) <<< 4 ||| BitVec.ofInt 64 a) <<< 4 ||| BitVec.ofInt 64 b) <<< 4 ||| BitVec.ofInt 64 c) <<< 40) ||| BitVec.ofInt 64 (IntKind.u32.wrap n)
theorem Fg {M:Seat} (ok:OkI M) (op:Int) (d a b c:Nat) (n:Int) (hd:d < 16) (ha:a < 16) (hb:b < 16) (hc:c < 16) (h1:0≤op∧op≤35) (h2:-2147483648≤n∧n < 2147483648) :
 Ag M 76 [.int .i64 op,.int .i64 d,.int .i64 a,.int .i64 b,.int .i64 c,.int .i64 n] [] 0 (Q3 (Ah (W (QJ op d a b c n)) .nili) [] 0):=by
 refine Ab ok.k76 rfl fun x hx=>?_
 have l1:∀ q:Nat,q < 16→(((q:Int) < 0)=False):=fun q _=>eq_false Aa
 have l2:∀ q:Nat,q < 16→((15:Int) < (q:Int))=False:=fun q h=>eq_false Aa
 have w1:IntKind.i64.wrap 1=1:=rfl
 have w2:IntKind.i64.wrap 2=2:=rfl
 have w3:IntKind.i64.wrap 3=3:=rfl
 have w4:IntKind.i64.wrap 4=4:=rfl
 have e1:(op < 0)=False:=eq_false Aa
 have e2:((35:Int) < op)=False:=eq_false Aa
 have e3:IntKind.i64.wrap (IntKind.i32.wrap n)=n:=by
  have:IntKind.i32.wrap n=n:=by
   have e:IntKind.i32.wrap n=if n % 4294967296 ≥ 2147483648 then n % 4294967296 - 4294967296 else n % 4294967296:=Tk
   rw [e];split <;> omega
  rw [this,AY Aa]
 refine es 2000 ?_;(simp only [f76,c76,e1,e2,e3,LZ,seval])
 refine AW ?_
 refine es 2000 ?_
 (simp only [l1 d hd,l2 d hd,w1,w2,w3,w4,LZ,seval])
 repeat refine sd ?_
 refine AW ?_
 refine es 2000 ?_
 (simp only [l1 a ha,l2 a ha,w1,w2,w3,w4,LZ,seval])
 repeat refine sd ?_
 refine AW ?_
 refine es 2000 ?_
 (simp only [l1 b hb,l2 b hb,w1,w2,w3,w4,LZ,seval])
 repeat refine sd ?_
 refine AW ?_
 refine es 2000 ?_
 (simp only [l1 c hc,l2 c hc,w1,w2,w3,w4,LZ,seval])
 repeat refine sd ?_
 refine AW ?_
 refine es 2000 ?_
 (simp only [LZ,seval])
 have zz:=@QJ.eq_1;exact Bf hx [] ⟨rfl,rfl,rfl⟩
structure In where
 op:Int
 d:Int
 a:Int
 b:Int
 c:Int
 n:Int
 raw:BitVec 64
instance:Inhabited In:=⟨⟨0,0,0,0,0,0,0#64⟩⟩
variable {M:Seat}
def YH (n:Nat) (u:Nat→BitVec 64) (j:Nat):BitVec 64:=if j < n then u j else 0#64
theorem Oq (okA:OkM M) (n:Nat) (hn:n≤8192) (u:Nat→BitVec 64):Ag M 74 [.lst 1 n (fun j=>W (u j))] [] 0 (Q3 (Ah (.ptr 0 []) .nili) [(0,A3 (YH n u) (fun _=>0#64) 0#64 false 0#64)] 1):=by
 refine Ab okA.k74 rfl fun x hx=>?_
 have e0:((8192:Int) < (n:Int))=False:=eq_false Aa
 have m1:min n 8192=n:=Aa
 have m2:∀ i:Nat,(0≤i)=True:=fun i=>eq_true (Nat.zero_le i)
 refine es 2000 ?_;(simp only [f74,c74,e0,m1,m2,LZ,seval])
 have zz:=C4 @A3.eq_1 @YH.eq_1 @NM;exact Bf hx [96] ⟨rfl,rfl,rfl⟩
structure OkW (M:Seat):Prop extends OkI M where
 k215:Au M 215 f215=true
theorem Nl (ok:OkW M) (a b c:BitVec 64):Ag M 215 [.int .i64 1,W a,W b,W c] [] 0 (Q3 (Ah (W (a + b)) .nili) [] 0):=by
 refine Ab ok.k215 rfl fun x hx=>?_
 refine es 2000 ?_;(simp only [f215,Us,LZ,seval])
 exact Ar.mkZ hx [] ⟨rfl,rfl,rfl⟩
theorem Lr (ok:OkW M) (f g:Nat→BitVec 64) (pc xt:BitVec 64) (hpc:¬ 8192#64≤pc) (w:BitVec 64) (hw:f pc.toNat=w) (hop:CP w=1) (h2:w >>> 32 &&& 255#64=0#64) :
 Ag M 70 [.ptr 0 [],.ptr 1 []] [(0,A3 f g pc false xt)] 2 (Q3 .nili [(0,A3 f (FI g (pF w 52) (g (pF w 48) + g (pF w 44))) (pc + 1#64) false xt)] 2):=by
 refine Ab ok.k70 rfl fun x hx=>?_
 have hp:pc.toNat < 8192:=YU
 have a1:=A5 w 52
 have a2:=A5 w 48
 have a3:=A5 w 44
 have a4:=A5 w 40
 refine es 2000 ?_;(simp only [f70,c70,Zt,hpc,hw,seval])
 repeat refine sd ?_
 have zz:=@BB.eq_1;refine G0 (AO ok.toOkV w Aa h2) ?_
 (simp only [Mx,hop,seval])
 repeat refine sd ?_
 refine Bq (Nl ok (g (pF w 48)) (g (pF w 44)) (g (pF w 40))) ?_
 (simp only [AH,seval])
 repeat refine sd ?_
 have zz:=Bb @A3.eq_1 Zh;exact Bf hx [0,1] ⟨rfl,rfl,rfl⟩
def i32 (n:Int):Int:=if n % 4294967296 ≥ 2147483648 then n % 4294967296 - 4294967296 else n % 4294967296
variable {M:Seat}
structure OkO (M:Seat):Prop extends OkW M where
 k308:Au M 308 Afc=true
 k327:Au M 327 Ad1=true
def wrd (p:Nat→BitVec 8):Nat→BitVec 64
 | 0=>0
 | k + 1=>(wrd p k <<< (8#64).toNat) ||| (p k).setWidth 64
theorem Sl (ok:OkO M) (n:Nat) (hn:8≤n) (p:Nat→BitVec 8):Ag M 308 [.lst 1 n (fun j=>B (p j))] [] 0 (Q3 (W (wrd p 8)) [] 0):=by
 refine Ab ok.k308 rfl fun x hx=>?_
 refine es 2000 ?_;(simp only [Afc,Agy,EE,seval])
 repeat refine sd ?_
 refine An (σ:=Nat) (fun i=>i≤8) (fun i=>fr 20 [(7,.lst 1 8 fun j=>B (p j)),(8,.int .i64 8),(9,.int .i64 i),(3,W (wrd p i))]) (fun _=>[]) (fun _=>0) (fun i=>8 - i) 0 Aa ?_ ?_
 ·refine Ao.fr [] [] hx AQ Am ?_ ?_
  ·simp only [wrd,LY,seval]
  ·trivial
 ·intro i hi
  refine es 2000 ?_
  by_cases h8:i=8
  ·subst h8
   (simp only [LZ,seval])
   exact Ar.mkZ hx [] ⟨rfl,rfl,rfl⟩
  ·have d0:((i:Int) < 8)=True:=eq_true Aa
   have w0:IntKind.i64.wrap ((i:Int) + 1)=((i + 1:Nat):Int):=AZ
   (simp only [d0,w0,LZ,seval])
   repeat refine sd ?_
   refine ⟨i + 1,by omega,by omega,?_⟩
   refine Ao.fr [] [] hx AQ Am ?_ ?_
   ·simp only [wrd,LY,seval]
   ·trivial
def WK (w:BitVec 64) (j:Nat):BitVec 8:=(w >>> (56 - 8 * j)).setWidth 8
theorem KQ (hc:Au M 312 Uv=true) (w:BitVec 64) :
 Ag M 312 [.sl 0 [] 0 8 1,W w] [(0,.ar 1 8 fun _=>B 0#8)] 1 (Q3 (.tup .fnil) [(0,.ar 1 8 fun j=>B (if j < 8 then WK w j else 0#8))] 1):=by
 have h:=Iw hc 8 0 8 (fun _=>0) (w.toNat:Int) Aa Aa Aa
 have e:(fun j=>V.int .u8 (if 0≤j∧j < 0 + 8 then XZ (w.toNat:Int) (j - 0) else 0))=(fun j=>B (if j < 8 then WK w j else 0#8)):=by
  funext j
  by_cases hj:j < 8
  ·rw [if_pos hj,if_pos Aa];exact Tl w j
  ·rw [if_neg hj,if_neg Aa];rfl
 rw [e] at h
 exact h
theorem JV (okA:OkM M) (ok:OkO M) (w:BitVec 64) :
 Ag M 327 [.nils,W w] [] 0 (Q3 (.sl 0 [] 0 8 1) [(0,.ar 1 8 fun j=>B (WK w j))] 1):=by
 refine Ab ok.k327 rfl fun x hx=>?_
 refine es 2000 ?_;(simp only [Ad1,Aam,EE,seval])
 repeat refine sd ?_
 refine HY [16] (KQ okA.k312 w) ?_
 (simp only [LZ,seval])
 repeat refine sd ?_
 refine Rv hx [112] (.sl 0 [] 0 8 1) ([(0,.ar 1 8 fun j=>B (WK w j))]) 1 ?_
 simp only [LY,seval]
 intro i hi
 rw [if_pos hi]
theorem Jw (okA:OkM M) (ok:OkO M) (n:Nat) (hn:n≤64) (p:Nat→BitVec 8) (w:BitVec 64) :
 Ag M 327 [.sl 0 [] 0 n 1,W w] [(0,.ar 1 n (fun j=>B (p j)))] 1 (Q3 (.sl 1 [] 0 (n + 8) 1) [(1,.ar 1 (n + 8) fun j=>B (if j < n then p j else WK w (j - n)))] 2):=by
 refine Ab ok.k327 rfl fun x hx=>?_
 refine es 2000 ?_;(simp only [Ad1,Aam,EE,seval])
 repeat refine sd ?_
 refine HY [17] (KQ okA.k312 w) ?_
 (simp only [LZ,seval])
 repeat refine sd ?_
 refine Rv hx [0,113] (.sl 1 [] 0 (n + 8) 1) ([(1,.ar 1 (n + 8) fun j=>B (if j < n then p j else WK w (j - n)))]) 2 ?_
 simp only [LY,seval]
 intro i hi
 by_cases h:i < n
 ·rw [if_pos h,if_pos h];simp only [B,LY,seval]
 ·rw [if_neg h,if_neg h,if_pos Aa];simp only [B,LY,seval]
def JB (f:Nat→BitVec 64) (j:Nat):BitVec 8:=WK (f (j / 8)) (j % 8)
def wi (a n:BitVec 64):Bool:=decide (a≤8192#64) && decide (n≤8192#64 - a)
variable {M:Seat}
def Gh (H H':Hp):Prop:=∀ i,Af H' i=Af H i∧hget H' i=hget H i
theorem GZ {i:Nat}:∀ {H:Hp},Af H i=false→hget H i = .junk
 | [],_=>rfl
 | (j, v) :: r, h => by
   simp only [Af,Bool.or_eq_false_iff,beq_eq_false_iff_ne,ne_eq] at h
   simp only [hget,if_neg h.1]
   exact GZ h.2
theorem Gh.symm {H H':Hp} (h:Gh H H'):Gh H' H:=fun i=>⟨(h i).1.symm,(h i).2.symm⟩
theorem Gh.swap {A B:Hp} (h:∀ i,Af A i=true→Af B i=false):Gh (A ++ B) (B ++ A):=fun i=>by
 rw [Ba,Ba,Bool.or_comm]
 refine ⟨rfl,?_⟩
 cases ha:Af A i with
 | true =>
   have hb:=h i ha
   rw [AN hb,Cn ha]
 | false =>
   rw [AN (H:=A) ha]
   cases hb:Af B i with
   | true=>rw [Cn hb]
   | false=>rw [AN hb,GZ ha,GZ hb]
theorem Inv.same {c:Ctx} {e:Env} {H H':Hp} (hI:Inv M c e H) (h:Gh H H'):Inv M c e H' where
 ev:=hI.ev
 blk id hid:=by
  rw [(h id).1] at hid
  rw [(h id).2];exact hI.blk id hid
 inj i j hi hj:=hI.inj i j ((h i).1 ▸ hi) ((h j).1 ▸ hj)
 imo:=hI.imo
 imb:=hI.imb
 rb:=hI.rb
 keep:=hI.keep
 low:=hI.low
 gs:=hI.gs
 φ:=hI.φ
 τ:=hI.τ
theorem AR.same {f:Nat} {us:List V} {H H2:Hp} {n:Nat} {K:V→Hp→Prop} (h:AR M f us H n K) (hs:Gh H2 H):AR M f us H2 n K :=
 fun c e vs hI hD hk ha=>h c e vs (hI.same hs) hD hk ha
theorem AR.out {f:Nat} {us:List V} {H:Hp} {n:Nat} {K K':V→Hp→Prop} (h:AR M f us H n K) (hK:∀ v H1,K v H1→∃ H2,Gh H1 H2∧K' v H2):AR M f us H n K':=by
 intro c e vs hI hD hk ha
 refine (h c e vs hI hD hk ha).mono ?_
 rintro en w' ⟨x,v,e',H',h1,h2,h3,h4,h5,h6,h7⟩
 obtain ⟨H2,k1,k2⟩:=hK v H' h7
 exact ⟨x,v,e',H2,h1,h2,h3,h4.same k1,h5,h6,k2⟩
def ow (b n:Nat) (own:Hp):Bool:=own.all fun p=>decide (17≤p.1) && decide (p.1 ≠ b) && decide (p.1 < n)
def owk (n:Nat) (own:Hp):Bool:=own.all fun p=>decide (17≤p.1) && decide (p.1 < n)
def XY (b n:Nat) (own:Hp):Prop:=∀ i,Af own i=true→17≤i∧i ≠ b∧i < n
theorem Ek {b n:Nat}:∀ {own:Hp},ow b n own=true→XY b n own
 | [],_,_,h=>by cases h
 | (j, v) :: r, ho, i, h => by
   simp only [ow,List.all_cons,Bool.and_eq_true,decide_eq_true_eq] at ho
   simp only [Pi,beq_iff_eq] at h
   rcases h with rfl | h
   ·exact ⟨ho.1.1.1,ho.1.1.2,ho.1.2⟩
   ·exact Ek (own:=r) ho.2 i h
theorem Gj {b n:Nat} (hb:b < 17):∀ {own:Hp},owk n own=true→XY b n own
 | [],_,_,h=>by cases h
 | (j, v) :: r, ho, i, h => by
   simp only [owk,List.all_cons,Bool.and_eq_true,decide_eq_true_eq] at ho
   simp only [Pi,beq_iff_eq] at h
   rcases h with rfl | h
   ·exact ⟨ho.1.1,by omega,ho.1.2⟩
   ·exact Gj hb (own:=r) ho.2 i h
theorem Fh {i:Nat}:∀ {H:Hp},Af H i=false→BS H i=H
 | [],_=>rfl
 | (j, v) :: r, h => by
   simp only [Af,Bool.or_eq_false_iff,beq_eq_false_iff_ne,ne_eq] at h
   simp only [BS,if_neg h.1]
   rw [Fh h.2]
theorem NN {lo hi:Nat}:∀ {H:Hp},(∀ i,Af H i=true→i < lo ∨ hi≤i)→CX lo hi H
 | [],_=>trivial
 | (j,v) :: r,h=>⟨h j (by simp [Af]),NN (H:=r) fun i hi=>h i (by simp [Af,hi])⟩
def B7:Option Int→V
 | none=>.nili
 | some a=>.ifc 74 (.int .i64 a)
structure Mm (σ:Type) where
 rd:σ→BitVec 64→BitVec 64 × Option Int × σ
 wr:σ→BitVec 64→BitVec 64→Option Int × σ
 pi:σ→Dg→Pr × Option Int × σ
def Ja (us us':List V):Prop:=∀ (H:Hp) (m z:List Nat),m[0]?=some 0→Bd H m z us us'
def JN (v:V):Prop:=∀ m:List Nat,v.ren m=v
structure MemI (M:Seat) where
 σ:Type
 t:Nat
 ht:t=422 ∨ t=426
 k0:Nat
 kk:Nat
 hk:1≤k0∧k0≤16∧k0≤kk∧kk≤k0 + 1
 E:σ→Nat→Hp
 E0:σ→Hp
 mm:Mm σ
 Z:σ→Prop
 len:σ→Nat
 lr:∀ s a,len (mm.rd s a).2.2≤len s + 1
 lw:∀ s a v,len (mm.wr s a v).2≤len s + 1
 lp:∀ s h,len (mm.pi s h).2.2≤len s
 lz:∀ s,Z s→len s=0
 hids:∀ s b i,Af (E s b) i=true→i < k0 ∨ i=b
 hids0:∀ s i,Af (E0 s) i=true→i < k0
 sim0:∀ (s:σ) (H:Hp) (m z:List Nat),(∀ i,i < k0→m[i]?=some i)→(∀ i,Af (E0 s) i=true→Af H i=true∧hget H i=hget (E0 s) i)→Br H m z (E0 s)
 simE:∀ (s:σ) (b b':Nat) (H:Hp) (m z:List Nat),k0≤b→(∀ i,i < k0→m[i]?=some i)→m[b']?=some b→(∀ i,Af (E s b) i=true→Af H i=true∧hget H i=hget (E s b) i)→Br H m z (E s b')
 c0:∀ {f:Nat} {us us':List V} {v:V} {s s':σ} (own:Hp) {n:Nat} {K:V→Hp→Prop},Ag M f us (E0 s) k0 (Q3 v (E s' k0) (k0 + 1))→Ja us us'→JN v→XY 0 n own→K v (own ++ E s' n)→AR M f us' (own ++ E0 s) n K
 ck:∀ {f:Nat} {us us':List V} {v:V} {s s':σ} {b:Nat} (own:Hp) {n:Nat} {K:V→Hp→Prop},Ag M f us (E s k0) kk (Q3 v (E s' kk) (kk + 1))→Ja us us'→JN v→k0≤b→XY b n own→K v (own ++ E s' n)→AR M f us' (own ++ E s b) n K
 cu:∀ {f:Nat} {us us':List V} {v:V} {s s':σ} {b:Nat} (own:Hp) {n:Nat} {K:V→Hp→Prop},Ag M f us (E s k0) kk (Q3 v (E s' k0) (kk + 1))→Ja us us'→JN v→k0≤b→XY b n own→K v (own ++ E s' b)→AR M f us' (own ++ E s b) n K
 fr:Nat
 fw:Nat
 fp:Nat
 mr:AG M t 0 fr
 mw:AG M t 1 fw
 mp:AG M t 2 fp
 rr0:∀ (s:σ) (a:BitVec 64),Z s→¬ 8192#64≤a→Ag M fr [.ptr 0 [],W a] (E0 s) k0 (Q3 (Ah (W (mm.rd s a).1) (B7 (mm.rd s a).2.1)) (E (mm.rd s a).2.2 k0) (k0 + 1))
 rr:∀ (s:σ) (a:BitVec 64),len s≤100→¬ 8192#64≤a→Ag M fr [.ptr 0 [],W a] (E s k0) kk (Q3 (Ah (W (mm.rd s a).1) (B7 (mm.rd s a).2.1)) (E (mm.rd s a).2.2 kk) (kk + 1))
 rw:∀ (s:σ) (a v:BitVec 64),len s≤100→¬ 8192#64≤a→Ag M fw [.ptr 0 [],W a,W v] (E s k0) kk (Q3 (B7 (mm.wr s a v).1) (E (mm.wr s a v).2 kk) (kk + 1))
 rp:∀ (s:σ) (h:Dg),Ag M fp [.ptr 0 [],dg h] (E s k0) kk (Q3 (Ah (Bk (mm.pi s h).1) (B7 (mm.pi s h).2.1)) (E (mm.pi s h).2.2 k0) (kk + 1))
theorem EK (i:Nat):∀ (A B:Hp),BS (A ++ B) i=BS A i ++ BS B i
 | [],_=>rfl
 | (j, v) :: r, B => by
   simp only [List.cons_append,BS]
   split
   ·exact EK i r B
   ·rw [EK i r B];rfl
theorem K8 {own E:Hp}:∀ {m0:List Nat},(∀ i ∈ m0,Af own i=false)→A6 (own ++ E) m0=own ++ A6 E m0
 | [],_=>rfl
 | i :: r, h => by
   rw [A6,K8 (m0:=r) (fun j hj=>h j (by simp [hj])),EK,Fh (h i B5),A6]
theorem MQ {own E:Hp} {i:Nat}:∀ {m0:List Nat},(∀ p ∈ m0,Af own p=false)→GJ m0 (own ++ E) i=GJ m0 E i
 | [],_=>rfl
 | p :: r, h => by
   have hp:=h p B5
   have ih:=MQ (own:=own) (E:=E) (i:=i) (m0:=r) (fun q hq=>h q (by simp [hq]))
   unfold GJ at ih ⊢
   rw [List.any_cons,List.any_cons,ih,Ba,hp,Bool.false_or,AN hp]
theorem Iy {own E:Hp} (hd:∀ i,Af E i=true→Af own i=false) (i:Nat) (h:Af E i=true):Af (own ++ E) i=true∧hget (own ++ E) i=hget E i:=by
 have hn:=hd i h
 rw [Ba,hn,AN hn,h]
 exact ⟨rfl,rfl⟩
theorem DM {f:Nat} {us us':List V} {v:V} {own E E' H0 Hn:Hp} {n k kn:Nat} {K:V→Hp→Prop} (m m0:List Nat) (hr:Ag M f us H0 k (Q3 v Hn kn))
 (h0:∀ id i,Af H0 id=true→m[id]?=some i→i ∈ m0) (h0m:∀ i ∈ m0,i ∈ m) (hm:m.Nodup) (hk:m.length=k∧kn≤k + 16) (hall0:∀ i ∈ m0,Af E i=true∧Af own i=false) (hall:∀ i ∈ m,Af E i=true ∨ GJ m0 E i=true) (hus:Bd (own ++ E) m [] us us') (hH:Br (own ++ E) m [] H0)
 (hren:AV (Bh m n kn) Hn=E') (hrst:A6 E m0=[]) (hv:JN v) (hd:∀ i,Af E' i=true→Af own i=false) (hK:K v (own ++ E')):AR M f us' (own ++ E) n K:=by
 have key:AR M f us' (own ++ E) n (fun v' H'=>v'=v∧H'=E' ++ own):=by
  refine FV hr False m m0 [] h0 h0m hm B5 hk.1 (fun i hi=>by rw [Ba,(hall0 i hi).1,Bool.or_true]) (fun i hi=>?_) hus hH ?_
  ·rcases hall i hi with h | h
   ·left;rw [Ba,h,Bool.or_true]
   ·exact .inr (.inr ((MQ (fun p hp=>(hall0 p hp).2)).trans h))
  ·rintro v' H' k' ⟨rfl,rfl,rfl⟩
   refine ⟨⟨hk.2,fun h=>h.elim⟩,hv _,?_⟩
   rw [hren,if_neg (fun h:False=>h),List.append_nil,K8 (fun i hi=>(hall0 i hi).2),hrst,List.append_nil]
 refine AR.out key ?_
 rintro v' H' ⟨rfl,rfl⟩
 exact ⟨own ++ E',Gh.swap (fun i hi=>hd i hi),hK⟩
theorem HZ (e:Option Int) (m:List Nat):(B7 e).ren m=B7 e:=by cases e <;> rfl
theorem UW (e:Option Int) (H:Hp) (m z:List Nat):Az H m z (B7 e) (B7 e):=by cases e <;> simp [B7,Az]
namespace MemI
variable {M:Seat} (I:MemI M)
theorem noE {s:I.σ} {b i:Nat} (h:17≤i) (hb:i ≠ b):Af (I.E s b) i=false:=by
 cases hh:Af (I.E s b) i with
 | false=>rfl
 | true => rcases I.hids s b i hh with h' | h'
           ·have:=I.hk;omega
           ·exact absurd h' hb
theorem no0 {s:I.σ} {i:Nat} (h:17≤i):Af (I.E0 s) i=false:=by
 cases hh:Af (I.E0 s) i with
 | false=>rfl
 | true=>have:=I.hids0 s i hh;have:=I.hk;omega
theorem hdelE (s:I.σ) (b i:Nat) (h:17≤i) (hb:¬ i=b):BS (I.E s b) i=I.E s b:=Fh (I.noE h hb)
theorem hdel0 (s:I.σ) (i:Nat) (h:17≤i):BS (I.E0 s) i=I.E0 s:=Fh (I.no0 h)
theorem idsE (s:I.σ) (b lo hi:Nat) (h:17≤lo) (hb:b < lo ∨ hi≤b):CX lo hi (I.E s b)=True:=eq_true (NN fun i hi'=>by
 rcases I.hids s b i hi' with h' | h'
 ·have:=I.hk;exact .inl Aa
 ·subst h';exact hb)
theorem nil_in (v:Prop):(I.t ∈ [422,426]∧v)=v:=by
 rcases I.ht with h | h <;> rw [h] <;> simp
theorem tail {s:I.σ} {b n:Nat} {own:Hp} (ho:XY b n own) (i:Nat) (h:Af (I.E s b) i=true):Af (own ++ I.E s b) i=true∧hget (own ++ I.E s b) i=hget (I.E s b) i:=by
 have hn:Af own i=false:=by
  cases hh:Af own i with
  | false=>rfl
  | true =>
    obtain ⟨h1,h2,_⟩:=ho i hh
    rw [I.noE h1 h2] at h;cases h
 rw [Ba,hn,AN hn,h]
 exact ⟨rfl,rfl⟩
theorem tail0 {s:I.σ} {b n:Nat} {own:Hp} (ho:XY b n own) (i:Nat) (h:Af (I.E0 s) i=true):Af (own ++ I.E0 s) i=true∧hget (own ++ I.E0 s) i=hget (I.E0 s) i:=by
 have hn:Af own i=false:=by
  cases hh:Af own i with
  | false=>rfl
  | true =>
    obtain ⟨h1,_⟩:=ho i hh
    rw [I.no0 h1] at h;cases h
 rw [Ba,hn,AN hn,h]
 exact ⟨rfl,rfl⟩
theorem flatR (s:I.σ) (a:BitVec 64):JN (Ah (W (I.mm.rd s a).1) (B7 (I.mm.rd s a).2.1)):=fun m=>by simp only [Ah,V.ren,W,HZ]
theorem flatP (s:I.σ) (h:Dg):JN (Ah (Bk (I.mm.pi s h).1) (B7 (I.mm.pi s h).2.1)):=fun m=>by simp only [Ah,V.ren,Bk,B,HZ]
theorem Tn (a:BitVec 64):Ja [.ptr 0 [],W a] [.ptr 0 [],W a]:=fun H m z h=>by simp only [Bd,Bi,Az,W,h,and_self]
theorem Afb (a b:BitVec 64):Ja [.ptr 0 [],W a,W b] [.ptr 0 [],W a,W b]:=fun H m z h=>by simp only [Bd,Bi,Az,W,h,and_self]
theorem Agi {d:Dg} {v:V} (hv:∀ H m z,Bi H m z (dg d) v):Ja [.ptr 0 [],dg d] [.ptr 0 [],v]:=fun H m z h=>⟨by simp only [Bi,Az,h,and_self],hv H m z,trivial⟩
theorem dynR0 {n:Nat} {K:V→Hp→Prop} (own:Hp) {s:I.σ} (hz:I.Z s) {a:BitVec 64} {u w:V} (h:¬ 8192#64≤a) (ho:owk n own=true) (hK:K (Ah (W (I.mm.rd s a).1) (B7 (I.mm.rd s a).2.1)) (own ++ I.E (I.mm.rd s a).2.2 n)):Eo M (.fcons 0 u w) [.ifc I.t (.ptr 0 []),W a] (own ++ I.E0 s) n K :=
 ⟨rfl,I.fr,I.mr,I.c0 own (I.rr0 s a hz h) (Tn a) (I.flatR s a) (Gj Aa ho) hK⟩
theorem dynR {n:Nat} {K:V→Hp→Prop} (own:Hp) {s:I.σ} {b:Nat} {a:BitVec 64} {u w:V} (hL:I.len s≤100) (h:¬ 8192#64≤a) (hb:17≤b) (ho:ow b n own=true) (hK:K (Ah (W (I.mm.rd s a).1) (B7 (I.mm.rd s a).2.1)) (own ++ I.E (I.mm.rd s a).2.2 n)):Eo M (.fcons 0 u w) [.ifc I.t (.ptr 0 []),W a] (own ++ I.E s b) n K :=
 ⟨rfl,I.fr,I.mr,I.ck own (I.rr s a hL h) (Tn a) (I.flatR s a) F9 (Ek ho) hK⟩
theorem dynRk {n:Nat} {K:V→Hp→Prop} (own:Hp) {s:I.σ} {a:BitVec 64} {u w:V} (hL:I.len s≤100) (h:¬ 8192#64≤a) (ho:owk n own=true) (hK:K (Ah (W (I.mm.rd s a).1) (B7 (I.mm.rd s a).2.1)) (own ++ I.E (I.mm.rd s a).2.2 n)):Eo M (.fcons 0 u w) [.ifc I.t (.ptr 0 []),W a] (own ++ I.E s I.k0) n K :=
 ⟨rfl,I.fr,I.mr,I.ck own (I.rr s a hL h) (Tn a) (I.flatR s a) (Nat.le_refl _) (Gj F9 ho) hK⟩
theorem dynW {n:Nat} {K:V→Hp→Prop} (own:Hp) {s:I.σ} {b:Nat} {a v:BitVec 64} {u w:V} (hL:I.len s≤100) (h:¬ 8192#64≤a) (hb:17≤b) (ho:ow b n own=true) (hK:K (B7 (I.mm.wr s a v).1) (own ++ I.E (I.mm.wr s a v).2 n)):Eo M (.fcons 1 u w) [.ifc I.t (.ptr 0 []),W a,W v] (own ++ I.E s b) n K :=
 ⟨rfl,I.fw,I.mw,I.ck own (I.rw s a v hL h) (Afb a v) (fun m=>HZ _ m) F9 (Ek ho) hK⟩
theorem dynP {n:Nat} {K:V→Hp→Prop} (own:Hp) {s:I.σ} {b:Nat} {h:Dg} {u w v:V} (hv:∀ H m z,Bi H m z (dg h) v) (hb:17≤b) (ho:ow b n own=true) (hK:K (Ah (Bk (I.mm.pi s h).1) (B7 (I.mm.pi s h).2.1)) (own ++ I.E (I.mm.pi s h).2.2 b)):Eo M (.fcons 2 u w) [.ifc I.t (.ptr 0 []),v] (own ++ I.E s b) n K :=
 ⟨rfl,I.fp,I.mp,I.cu own (I.rp s h) (Agi hv) (I.flatP s h) F9 (Ek ho) hK⟩
theorem opyR {n:Nat} {C:V→Hp→Prop} (own:Hp) {s:I.σ} {b:Nat} {a:BitVec 64} {u w:V} (hL:I.len s≤100) (h:¬ 8192#64≤a) (hb:17≤b) (ho:ow b n own=true) (hC:C (Ah (W (I.mm.rd s a).1) (B7 (I.mm.rd s a).2.1)) (own ++ I.E (I.mm.rd s a).2.2 n)):SI M (.fcons 0 u w) [.ifc I.t (.ptr 0 []),W a] (own ++ I.E s b) n C :=
 ⟨_,_,I.dynR own hL h hb ho ⟨rfl,rfl⟩,hC⟩
theorem opyW {n:Nat} {C:V→Hp→Prop} (own:Hp) {s:I.σ} {b:Nat} {a v:BitVec 64} {u w:V} (hL:I.len s≤100) (h:¬ 8192#64≤a) (hb:17≤b) (ho:ow b n own=true) (hC:C (B7 (I.mm.wr s a v).1) (own ++ I.E (I.mm.wr s a v).2 n)):SI M (.fcons 1 u w) [.ifc I.t (.ptr 0 []),W a,W v] (own ++ I.E s b) n C :=
 ⟨_,_,I.dynW own hL h hb ho ⟨rfl,rfl⟩,hC⟩
theorem opyP {n:Nat} {C:V→Hp→Prop} (own:Hp) {s:I.σ} {b:Nat} {h:Dg} {u w v:V} (hv:∀ H m z,Bi H m z (dg h) v) (hb:17≤b) (ho:ow b n own=true) (hC:C (Ah (Bk (I.mm.pi s h).1) (B7 (I.mm.pi s h).2.1)) (own ++ I.E (I.mm.pi s h).2.2 b)):SI M (.fcons 2 u w) [.ifc I.t (.ptr 0 []),v] (own ++ I.E s b) n C :=
 ⟨_,_,I.dynP own hv hb ho ⟨rfl,rfl⟩,hC⟩
theorem rng {q b j:Nat} (h:j < q):(List.range q ++ [b])[j]?=some j:=by
 rw [List.getElem?_append_left Ke];simp [h]
theorem Ai8 {q b:Nat}:(List.range q ++ [b])[q]?=some b:=by
 rw [List.getElem?_append_right B5];simp
theorem Vm {q b:Nat} (h:q≤b):(decide (List.range q ++ [b]).Nodup && ([]:List Nat).all (fun i=>!(List.range q ++ [b]).contains i) && decide ((List.range q ++ [b]).length≤q + 1) && decide (q≤q + 1) && (List.range q).all (fun j=>(List.range q ++ [b])[j]? == some j))=true:=by
 simp only [Lc6,decide_eq_true_eq,List.all_nil,beq_iff_eq]
 refine ⟨⟨⟨⟨?_,trivial⟩,by simp⟩,by omega⟩,fun j hj=>rng (List.mem_range.1 hj)⟩
 rw [List.nodup_append]
 refine ⟨List.nodup_range,by simp,?_⟩
 intro a ha c hc
 simp only [List.mem_range,List.mem_singleton] at ha hc
 omega
theorem ret {x:Ctx} {rs:List RVr} {Q:V→Hp→Nat→Prop} {A:List V} (own:Hp) {s:I.σ} {b N q:Nat} {v:V} (hq:I.k0≤q∧q≤17) (hx:x.k=q) (hb:17≤b) (ho:(own.all fun p=>decide (17≤p.1) && decide (p.1 ≠ b))=true)
 (h4:Q v (I.E s q) (q + 1)) (h1:(Dz A (own ++ I.E s b) rs).1) (h2:Bi (own ++ I.E s b) (List.range q ++ [b]) [] v (Dz A (own ++ I.E s b) rs).2):Ar M x rs Q A (own ++ I.E s b) N:=by
 refine Ar.mk hx (List.range q ++ [b]) [] v (I.E s q) (q + 1) (Vm Aa) h1 h2 (I.simE s b q _ _ _ Aa (fun i hi=>rng Aa) Ai8 (I.tail (n:=own.foldl (fun a p=>max a (p.1 + 1)) 0) fun i hi=>?_)) h4
 have:∀ (own:Hp) (a:Nat),(own.all fun p=>decide (17≤p.1) && decide (p.1 ≠ b))=true→(Af own i=true→17≤i∧i ≠ b∧i < own.foldl (fun a p=>max a (p.1 + 1)) a)∧a≤own.foldl (fun a p=>max a (p.1 + 1)) a:=by
  intro own
  induction own with
  | nil=>intro a _;exact ⟨(fun h=>by cases h),Nat.le_refl _⟩
  | cons p r ih =>
    intro a ho
    simp only [List.all_cons,Bool.and_eq_true,decide_eq_true_eq] at ho
    obtain ⟨k1,k2⟩:=ih (max a (p.1 + 1)) ho.2
    simp only [List.foldl_cons]
    refine ⟨fun h=>?_,by omega⟩
    have h:(p.1 == i || Af r i)=true:=h
    simp only [Bool.or_eq_true,beq_iff_eq] at h
    rcases h with h | h
    ·subst h;exact ⟨ho.1.1,ho.1.2,by omega⟩
    ·exact k1 h
 exact (this own 0 ho).1 hi
theorem ret0 {x:Ctx} {rs:List RVr} {Q:V→Hp→Nat→Prop} {A:List V} (own:Hp) {s:I.σ} {N:Nat} {v:V} (hx:x.k=I.k0) {n:Nat} (ho:owk n own=true)
 (h4:Q v (I.E0 s) (I.k0 + 1)) (h1:(Dz A (own ++ I.E0 s) rs).1) (h2:Bi (own ++ I.E0 s) (List.range I.k0 ++ [n]) [] v (Dz A (own ++ I.E0 s) rs).2) (hn:17≤n):Ar M x rs Q A (own ++ I.E0 s) N:=by
 have:=I.hk
 exact Ar.mk hx (List.range I.k0 ++ [n]) [] v (I.E0 s) (I.k0 + 1) (Vm Aa) h1 h2 (I.sim0 s _ _ _ (fun i hi=>rng hi) (I.tail0 (Gj (b:=0) Aa ho))) h4
theorem retU {x:Ctx} {rs:List RVr} {Q:V→Hp→Nat→Prop} {A:List V} (own:Hp) {s:I.σ} {N n:Nat} {v:V} (hx:x.k=I.kk) (ho:owk n own=true)
 (h4:Q v (I.E s I.k0) (I.kk + 1)) (h1:(Dz A (own ++ I.E s I.k0) rs).1) (h2:Bi (own ++ I.E s I.k0) (List.range (I.k0 + 1)) [] v (Dz A (own ++ I.E s I.k0) rs).2):Ar M x rs Q A (own ++ I.E s I.k0) N:=by
 have:=I.hk
 refine Ar.mk hx (List.range (I.k0 + 1)) [] v (I.E s I.k0) (I.kk + 1) ?_ h1 h2 (I.simE s I.k0 I.k0 _ _ _ (Nat.le_refl _) (fun i hi=>?_) ?_ (I.tail (Gj Aa ho))) h4
 ·simp only [Lc6,decide_eq_true_eq,List.all_nil,beq_iff_eq]
  exact ⟨⟨⟨⟨List.nodup_range,trivial⟩,by simp;omega⟩,by omega⟩,fun j hj=>by rw [List.getElem?_range (by have:=List.mem_range.1 hj;omega)]⟩
 ·rw [List.getElem?_range Aa]
 ·rw [List.getElem?_range Aa]
theorem sm (own:Hp) {s:I.σ} {b b' n:Nat} {m z:List Nat} (h1:(List.range 17).all (fun j=>m[j]? == some j)=true) (h2:m[b']?=some b) (h3:ow b n own=true) (hb:17≤b:=by decide):Br (own ++ I.E s b) m z (I.E s b') :=
 I.simE s b b' _ m z F9 (fun i hi=>by have:=List.all_eq_true.1 h1 i (List.mem_range.2 F9);simpa using this) h2 (I.tail (Ek h3))
end MemI
theorem Ao.frK {c:Ctx} {A:List V} {H:Hp} {N n:Nat} (m:List Nat) (hck:c.k≤17) {l:List (Nat × V)} {H':Hp} {N':Nat} (hlen:A.length=n)
 (hm:(decide m.Nodup && decide (m.length≤N') && decide (17≤N') && (List.range 17).all (fun j=>m[j]? == some j))=true) (hA:Kj H m [] A l) (hH:Br H m [] H'):Ao M c A H N (Mv.fr n l) H' N':=by
 simp only [Bool.and_eq_true,decide_eq_true_eq] at hm
 refine Ao.sim m [] hm.1.1.1 B5 hm.1.1.2 Aa (fun j hj=>?_) (Mg (by rw [BL,hlen]) (fun t=>?_)) hH
 ·have:=List.all_eq_true.1 hm.2 j (List.mem_range.2 Aa);simpa using this
 ·by_cases ht:t < n
  ·exact Js hA t ht
  ·have:(Mv.fr n l).getD t .junk = .junk:=by rw [List.getD_eq_getElem?_getD,List.getElem?_eq_none (by rw [BL];omega)];rfl
   rw [this];trivial
theorem Bm.up {x:Ctx} {Q:List V→Hp→Nat→Prop} {k:List It} {N N':Nat} {A:List V} {H:Hp} (hN:N≤N') (h:Bm M x Q k N' A H):Bm M x Q k N A H:=by
 rintro a w kr ⟨e,h1,h2,h3,h4,h5,h6⟩ hm
 exact h a w kr ⟨e,h1,h2,h3,fun id hid=>h4 id (Nat.le_trans hN hid),Nat.le_trans h5 hN,h6⟩ hm
end Mv
