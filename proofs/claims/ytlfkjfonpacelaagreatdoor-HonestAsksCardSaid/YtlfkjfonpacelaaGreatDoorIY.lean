/- A part. -/
import Derived.Test.YtlfkjfonpacelaaGreatDoorIX
set_option linter.all false
set_option maxRecDepth 20000
set_option maxHeartbeats 4000000
namespace Mv
open Go
variable {M:Seat}
structure OkV (M:Seat):Prop extends OkS M where
 k70:Ar M 70 Se=true
 k71:Ar M 71 f71=true
 k79:Ar M 79 f79=true
 k214:Ar M 214 As9=true
 k216:Ar M 216 Asj=true
 k220:Ar M 220 Aq9=true
 fn220:Gf M 220
def Cj (w:BitVec 64):Nat:=(w >>> 56).toNat
def pF (w:BitVec 64) (k:Nat):Nat:=(w >>> k &&& 15#64).toNat
def pN (w:BitVec 64):Int:=(w.setWidth 32).toInt
theorem Og (w:BitVec 64):(w >>> 56).toInt=(Cj w:Int):=by
 have h:(w >>> 56).toNat < 256:=by rw [BitVec.toNat_ushiftRight,Nat.shiftRight_eq_div_pow];have:=w.isLt;omega
 rw [BitVec.toInt_eq_toNat_cond,if_pos Aa];rfl
theorem At (w:BitVec 64) (k:Nat):pF w k < 16:=by
 rw [pF,BitVec.toNat_and];exact Nat.lt_of_le_of_lt Nat.and_le_right Al
theorem Ani (w:BitVec 64) (k:Nat):(w >>> k &&& 15#64).toInt=(pF w k:Int):=by
 have h:=At w k;rw [BitVec.toInt_eq_toNat_cond,if_pos (by unfold pF at h;omega)];rfl
theorem BQ (ok:OkV M) (f g:Nat→BitVec 64) (pc:BitVec 64) (hl:Bool) (xt e:BitVec 64) :
 Ae M 214 [.ptr 0 [],W e] [(0,mach f g pc hl xt)] 1 (Q3 (.tup .fnil) [(0,mach f g pc true e)] 1):=by
 refine Ab ok.k214 rfl fun x hx=>?_;refine eX ?_;simp only [As9,Asw,CP,seval];refine Nb hx [0] (.tup .fnil) ([(0,mach f g pc true e)]) 1 ?_;all_goals simp only [mach,LY,seval]
theorem FF (ok:OkV M) (w:BitVec 64) (k:Nat):Ae M 220 [.int .i64 k,.imm (W w)] [] 0 (Q3 (.int .i64 (pF w k:Nat)) [] 0):=by
 refine Ab ok.k220 rfl fun x hx=>?_;refine eX ?_;simp only [Aq9,Ata,LZ,seval];simp only [Ani];repeat refine sd ?_
 refine Ap.mk hx [] [] (.int .i64 (pF w k:Nat)) [] 0 Al (by (simp only [Di,seval])) (by (try simp only [KR,seval]) <;> exact q2) trivial ⟨rfl,rfl,rfl⟩
def B1 (w:BitVec 64):V:=.tup (.fcons 0 (.int .i64 (Cj w)) (.fcons 1 (.int .i64 (pF w 52)) (.fcons 2 (.int .i64 (pF w 48)) (.fcons 3 (.int .i64 (pF w 44)) (.fcons 4 (.int .i64 (pF w 40)) (.fcons 5 (.int .i64 (pN w)) (.fcons 6 (.bool true) .fnil)))))))
def HQ:=(AY @LZ @B1.eq_1)
theorem AC (ok:OkV M) (w:BitVec 64) (h1:Cj w≤35) (h2:w >>> 32 &&& 255#64=0#64):Ae M 79 [W w] [] 0 (Q3 (B1 w) [] 0):=by
 refine Ab ok.k79 rfl fun x hx=>?_;have e1:((35:Int) < (Cj w:Int))=False:=eq_false Aa;refine eX ?_;simp only [f79,c79,Og,e1,h2,LZ,seval];have wn:IntKind.i64.wrap (w.setWidth 32).toInt=pN w:=by
  have h1:=BitVec.toInt_lt (x:=w.setWidth 32);have h2:=BitVec.le_toInt (x:=w.setWidth 32);rw [Bu Aa];rfl
 refine oyK (ok.fn220) (FF ok w 52) (by (try simp only [LY,seval]) <;> exact q1) (by simp only [LX]) ?_;simp only [LZ,seval];refine oyK (ok.fn220) (FF ok w 48) (by (try simp only [LY,seval]) <;> exact q1) (by simp only [LX]) ?_;simp only [LZ,seval];refine oyK (ok.fn220) (FF ok w 44) (by (try simp only [LY,seval]) <;> exact q1) (by simp only [LX]) ?_;simp only [LZ,seval];refine oyK (ok.fn220) (FF ok w 40) (by (try simp only [LY,seval]) <;> exact q1) (by simp only [LX]) ?_;simp only [wn,LZ,seval];refine Ap.mk hx [] [] (B1 w) [] 0 Al (by simp only [Vk,IL,LZ,seval]) ?_ trivial ⟨rfl,rfl,rfl⟩;simp only [HQ,EL,Fe,H3,seval,LY]
theorem Ix (ok:OkV M) (w:BitVec 64) (h1:¬ (Cj w≤35∧w >>> 32 &&& 255#64=0#64)):Ae M 79 [W w] [] 0 (Q3 (.tup (.fcons 0 (.int .i64 0) (.fcons 1 (.int .i64 0) (.fcons 2 (.int .i64 0) (.fcons 3 (.int .i64 0) (.fcons 4 (.int .i64 0) (.fcons 5 (.int .i64 0) (.fcons 6 (.bool false) .fnil)))))))) [] 0):=by
 refine Ab ok.k79 rfl fun x hx=>?_;by_cases hp:Cj w≤35
 ·have e1:((35:Int) < (Cj w:Int))=False:=eq_false Aa;have e2:(w >>> 32 &&& 255#64=0#64)=False:=eq_false (fun h=>h1 ⟨hp,h⟩);refine eX ?_;simp only [f79,c79,Og,e1,e2,LZ,seval];refine Ap.mk hx [] [] (.tup (.fcons 0 (.int .i64 0) (.fcons 1 (.int .i64 0) (.fcons 2 (.int .i64 0) (.fcons 3 (.int .i64 0) (.fcons 4 (.int .i64 0) (.fcons 5 (.int .i64 0) (.fcons 6 (.bool false) .fnil)))))))) [] 0 Al (by (simp only [Di,seval])) (by (try simp only [KR,seval]) <;> exact q2) trivial ⟨rfl,rfl,rfl⟩
 ·have e1:((35:Int) < (Cj w:Int))=True:=eq_true Aa;refine eX ?_;simp only [f79,c79,Og,e1,LZ,seval];refine Ap.mk hx [] [] (.tup (.fcons 0 (.int .i64 0) (.fcons 1 (.int .i64 0) (.fcons 2 (.int .i64 0) (.fcons 3 (.int .i64 0) (.fcons 4 (.int .i64 0) (.fcons 5 (.int .i64 0) (.fcons 6 (.bool false) .fnil)))))))) [] 0 Al (by (simp only [Di,seval])) (by (try simp only [KR,seval]) <;> exact q2) trivial ⟨rfl,rfl,rfl⟩
abbrev AD:BitVec 64:=18446744073709551614#64
theorem Gw (ok:OkV M) (f g:Nat→BitVec 64) (pc xt:BitVec 64) (hpc:¬ 8192#64≤pc) (w:BitVec 64) (hw:f pc.toNat=w) (hop:Cj w=28) (h2:w >>> 32 &&& 255#64=0#64) (wh:BitVec 64) (hwh:g (pF w 48) + BitVec.ofInt 64 (pN w)=wh) (hlt:¬ 8192#64≤wh) :
 Ae M 70 [.ptr 0 [],.ptr 1 []] [(0,mach f g pc false xt)] 2 (Q3 .nili [(0,mach (JB f wh.toNat (g (pF w 44))) g (pc + 1#64) false xt)] 2):=by
 refine Ab ok.k70 rfl fun x hx=>?_;have hp:pc.toNat < 8192:=Ha;have a1:=At w 52;have a2:=At w 48;have a3:=At w 44;have a4:=At w 40;have hp2:wh.toNat < 8192:=by rw [BitVec.le_def] at hlt;simpa using hlt
 refine eX ?_;simp only [Se,Sb,CP,hpc,hw,seval];repeat refine sd ?_
 have zz:=@B1.eq_1;refine Ge (AC ok w Aa h2) ?_;simp only [HQ,hop,hlt,hwh,seval];repeat refine sd ?_
 refine Nb hx [0,1] (.nili) ([(0,mach (JB f wh.toNat (g (pF w 44))) g (pc + 1#64) false xt)]) 2 ?_;all_goals simp only [mach,UR,LY,seval]
theorem Hg (ok:OkV M) (f g:Nat→BitVec 64) (pc xt:BitVec 64) (hpc:¬ 8192#64≤pc) (w:BitVec 64) (hw:f pc.toNat=w) (hop:Cj w=27) (h2:w >>> 32 &&& 255#64=0#64) (wh:BitVec 64) (hwh:g (pF w 48) + BitVec.ofInt 64 (pN w)=wh) (hlt:¬ 8192#64≤wh) :
 Ae M 70 [.ptr 0 [],.ptr 1 []] [(0,mach f g pc false xt)] 2 (Q3 .nili [(0,mach f (JB g (pF w 52) (f wh.toNat)) (pc + 1#64) false xt)] 2):=by
 refine Ab ok.k70 rfl fun x hx=>?_;have hp:pc.toNat < 8192:=Ha;have a1:=At w 52;have a2:=At w 48;have a3:=At w 44;have a4:=At w 40;have hp2:wh.toNat < 8192:=by rw [BitVec.le_def] at hlt;simpa using hlt
 refine eX ?_;simp only [Se,Sb,CP,hpc,hw,seval];repeat refine sd ?_
 have zz:=@B1.eq_1;refine Ge (AC ok w Aa h2) ?_;simp only [HQ,hop,hlt,hwh,seval];repeat refine sd ?_
 refine Nb hx [0,1] (.nili) ([(0,mach f (JB g (pF w 52) (f wh.toNat)) (pc + 1#64) false xt)]) 2 ?_;all_goals simp only [mach,UR,LY,seval]
theorem Ew (ok:OkV M) (f g:Nat→BitVec 64) (pc xt:BitVec 64) (hpc:¬ 8192#64≤pc) (w:BitVec 64) (hw:f pc.toNat=w) (hop:Cj w=28) (h2:w >>> 32 &&& 255#64=0#64) (wh:BitVec 64) (hwh:g (pF w 48) + BitVec.ofInt 64 (pN w)=wh) (hlt:8192#64≤wh) :
 Ae M 70 [.ptr 0 [],.ptr 1 []] [(0,mach f g pc false xt)] 2 (Q3 .nili [(0,mach f g pc true AD)] 2):=by
 refine Ab ok.k70 rfl fun x hx=>?_;have hp:pc.toNat < 8192:=Ha;have a1:=At w 52;have a2:=At w 48;have a3:=At w 44;have a4:=At w 40;refine eX ?_;simp only [Se,Sb,CP,hpc,hw,seval];repeat refine sd ?_
 have zz:=@B1.eq_1;refine Ge (AC ok w Aa h2) ?_;simp only [HQ,hop,hlt,hwh,seval];repeat refine sd ?_
 have zz:=@c7;refine GY [0] (BQ ok f g pc false xt AD) ?_;simp only [CP,seval];repeat refine sd ?_
 refine Nb hx [0,1] (.nili) ([(0,mach f g pc true AD)]) 2 ?_;all_goals simp only [mach,UR,LY,seval]
theorem E8 (ok:OkV M) (f g:Nat→BitVec 64) (pc xt:BitVec 64) (hpc:¬ 8192#64≤pc) (w:BitVec 64) (hw:f pc.toNat=w) (hop:Cj w=27) (h2:w >>> 32 &&& 255#64=0#64) (wh:BitVec 64) (hwh:g (pF w 48) + BitVec.ofInt 64 (pN w)=wh) (hlt:8192#64≤wh) :
 Ae M 70 [.ptr 0 [],.ptr 1 []] [(0,mach f g pc false xt)] 2 (Q3 .nili [(0,mach f g pc true AD)] 2):=by
 refine Ab ok.k70 rfl fun x hx=>?_;have hp:pc.toNat < 8192:=Ha;have a1:=At w 52;have a2:=At w 48;have a3:=At w 44;have a4:=At w 40;refine eX ?_;simp only [Se,Sb,CP,hpc,hw,seval];repeat refine sd ?_
 have zz:=@B1.eq_1;refine Ge (AC ok w Aa h2) ?_;simp only [HQ,hop,hlt,hwh,seval];repeat refine sd ?_
 have zz:=@c7;refine GY [0] (BQ ok f g pc false xt AD) ?_;simp only [CP,seval];repeat refine sd ?_
 refine Nb hx [0,1] (.nili) ([(0,mach f g pc true AD)]) 2 ?_;all_goals simp only [mach,UR,LY,seval]
theorem JW (ok:OkV M) (f g:Nat→BitVec 64) (pc xt:BitVec 64) (hpc:¬ 8192#64≤pc) (w:BitVec 64) (hw:f pc.toNat=w) (hop:Cj w=26) (h2:w >>> 32 &&& 255#64=0#64) :
 Ae M 70 [.ptr 0 [],.ptr 1 []] [(0,mach f g pc false xt)] 2 (Q3 .nili [(0,mach f (JB g (pF w 52) (BitVec.ofInt 64 (pN w))) (pc + 1#64) false xt)] 2):=by
 refine Ab ok.k70 rfl fun x hx=>?_;have hp:pc.toNat < 8192:=Ha;have a1:=At w 52;have a2:=At w 48;have a3:=At w 44;have a4:=At w 40;refine eX ?_;simp only [Se,Sb,CP,hpc,hw,seval];repeat refine sd ?_
 have zz:=@B1.eq_1;refine Ge (AC ok w Aa h2) ?_;simp only [HQ,hop,seval];repeat refine sd ?_
 refine Nb hx [0,1] (.nili) ([(0,mach f (JB g (pF w 52) (BitVec.ofInt 64 (pN w))) (pc + 1#64) false xt)]) 2 ?_;all_goals simp only [mach,UR,LY,seval]
theorem Fg (ok:OkV M) (f g:Nat→BitVec 64) (pc xt:BitVec 64) (hpc:¬ 8192#64≤pc) (w:BitVec 64) (hw:f pc.toNat=w) (hop:Cj w=0) (h2:w >>> 32 &&& 255#64=0#64) :
 Ae M 70 [.ptr 0 [],.ptr 1 []] [(0,mach f g pc false xt)] 2 (Q3 .nili [(0,mach f g pc true (g (pF w 48)))] 2):=by
 refine Ab ok.k70 rfl fun x hx=>?_;have hp:pc.toNat < 8192:=Ha;have a1:=At w 52;have a2:=At w 48;have a3:=At w 44;have a4:=At w 40;refine eX ?_;simp only [Se,Sb,CP,hpc,hw,seval];repeat refine sd ?_
 have zz:=@B1.eq_1;refine Ge (AC ok w Aa h2) ?_;simp only [HQ,hop,seval];repeat refine sd ?_
 have zz:=@c7;refine GY [0] (BQ ok f g pc false xt (g (pF w 48))) ?_;simp only [CP,seval];refine Nb hx [0,1] (.nili) ([(0,mach f g pc true (g (pF w 48)))]) 2 ?_;all_goals simp only [mach,UR,LY,seval]
def j3:=@B1.eq_1
variable {M:Seat}
theorem Eo (ok:OkV M) (f g:Nat→BitVec 64) (pc xt:BitVec 64) :
 Ae M 70 [.ptr 0 [],.ptr 1 []] [(0,mach f g pc true xt)] 2 (Q3 .nili [(0,mach f g pc true xt)] 2):=by
 refine Ab ok.k70 rfl fun x hx=>?_;refine eX ?_;simp only [Se,Sb,CP,seval];refine Nb hx [0,1] (.nili) ([(0,mach f g pc true xt)]) 2 ?_;all_goals simp only [mach,LY,seval]
theorem IJ (ok:OkV M) (f g:Nat→BitVec 64) (pc xt:BitVec 64) (hpc:8192#64≤pc) :
 Ae M 70 [.ptr 0 [],.ptr 1 []] [(0,mach f g pc false xt)] 2 (Q3 .nili [(0,mach f g pc true AD)] 2):=by
 refine Ab ok.k70 rfl fun x hx=>?_;refine eX ?_;simp only [Se,Sb,CP,eq_true hpc,seval];have zz:=@c7;refine GY [0] (BQ ok f g pc false xt AD) ?_;simp only [CP,seval];refine Nb hx [0,1] (.nili) ([(0,mach f g pc true AD)]) 2 ?_;all_goals simp only [mach,LY,seval]
theorem IK (ok:OkV M) (f g:Nat→BitVec 64) (pc xt:BitVec 64) (hpc:¬ 8192#64≤pc) (w:BitVec 64) (hw:f pc.toNat=w) (h:¬ (Cj w≤35∧w >>> 32 &&& 255#64=0#64)) :
 Ae M 70 [.ptr 0 [],.ptr 1 []] [(0,mach f g pc false xt)] 2 (Q3 .nili [(0,mach f g pc true AD)] 2):=by
 refine Ab ok.k70 rfl fun x hx=>?_;have hp:pc.toNat < 8192:=Ha;refine eX ?_;simp only [Se,Sb,CP,hpc,hw,seval];repeat refine sd ?_
 refine AO (Ix ok w h) ?_;simp only [LZ,seval];have zz:=@c7;refine GY [0] (BQ ok f g pc false xt AD) ?_;simp only [CP,seval];refine Nb hx [0,1] (.nili) ([(0,mach f g pc true AD)]) 2 ?_;all_goals simp only [mach,LY,seval]
def Si (op:Nat) (f g:Nat→BitVec 64) (pc xt:BitVec 64) (d a:Nat) (to:BitVec 64):V :=
 if (op=30∧¬ g a=0#64) ∨ (op=31∧g a=0#64) then mach f g (pc + 1#64) false xt
 else if 8192#64≤(if op=33 then g a else to) then mach f g pc true AD
 else mach f (if op=32 then JB g d (pc + 1#64) else g) (if op=33 then g a else to) false xt
theorem VH (ok:OkV M) (op:Nat) (ho:op=29 ∨ op=30 ∨ op=31 ∨ op=32 ∨ op=33) (f g:Nat→BitVec 64) (pc xt:BitVec 64) (d a:Nat) (hd:d < 16) (ha:a < 16) (to:BitVec 64) :
 Ae M 216 [.ptr 0 [],.int .i64 op,.int .i64 d,.int .i64 a,W to] [(0,mach f g pc false xt)] 1 (Q3 (.tup .fnil) [(0,Si op f g pc xt d a to)] 1):=by
 refine Ab ok.k216 rfl fun x hx=>?_;by_cases h0:g a=0#64 <;> by_cases h1:8192#64≤to <;> by_cases h2:8192#64≤g a <;> rcases ho with rfl | rfl | rfl | rfl | rfl;all_goals simp only [Si,h0,h1,h2,seval,Lb9,true_and,false_and,or_false,not_false_eq_true,false_or]
 all_goals refine eX ?_;simp only [Asj,As5,CP,h0,h1,h2,Int.cast_ofNat_Int,seval]
 all_goals repeat refine sd ?_
 all_goals try ((have zz:=AY @c7 UR;exact AI hx [0] ⟨rfl,rfl,rfl⟩))
 all_goals
  have zz:=@c7;refine GY [0] (BQ ok f g pc false xt AD) ?_;simp only [CP,seval];have zz:=AY @c7 UR;exact AI hx [0] ⟨rfl,rfl,rfl⟩
theorem CE (ok:OkV M) (op:Nat) (ho:op=29 ∨ op=30 ∨ op=31 ∨ op=32 ∨ op=33) (f g:Nat→BitVec 64) (pc xt:BitVec 64) (hpc:¬ 8192#64≤pc) (w:BitVec 64) (hw:f pc.toNat=w) (hop:Cj w=op) (h2:w >>> 32 &&& 255#64=0#64) :
 Ae M 70 [.ptr 0 [],.ptr 1 []] [(0,mach f g pc false xt)] 2 (Q3 .nili [(0,Si op f g pc xt (pF w 52) (pF w 48) (BitVec.ofInt 64 (pN w)))] 2):=by
 refine Ab ok.k70 rfl fun x hx=>?_;have hp:pc.toNat < 8192:=Ha;have a1:=At w 52;have a2:=At w 48;have d1:((op:Int)=0)=False:=eq_false Aa;have d2:((op:Int) < 26)=False:=eq_false Aa;have d3:((op:Int)=26)=False:=eq_false Aa;have d4:((op:Int)=27)=False:=eq_false Aa;have d5:((op:Int)=28)=False:=eq_false Aa;have d6:((op:Int) < 34)=True:=eq_true Aa;refine eX ?_;simp only [Se,Sb,CP,hpc,hw,seval];repeat refine sd ?_
 have zz:=@j3;refine Ge (AC ok w Aa h2) ?_;simp only [HQ,hop,d1,d2,d3,d4,d5,d6,seval];repeat refine sd ?_
 have hS:∀ H m z,Ay H m z (Si op f g pc xt (pF w 52) (pF w 48) (BitVec.ofInt 64 (pN w))) (Si op f g pc xt (pF w 52) (pF w 48) (BitVec.ofInt 64 (pN w))):=by
  intro H m z;unfold Si
  repeat' split
  all_goals simp only [mach,LY,seval]
 have hN:AF (Si op f g pc xt (pF w 52) (pF w 48) (BitVec.ofInt 64 (pN w))):=by
  unfold Si
  repeat' split
  all_goals simp only [mach,AF,Sk,implies_true,and_self]
 have hR:∀ m,(Si op f g pc xt (pF w 52) (pF w 48) (BitVec.ofInt 64 (pN w))).ren m=Si op f g pc xt (pF w 52) (pF w 48) (BitVec.ofInt 64 (pN w)):=by
  intro m;unfold Si
  repeat' split
  all_goals rfl
 have zz:=AY @c7 hN;refine GY [0] (VH ok op ho f g pc xt (pF w 52) (pF w 48) Aa Aa (BitVec.ofInt 64 (pN w))) ?_;simp only [hR,LZ,seval];have zz:=hS;exact AI hx [0,1] ⟨rfl,rfl,rfl⟩
structure Mc where
 f:Nat→BitVec 64
 g:Nat→BitVec 64
 pc:BitVec 64
 hl:Bool
 xt:BitVec 64
def Mc.v (m:Mc):V:=mach m.f m.g m.pc m.hl m.xt
def Jy (M:Seat) (m m':Mc):Prop:=Ae M 70 [.ptr 0 [],.ptr 1 []] [(0,m.v)] 2 (Q3 .nili [(0,m'.v)] 2)
theorem XE {M:Seat} (ok:OkV M) (ms:Nat→Mc) (k n:Nat) (hk:k≤n) (hn:n < 9223372036854775808) (hs:∀ i,i < k→(ms i).hl=false∧Jy M (ms i) (ms (i + 1))) (he:(ms k).hl=true ∨ k=n) :
 Ae M 71 [.ptr 0 [],.ptr 1 [],.int .i64 n] [(0,(ms 0).v)] 2 (Q3 (Ai (.int .i64 k) .nili) [(0,(ms k).v)] 2):=by
 refine Ab ok.k71 rfl fun x hx=>?_;have e0:((n:Int) < 0)=False:=eq_false Aa;have hS:∀ (m:Mc) H a z,Ay H a z m.v m.v:=fun m H a z=>by simp only [Mc.v,mach,LY,seval]
 have hN:∀ m:Mc,AF m.v:=fun m=>by simp only [Mc.v,mach,AF,Sk,implies_true,and_self]
 have hR:∀ (m:Mc) a,m.v.ren a=m.v:=fun m a=>rfl;refine eX ?_;simp only [f71,c71,e0,LZ,seval];refine Am (σ:=Nat) (fun i=>i≤k) (fun i=>fr 37 [(0,.ptr 0 []),(1,.ptr 1 []),(2,.int .i64 n),(8,.int .i64 i)]) (fun i=>[(0,(ms i).v)]) (fun _=>2) (fun i=>k - i) 0 Aa ?_ ?_
 ·refine Ak.fr [0,1] [] hx AG Al ?_ ?_
  ·simp only [LY,seval]
  ·simp only [hS,LY,seval]
 ·intro i hi;refine eX ?_;by_cases hik:i=k
  ·subst hik;rcases he with he | he
   ·by_cases hin:i < n
    ·have d0:((i:Int) < (n:Int))=True:=eq_true Aa;simp only [d0,Mc.v,CP,he,seval];have zz:=Cv @Mc.v.eq_1 @c7 he;exact AI hx [0,1] ⟨rfl,rfl,rfl⟩
    ·have d0:((i:Int) < (n:Int))=False:=eq_false Aa;simp only [d0,Mc.v,CP,seval];have zz:=AY @Mc.v.eq_1 @c7;exact AI hx [0,1] ⟨rfl,rfl,rfl⟩
   ·have d0:((i:Int) < (n:Int))=False:=eq_false Aa;simp only [d0,Mc.v,CP,seval];have zz:=AY @Mc.v.eq_1 @c7;exact AI hx [0,1] ⟨rfl,rfl,rfl⟩
  ·obtain ⟨h1,h2⟩:=hs i Aa;have d0:((i:Int) < (n:Int))=True:=eq_true Aa;have w0:IntKind.i64.wrap ((i:Int) + 1)=((i + 1:Nat):Int):=AW;have hv:(ms i).v=mach (ms i).f (ms i).g (ms i).pc (ms i).hl (ms i).xt:=rfl;rw [hv];simp only [d0,CP,h1,seval];have hst:=h2;unfold Jy at hst;rw [hv,h1] at hst;have zz:=AY @c7 hN;refine Z8 [0,1] [0] (hst) ?_;simp only [hR,w0,LZ,seval];refine ⟨i + 1,by omega,by omega,?_⟩;refine Ak.fr [0,1] [] hx AG Al ?_ ?_
   ·simp only [LY,seval]
   ·simp only [hS,LY,seval]
def x7:=@Mc.v.eq_1
structure OkI (M:Seat):Prop extends OkV M where
structure OkI7 (M:Seat):Prop where
 k77:Ar M 77 f77=true
structure OkI75 (M:Seat):Prop extends OkI7 M where
 k75:Ar M 75 f75=true
def rcW (op:Int) (d a b c:Nat) (n:Int):BitVec 64 :=
 ((((BitVec.ofInt 64 op * 16#64 + BitVec.ofInt 64 d) * 16#64 + BitVec.ofInt 64 a) * 16#64 + BitVec.ofInt 64 b) * 16#64 + BitVec.ofInt 64 c) * 1099511627776#64 + (BitVec.ofInt 64 n &&& 4294967295#64)
def Gr (op n:Int):Bool:=decide (0≤op∧op≤35∧-2147483648≤n∧n < 2147483648)
theorem OO {M:Seat} (ok:OkI M) (kx:OkI7 M) (op:Int) (d a b c:Nat) (n:Int) (hd:d < 16) (ha:a < 16) (hb:b < 16) (hc:c < 16) :
 Ae M 77 [.int .i64 op,.int .i64 d,.int .i64 a,.int .i64 b,.int .i64 c,.int .i64 n] [] 0 (Q3 (Ai (W (if Gr op n then rcW op d a b c n else 0#64)) (.int .i64 (if Gr op n then 0 else 2))) [] 0):=by
 refine Ab kx.k77 rfl fun x hx=>?_;have l1:∀ q:Nat,q < 16→(((q:Int) < 0)=False):=fun q _=>eq_false Aa;have l2:∀ q:Nat,q < 16→((15:Int) < (q:Int))=False:=fun q h=>eq_false Aa;have w1:IntKind.i64.wrap 1=1:=rfl;have w2:IntKind.i64.wrap 2=2:=rfl;have w3:IntKind.i64.wrap 3=3:=rfl;have w4:IntKind.i64.wrap 4=4:=rfl;refine eX ?_;simp only [f77,c77,LZ,seval];refine A5 ?_;refine eX ?_;simp only [l1 d hd,l2 d hd,w1,w2,w3,w4,LZ,seval];repeat refine sd ?_
 refine A5 ?_;refine eX ?_;simp only [l1 a ha,l2 a ha,w1,w2,w3,w4,LZ,seval];repeat refine sd ?_
 refine A5 ?_;refine eX ?_;simp only [l1 b hb,l2 b hb,w1,w2,w3,w4,LZ,seval];repeat refine sd ?_
 refine A5 ?_;refine eX ?_;simp only [l1 c hc,l2 c hc,w1,w2,w3,w4,LZ,seval];repeat refine sd ?_
 refine A5 ?_;refine eX ?_;by_cases h1:op < 0
 ·have e:Gr op n=false:=by simp only [Gr,decide_eq_false_iff_not];omega
  simp only [eq_true h1,e,LZ,seval];exact Ap.mkZ hx [] ⟨rfl,rfl,rfl⟩
 ·by_cases h2:35 < op
  ·have e:Gr op n=false:=by simp only [Gr,decide_eq_false_iff_not];omega
   simp only [eq_false h1,eq_true h2,e,LZ,seval];exact Ap.mkZ hx [] ⟨rfl,rfl,rfl⟩
  ·by_cases h3:n < -2147483648
   ·have e:Gr op n=false:=by simp only [Gr,decide_eq_false_iff_not];omega
    simp only [eq_false h1,eq_false h2,eq_true h3,e,LZ,seval];exact Ap.mkZ hx [] ⟨rfl,rfl,rfl⟩
   ·by_cases h4:2147483648≤n
    ·have e:Gr op n=false:=by simp only [Gr,decide_eq_false_iff_not];omega
     simp only [eq_false h1,eq_false h2,eq_false h3,eq_true h4,e,LZ,seval];exact Ap.mkZ hx [] ⟨rfl,rfl,rfl⟩
    ·have e:Gr op n=true:=by simp only [Gr,decide_eq_true_eq];omega
     simp only [eq_false h1,eq_false h2,eq_false h3,eq_false h4,e,rcW,LZ,seval];have zz:=@rcW.eq_1;exact AI hx [] ⟨rfl,rfl,rfl⟩
structure In where
 op:Int
 d:Int
 a:Int
 b:Int
 c:Int
 n:Int
 raw:BitVec 64
instance:Inhabited In:=⟨⟨0,0,0,0,0,0,0#64⟩⟩
def Yv (x:In):V:=.st 7 (.fcons 0 (.int .i64 x.op) (.fcons 1 (.int .i64 x.d) (.fcons 2 (.int .i64 x.a) (.fcons 3 (.int .i64 x.b) (.fcons 4 (.int .i64 x.c) (.fcons 5 (.int .i64 x.n) (.fcons 6 (W x.raw) .fnil)))))))
def Sd (d:Int):Nat:=(BitVec.ofInt 64 d % 16#64).toNat
theorem M5 (d:Int):Sd d < 16:=by rw [Sd,BitVec.toNat_umod];exact Nat.mod_lt _ Al
theorem Pq (d:Int):(BitVec.ofInt 64 d % 16#64).toInt=(Sd d:Int):=by
 have:=M5 d;rw [BitVec.toInt_eq_toNat_cond,if_pos (by unfold Sd at this;omega)];rfl
def Jo (x:In):BitVec 64:=if Gr x.op x.n then rcW x.op (Sd x.d) (Sd x.a) (Sd x.b) (Sd x.c) x.n else x.raw
def Kl (l:List In):V:=.lst 7 l.length (fun j=>Yv (l.getD j default))
def VU:=(AY @Kl.eq_1 @Yv.eq_1)
theorem MO {M:Seat} (ok:OkI M) (kx:OkI75 M) (v:V) (hv:v = .nils ∨ v=Kl []):Ae M 75 [v] [] 0 (Q3 .nils [] 0):=by
 refine Ab kx.k75 rfl fun x hx=>?_;rcases hv with rfl | rfl
 ·refine eX ?_;simp only [f75,c75,LZ,seval];refine A5 ?_;refine eX ?_;simp only [LZ,seval];exact Ap.mkZ hx [] ⟨rfl,rfl,rfl⟩
 ·refine eX ?_;simp only [f75,c75,Kl,List.length_nil,LZ,seval];refine A5 ?_;refine eX ?_;simp only [LZ,seval];exact Ap.mkZ hx [] ⟨rfl,rfl,rfl⟩
theorem Te {M:Seat} (ok:OkI M) (kx:OkI75 M) (l:List In) (h0:0 < l.length) (hl:l.length < 9223372036854775808) :
 Ae M 75 [Kl l] [] 0 (Q3 (.sl 0 [] 0 (min l.length 8192) 1) [(0,.ar 1 (min l.length 8192) (fun j=>W (Jo (l.getD j default))))] 1):=by
 refine Ab kx.k75 rfl fun x hx=>?_;refine eX ?_;simp only [f75,c75,Kl,LZ,seval];refine A5 ?_;refine eX ?_;have d0:((0:Int) < (l.length:Int))=True:=eq_true Aa;have d1:(0 < l.length)=True:=eq_true h0;simp only [d0,d1,Yv,Pq,LZ,seval];have hc:=fun q:Nat=>OO ok kx.toOkI7 (l.getD q default).op (Sd (l.getD q default).d) (Sd (l.getD q default).a) (Sd (l.getD q default).b) (Sd (l.getD q default).c) (l.getD q default).n (M5 _) (M5 _) (M5 _) (M5 _);refine Aj (hc 0) ?_;have wo:∀ q:Nat,Jo (l.getD q default)=if Gr (l.getD q default).op (l.getD q default).n then rcW (l.getD q default).op (Sd (l.getD q default).d) (Sd (l.getD q default).a) (Sd (l.getD q default).b) (Sd (l.getD q default).c) (l.getD q default).n else (l.getD q default).raw:=fun q=>rfl;have w1:IntKind.i64.wrap 1=1:=rfl;cases he:Gr (l.getD 0 default).op (l.getD 0 default).n with
 | false =>
   have wo0:=wo 0;rw [he] at wo0;simp only [PX] at wo0;simp only [Bb,he,w1,seval];refine Am (σ:=Nat) (fun q=>1≤q∧q≤min l.length 8192) (fun q=>fr 55 [(8,Kl l),(9,.int .i64 l.length),(10,.int .i64 q),(3,.sl 0 [] 0 q 1)])
    (fun q=>[(0,.ar 1 q (fun j=>W (Jo (l.getD j default))))]) (fun _=>1) (fun q=>min l.length 8192 - q) 1 Aa ?_ ?_
   ·refine Ak.fr [832] [] hx AG Al ?_ ?_
    ·simp only [VU,LY,seval]
    ·simp only [LY,seval];intro j hj;obtain rfl:j=0:=Aa;rw [if_pos rfl,wo0];exact (EM _ _ _ _ _).mpr rfl
   ·intro q ⟨hq1,hq⟩;refine eX ?_;by_cases hqn:q=l.length
    ·have d0:((q:Int) < (l.length:Int))=False:=eq_false Aa;simp only [Kl,d0,LZ,seval];have hm:min l.length 8192=q:=Aa;rw [hm];exact Ap.mkZ hx [0] ⟨rfl,rfl,rfl⟩
    ·have d0:((q:Int) < (l.length:Int))=True:=eq_true Aa;have d1:(q < l.length)=True:=eq_true Aa;by_cases hq8:q=8192
     ·have d2:((8192:Int)≤(q:Int))=True:=eq_true Aa;simp only [VU,d0,d1,d2,LZ,seval];repeat refine sd ?_
      have hm:min l.length 8192=q:=Aa;rw [hm];exact Ap.mkZ hx [0] ⟨rfl,rfl,rfl⟩
     ·have d2:((8192:Int)≤(q:Int))=False:=eq_false Aa;have w0:IntKind.i64.wrap ((q:Int) + 1)=((q + 1:Nat):Int):=AW;have woq:=wo q;simp only [VU,Pq,d0,d1,d2,LZ,seval];repeat refine sd ?_
      refine Aj (hc q) ?_;cases hk:Gr (l.getD q default).op (l.getD q default).n with
      | false =>
        rw [hk] at woq;simp only [PX] at woq;simp only [Bb,hk,w0,seval];repeat refine sd ?_
        refine ⟨q + 1,by omega,by omega,by omega,?_⟩;refine Ak.fr [753] [] hx AG Al ?_ ?_
        ·simp only [VU,LY,seval]
        ·simp only [LY,seval];intro j hj;by_cases hjq:j < q
         ·rw [if_pos hjq];exact (EM _ _ _ _ _).mpr rfl
         ·obtain rfl:j=q:=Aa;rw [if_neg hjq,if_pos Aa,woq];exact (EM _ _ _ _ _).mpr rfl
      | true =>
        rw [hk] at woq;simp only [PX] at woq;simp only [Bb,hk,w0,seval];repeat refine sd ?_
        refine ⟨q + 1,by omega,by omega,by omega,?_⟩;refine Ak.fr [705] [] hx AG Al ?_ ?_
        ·simp only [VU,LY,seval]
        ·simp only [LY,seval];intro j hj;by_cases hjq:j < q
         ·rw [if_pos hjq];exact (EM _ _ _ _ _).mpr rfl
         ·obtain rfl:j=q:=Aa;rw [if_neg hjq,if_pos Aa,woq];exact (EM _ _ _ _ _).mpr rfl
 | true =>
   have wo0:=wo 0;rw [he] at wo0;simp only [PX] at wo0;simp only [Bb,he,w1,seval];refine Am (σ:=Nat) (fun q=>1≤q∧q≤min l.length 8192) (fun q=>fr 55 [(8,Kl l),(9,.int .i64 l.length),(10,.int .i64 q),(3,.sl 0 [] 0 q 1)])
    (fun q=>[(0,.ar 1 q (fun j=>W (Jo (l.getD j default))))]) (fun _=>1) (fun q=>min l.length 8192 - q) 1 Aa ?_ ?_
   ·refine Ak.fr [784] [] hx AG Al ?_ ?_
    ·simp only [VU,LY,seval]
    ·simp only [LY,seval];intro j hj;obtain rfl:j=0:=Aa;rw [if_pos rfl,wo0];exact (EM _ _ _ _ _).mpr rfl
   ·intro q ⟨hq1,hq⟩;refine eX ?_;by_cases hqn:q=l.length
    ·have d0:((q:Int) < (l.length:Int))=False:=eq_false Aa;simp only [Kl,d0,LZ,seval];have hm:min l.length 8192=q:=Aa;rw [hm];exact Ap.mkZ hx [0] ⟨rfl,rfl,rfl⟩
    ·have d0:((q:Int) < (l.length:Int))=True:=eq_true Aa;have d1:(q < l.length)=True:=eq_true Aa;by_cases hq8:q=8192
     ·have d2:((8192:Int)≤(q:Int))=True:=eq_true Aa;simp only [VU,d0,d1,d2,LZ,seval];repeat refine sd ?_
      have hm:min l.length 8192=q:=Aa;rw [hm];exact Ap.mkZ hx [0] ⟨rfl,rfl,rfl⟩
     ·have d2:((8192:Int)≤(q:Int))=False:=eq_false Aa;have w0:IntKind.i64.wrap ((q:Int) + 1)=((q + 1:Nat):Int):=AW;have woq:=wo q;simp only [VU,Pq,d0,d1,d2,LZ,seval];repeat refine sd ?_
      refine Aj (hc q) ?_;cases hk:Gr (l.getD q default).op (l.getD q default).n with
      | false =>
        rw [hk] at woq;simp only [PX] at woq;simp only [Bb,hk,w0,seval];repeat refine sd ?_
        refine ⟨q + 1,by omega,by omega,by omega,?_⟩;refine Ak.fr [753] [] hx AG Al ?_ ?_
        ·simp only [VU,LY,seval]
        ·simp only [LY,seval];intro j hj;by_cases hjq:j < q
         ·rw [if_pos hjq];exact (EM _ _ _ _ _).mpr rfl
         ·obtain rfl:j=q:=Aa;rw [if_neg hjq,if_pos Aa,woq];exact (EM _ _ _ _ _).mpr rfl
      | true =>
        rw [hk] at woq;simp only [PX] at woq;simp only [Bb,hk,w0,seval];repeat refine sd ?_
        refine ⟨q + 1,by omega,by omega,by omega,?_⟩;refine Ak.fr [705] [] hx AG Al ?_ ?_
        ·simp only [VU,LY,seval]
        ·simp only [LY,seval];intro j hj;by_cases hjq:j < q
         ·rw [if_pos hjq];exact (EM _ _ _ _ _).mpr rfl
         ·obtain rfl:j=q:=Aa;rw [if_neg hjq,if_pos Aa,woq];exact (EM _ _ _ _ _).mpr rfl
def Afn (n:Nat) (u:Nat→BitVec 64) (j:Nat):BitVec 64:=if j < n then u j else 0#64
theorem S9 {M:Seat} (okA:OkM M) (n:Nat) (hn:n≤8192) (u:Nat→BitVec 64):Ae M 74 [.lst 1 n (fun j=>W (u j))] [] 0 (Q3 (Ai (.ptr 0 []) .nili) [(0,mach (Afn n u) (fun _=>0#64) 0#64 false 0#64)] 1):=by
 refine Ab okA.k74 rfl fun x hx=>?_;have e0:((8192:Int) < (n:Int))=False:=eq_false Aa;have m1:min n 8192=n:=Aa;have m2:∀ i:Nat,(0≤i)=True:=fun i=>eq_true (Nat.zero_le i);refine eX ?_;simp only [f74,c74,e0,m1,m2,LZ,seval];have zz:=Cv @c7 @Afn.eq_1 @QI;exact AI hx [96] ⟨rfl,rfl,rfl⟩
structure OkW (M:Seat):Prop extends OkI M where
 k215:Ar M 215 YT=true
def i32 (n:Int):Int:=if n % 4294967296 ≥ 2147483648 then n % 4294967296 - 4294967296 else n % 4294967296
variable {M:Seat}
structure OkO (M:Seat):Prop extends OkW M where
 k308:Ar M 308 Ar5=true
 k327:Ar M 327 Ajp=true
 k326:Ar M 326 Apa=true
 k217:Ar M 217 OB=true
theorem Bw (ok:OkO M) (a b:BitVec 64):Ae M 326 [W a,W b] [] 0 (Q3 (.bool (decide (a≤8192#64) && decide (b≤8192#64 - a))) [] 0):=by
 refine Ab ok.k326 rfl fun x hx=>?_;rcases Classical.propComplete (a≤8192#64) with h | h;all_goals refine eX ?_;simp only [Apa,Atu,h,LZ,seval]
 all_goals try simp only [h,decide_true,decide_false,Bool.true_and,Bool.false_and]
 all_goals exact Ap.mkZ hx [] ⟨rfl,rfl,rfl⟩
def J9 (p:Nat→BitVec 8):Nat→BitVec 64
 | 0=>0
 | k + 1=>(J9 p k <<< (8#64).toNat) ||| (p k).setWidth 64
theorem DQ (ok:OkO M) (n:Nat) (hn:8≤n) (p:Nat→BitVec 8):Ae M 308 [.lst 1 n (fun j=>B (p j))] [] 0 (Q3 (W (J9 p 8)) [] 0):=by
 refine Ab ok.k308 rfl fun x hx=>?_;refine eX ?_;simp only [Ar5,Att,Bn,seval];repeat refine sd ?_
 refine Am (σ:=Nat) (fun i=>i≤8) (fun i=>fr 20 [(7,.lst 1 8 fun j=>B (p j)),(8,.int .i64 8),(9,.int .i64 i),(3,W (J9 p i))]) (fun _=>[]) (fun _=>0) (fun i=>8 - i) 0 Aa ?_ ?_
 ·refine Ak.fr [] [] hx AG Al ?_ ?_
  ·simp only [J9,LY,seval]
  ·trivial
 ·intro i hi;refine eX ?_;by_cases h8:i=8
  ·subst h8;simp only [LZ,seval];exact Ap.mkZ hx [] ⟨rfl,rfl,rfl⟩
  ·have d0:((i:Int) < 8)=True:=eq_true Aa;have w0:IntKind.i64.wrap ((i:Int) + 1)=((i + 1:Nat):Int):=AW;simp only [d0,w0,LZ,seval];repeat refine sd ?_
   refine ⟨i + 1,by omega,by omega,?_⟩;refine Ak.fr [] [] hx AG Al ?_ ?_
   ·simp only [J9,LY,seval]
   ·trivial
def X5 (w:BitVec 64) (j:Nat):BitVec 8:=(w >>> (56 - 8 * j)).setWidth 8
theorem NG (hc:Ar M 312 PH=true) (w:BitVec 64) :
 Ae M 312 [.sl 0 [] 0 8 1,W w] [(0,.ar 1 8 fun _=>B 0#8)] 1 (Q3 (.tup .fnil) [(0,.ar 1 8 fun j=>B (if j < 8 then X5 w j else 0#8))] 1):=by
 have h:=Md hc 8 0 8 (fun _=>0) (w.toNat:Int) Aa Aa Aa;have e:(fun j=>V.int .u8 (if 0≤j∧j < 0 + 8 then byt (w.toNat:Int) (j - 0) else 0))=(fun j=>B (if j < 8 then X5 w j else 0#8)):=by
  funext j;by_cases hj:j < 8
  ·rw [if_pos hj,if_pos Aa];exact Aa5 w j
  ·rw [if_neg hj,if_neg Aa];rfl
 rw [e] at h;exact h
theorem DS (okA:OkM M) (ok:OkO M) (w:BitVec 64) :
 Ae M 327 [.nils,W w] [] 0 (Q3 (.sl 0 [] 0 8 1) [(0,.ar 1 8 fun j=>B (X5 w j))] 1):=by
 refine Ab ok.k327 rfl fun x hx=>?_;refine eX ?_;simp only [Ajp,Akv,Bn,seval];repeat refine sd ?_
 refine Vr [16] (NG okA.k312 w) ?_;simp only [LZ,seval];repeat refine sd ?_
 refine Nb hx [112] (.sl 0 [] 0 8 1) ([(0,.ar 1 8 fun j=>B (X5 w j))]) 1 ?_;simp only [LY,seval];intro i hi;rw [if_pos hi]
theorem DR (okA:OkM M) (ok:OkO M) (n:Nat) (hn:n≤64) (p:Nat→BitVec 8) (w:BitVec 64) :
 Ae M 327 [.sl 0 [] 0 n 1,W w] [(0,.ar 1 n (fun j=>B (p j)))] 1 (Q3 (.sl 1 [] 0 (n + 8) 1) [(1,.ar 1 (n + 8) fun j=>B (if j < n then p j else X5 w (j - n)))] 2):=by
 refine Ab ok.k327 rfl fun x hx=>?_;refine eX ?_;simp only [Ajp,Akv,Bn,seval];repeat refine sd ?_
 refine Vr [17] (NG okA.k312 w) ?_;simp only [LZ,seval];repeat refine sd ?_
 refine Nb hx [0,113] (.sl 1 [] 0 (n + 8) 1) ([(1,.ar 1 (n + 8) fun j=>B (if j < n then p j else X5 w (j - n)))]) 2 ?_;simp only [LY,seval];intro i hi;by_cases h:i < n
 ·rw [if_pos h,if_pos h];simp only [B,LY,seval]
 ·rw [if_neg h,if_neg h,if_pos Aa];simp only [B,LY,seval]
end Mv
