/- A part. -/
import Derived.Test.YtncipgmjhaiagaaGreatDoorGX
set_option linter.all false
set_option maxRecDepth 20000
set_option maxHeartbeats 4000000
namespace Mv
open Go
variable {M:Seat}
structure OkV (M:Seat):Prop extends OkS M where
 k70:Al M 70 P3=true
 k79:Al M 79 f79=true
 k214:Al M 214 Afa=true
 k216:Al M 216 Afy=true
 k220:Al M 220 Ag2=true
 fn220:Rz M 220
def AT (w:BitVec 64):Nat:=(w >>> 56).toNat
def pF (w:BitVec 64) (k:Nat):Nat:=(w >>> k &&& 15#64).toNat
def pN (w:BitVec 64):Int:=(w.setWidth 32).toInt
theorem EK (w:BitVec 64):(w >>> 56).toInt=(AT w:Int):=by
 have h:(w >>> 56).toNat < 256:=by rw [BitVec.toNat_ushiftRight,Nat.shiftRight_eq_div_pow];have:=w.isLt;omega
 rw [BitVec.toInt_eq_toNat_cond,if_pos Aa];rfl
theorem Ai (w:BitVec 64) (k:Nat):pF w k < 16:=by
 rw [pF,BitVec.toNat_and]
 exact Nat.lt_of_le_of_lt Nat.and_le_right Ak
theorem QF (w:BitVec 64) (k:Nat):(w >>> k &&& 15#64).toInt=(pF w k:Int):=by
 have h:=Ai w k
 rw [BitVec.toInt_eq_toNat_cond,if_pos (by unfold pF at h;omega)];rfl
theorem Bw (ok:OkV M) (f g:Nat→BitVec 64) (pc:BitVec 64) (hl:Bool) (xt e:BitVec 64) :
 Af M 214 [.ptr 0 [],W e] [(0,mach f g pc hl xt)] 1 (Q3 (.tup .fnil) [(0,mach f g pc true e)] 1):=by
 refine Ac ok.k214 rfl fun x hx=>?_
 refine es 2000 ?_;(simp only [Afa,Aj9,Ga,seval])
 refine ID hx [0] (.tup .fnil) ([(0,mach f g pc true e)]) 1 ?_
 all_goals simp only [mach,LY,seval]
theorem EM (ok:OkV M) (w:BitVec 64) (k:Nat):Af M 220 [.int .i64 k,.imm (W w)] [] 0 (Q3 (.int .i64 (pF w k:Nat)) [] 0):=by
 refine Ac ok.k220 rfl fun x hx=>?_
 refine es 2000 ?_;(simp only [Ag2,Ak2,LZ,seval])
 simp only [QF]
 repeat refine sd ?_
 refine Aq.mk hx [] [] (.int .i64 (pF w k:Nat)) [] 0 Ak (by (simp only [Fk,seval])) (by (try simp only [IT,seval]) <;> exact q2) trivial ⟨rfl,rfl,rfl⟩
def Bb (w:BitVec 64):V:=.tup (.fcons 0 (.int .i64 (AT w)) (.fcons 1 (.int .i64 (pF w 52)) (.fcons 2 (.int .i64 (pF w 48)) (.fcons 3 (.int .i64 (pF w 44)) (.fcons 4 (.int .i64 (pF w 40)) (.fcons 5 (.int .i64 (pN w)) (.fcons 6 (.bool true) .fnil)))))))
def Hi:=(aq2 @LZ @Bb.eq_1)
theorem Az (ok:OkV M) (w:BitVec 64) (h1:AT w≤35) (h2:w >>> 32 &&& 255#64=0#64):Af M 79 [W w] [] 0 (Q3 (Bb w) [] 0):=by
 refine Ac ok.k79 rfl fun x hx=>?_
 have e1:((35:Int) < (AT w:Int))=False:=eq_false Aa
 refine es 2000 ?_;(simp only [f79,c79,EK,e1,h2,LZ,seval])
 have wn:IntKind.i64.wrap (w.setWidth 32).toInt=pN w:=by
  have h1:=BitVec.toInt_lt (x:=w.setWidth 32)
  have h2:=BitVec.le_toInt (x:=w.setWidth 32)
  rw [AI Aa];rfl
 refine oyK (ok.fn220) (EM ok w 52) (by (try simp only [LY,seval]) <;> exact q1) (by simp only [LX]) ?_
 (simp only [LZ,seval])
 refine oyK (ok.fn220) (EM ok w 48) (by (try simp only [LY,seval]) <;> exact q1) (by simp only [LX]) ?_
 (simp only [LZ,seval])
 refine oyK (ok.fn220) (EM ok w 44) (by (try simp only [LY,seval]) <;> exact q1) (by simp only [LX]) ?_
 (simp only [LZ,seval])
 refine oyK (ok.fn220) (EM ok w 40) (by (try simp only [LY,seval]) <;> exact q1) (by simp only [LX]) ?_
 (simp only [wn,LZ,seval])
 refine Aq.mk hx [] [] (Bb w) [] 0 Ak (by simp only [Tp,HD,LZ,seval]) ?_ trivial ⟨rfl,rfl,rfl⟩
 simp only [Hi,DS,Ek,GH,seval,LY]
theorem GZ (ok:OkV M) (w:BitVec 64) (h1:¬ (AT w≤35∧w >>> 32 &&& 255#64=0#64)):Af M 79 [W w] [] 0 (Q3 (.tup (.fcons 0 (.int .i64 0) (.fcons 1 (.int .i64 0) (.fcons 2 (.int .i64 0) (.fcons 3 (.int .i64 0) (.fcons 4 (.int .i64 0) (.fcons 5 (.int .i64 0) (.fcons 6 (.bool false) .fnil)))))))) [] 0):=by
 refine Ac ok.k79 rfl fun x hx=>?_
 by_cases hp:AT w≤35
 ·have e1:((35:Int) < (AT w:Int))=False:=eq_false Aa
  have e2:(w >>> 32 &&& 255#64=0#64)=False:=eq_false (fun h=>h1 ⟨hp,h⟩)
  refine es 2000 ?_;(simp only [f79,c79,EK,e1,e2,LZ,seval])
  refine Aq.mk hx [] [] (.tup (.fcons 0 (.int .i64 0) (.fcons 1 (.int .i64 0) (.fcons 2 (.int .i64 0) (.fcons 3 (.int .i64 0) (.fcons 4 (.int .i64 0) (.fcons 5 (.int .i64 0) (.fcons 6 (.bool false) .fnil)))))))) [] 0 Ak (by (simp only [Fk,seval])) (by (try simp only [IT,seval]) <;> exact q2) trivial ⟨rfl,rfl,rfl⟩
 ·have e1:((35:Int) < (AT w:Int))=True:=eq_true Aa
  refine es 2000 ?_;(simp only [f79,c79,EK,e1,LZ,seval])
  refine Aq.mk hx [] [] (.tup (.fcons 0 (.int .i64 0) (.fcons 1 (.int .i64 0) (.fcons 2 (.int .i64 0) (.fcons 3 (.int .i64 0) (.fcons 4 (.int .i64 0) (.fcons 5 (.int .i64 0) (.fcons 6 (.bool false) .fnil)))))))) [] 0 Ak (by (simp only [Fk,seval])) (by (try simp only [IT,seval]) <;> exact q2) trivial ⟨rfl,rfl,rfl⟩
abbrev Ap:BitVec 64:=18446744073709551614#64
theorem K5 (ok:OkV M) (f g:Nat→BitVec 64) (pc xt:BitVec 64) (hpc:¬ 8192#64≤pc) (w:BitVec 64) (hw:f pc.toNat=w) (hop:AT w=28) (h2:w >>> 32 &&& 255#64=0#64) (wh:BitVec 64) (hwh:g (pF w 48) + BitVec.ofInt 64 (pN w)=wh) (hlt:¬ 8192#64≤wh) :
 Af M 70 [.ptr 0 [],.ptr 1 []] [(0,mach f g pc false xt)] 2 (Q3 .nili [(0,mach (E9 f wh.toNat (g (pF w 44))) g (pc + 1#64) false xt)] 2):=by
 refine Ac ok.k70 rfl fun x hx=>?_
 have hp:pc.toNat < 8192:=BM
 have a1:=Ai w 52
 have a2:=Ai w 48
 have a3:=Ai w 44
 have a4:=Ai w 40
 have hp2:wh.toNat < 8192:=by rw [BitVec.le_def] at hlt;simpa using hlt
 refine es 2000 ?_;(simp only [P3,Qh,Ga,hpc,hw,seval])
 repeat refine sd ?_
 have zz:=@Bb.eq_1;refine Gy (Az ok w Aa h2) ?_
 (simp only [Hi,hop,hlt,hwh,seval])
 repeat refine sd ?_
 refine ID hx [0,1] (.nili) ([(0,mach (E9 f wh.toNat (g (pF w 44))) g (pc + 1#64) false xt)]) 2 ?_
 all_goals simp only [mach,Og,LY,seval]
theorem L2 (ok:OkV M) (f g:Nat→BitVec 64) (pc xt:BitVec 64) (hpc:¬ 8192#64≤pc) (w:BitVec 64) (hw:f pc.toNat=w) (hop:AT w=27) (h2:w >>> 32 &&& 255#64=0#64) (wh:BitVec 64) (hwh:g (pF w 48) + BitVec.ofInt 64 (pN w)=wh) (hlt:¬ 8192#64≤wh) :
 Af M 70 [.ptr 0 [],.ptr 1 []] [(0,mach f g pc false xt)] 2 (Q3 .nili [(0,mach f (E9 g (pF w 52) (f wh.toNat)) (pc + 1#64) false xt)] 2):=by
 refine Ac ok.k70 rfl fun x hx=>?_
 have hp:pc.toNat < 8192:=BM
 have a1:=Ai w 52
 have a2:=Ai w 48
 have a3:=Ai w 44
 have a4:=Ai w 40
 have hp2:wh.toNat < 8192:=by rw [BitVec.le_def] at hlt;simpa using hlt
 refine es 2000 ?_;(simp only [P3,Qh,Ga,hpc,hw,seval])
 repeat refine sd ?_
 have zz:=@Bb.eq_1;refine Gy (Az ok w Aa h2) ?_
 (simp only [Hi,hop,hlt,hwh,seval])
 repeat refine sd ?_
 refine ID hx [0,1] (.nili) ([(0,mach f (E9 g (pF w 52) (f wh.toNat)) (pc + 1#64) false xt)]) 2 ?_
 all_goals simp only [mach,Og,LY,seval]
theorem Gt (ok:OkV M) (f g:Nat→BitVec 64) (pc xt:BitVec 64) (hpc:¬ 8192#64≤pc) (w:BitVec 64) (hw:f pc.toNat=w) (hop:AT w=28) (h2:w >>> 32 &&& 255#64=0#64) (wh:BitVec 64) (hwh:g (pF w 48) + BitVec.ofInt 64 (pN w)=wh) (hlt:8192#64≤wh) :
 Af M 70 [.ptr 0 [],.ptr 1 []] [(0,mach f g pc false xt)] 2 (Q3 .nili [(0,mach f g pc true Ap)] 2):=by
 refine Ac ok.k70 rfl fun x hx=>?_
 have hp:pc.toNat < 8192:=BM
 have a1:=Ai w 52
 have a2:=Ai w 48
 have a3:=Ai w 44
 have a4:=Ai w 40
 refine es 2000 ?_;(simp only [P3,Qh,Ga,hpc,hw,seval])
 repeat refine sd ?_
 have zz:=@Bb.eq_1;refine Gy (Az ok w Aa h2) ?_
 (simp only [Hi,hop,hlt,hwh,seval])
 repeat refine sd ?_
 have zz:=@mach.eq_1;refine Fl [0] (Bw ok f g pc false xt Ap) ?_
 (simp only [Ga,seval])
 repeat refine sd ?_
 refine ID hx [0,1] (.nili) ([(0,mach f g pc true Ap)]) 2 ?_
 all_goals simp only [mach,Og,LY,seval]
theorem GG (ok:OkV M) (f g:Nat→BitVec 64) (pc xt:BitVec 64) (hpc:¬ 8192#64≤pc) (w:BitVec 64) (hw:f pc.toNat=w) (hop:AT w=27) (h2:w >>> 32 &&& 255#64=0#64) (wh:BitVec 64) (hwh:g (pF w 48) + BitVec.ofInt 64 (pN w)=wh) (hlt:8192#64≤wh) :
 Af M 70 [.ptr 0 [],.ptr 1 []] [(0,mach f g pc false xt)] 2 (Q3 .nili [(0,mach f g pc true Ap)] 2):=by
 refine Ac ok.k70 rfl fun x hx=>?_
 have hp:pc.toNat < 8192:=BM
 have a1:=Ai w 52
 have a2:=Ai w 48
 have a3:=Ai w 44
 have a4:=Ai w 40
 refine es 2000 ?_;(simp only [P3,Qh,Ga,hpc,hw,seval])
 repeat refine sd ?_
 have zz:=@Bb.eq_1;refine Gy (Az ok w Aa h2) ?_
 (simp only [Hi,hop,hlt,hwh,seval])
 repeat refine sd ?_
 have zz:=@mach.eq_1;refine Fl [0] (Bw ok f g pc false xt Ap) ?_
 (simp only [Ga,seval])
 repeat refine sd ?_
 refine ID hx [0,1] (.nili) ([(0,mach f g pc true Ap)]) 2 ?_
 all_goals simp only [mach,Og,LY,seval]
theorem PM (ok:OkV M) (f g:Nat→BitVec 64) (pc xt:BitVec 64) (hpc:¬ 8192#64≤pc) (w:BitVec 64) (hw:f pc.toNat=w) (hop:AT w=26) (h2:w >>> 32 &&& 255#64=0#64) :
 Af M 70 [.ptr 0 [],.ptr 1 []] [(0,mach f g pc false xt)] 2 (Q3 .nili [(0,mach f (E9 g (pF w 52) (BitVec.ofInt 64 (pN w))) (pc + 1#64) false xt)] 2):=by
 refine Ac ok.k70 rfl fun x hx=>?_
 have hp:pc.toNat < 8192:=BM
 have a1:=Ai w 52
 have a2:=Ai w 48
 have a3:=Ai w 44
 have a4:=Ai w 40
 refine es 2000 ?_;(simp only [P3,Qh,Ga,hpc,hw,seval])
 repeat refine sd ?_
 have zz:=@Bb.eq_1;refine Gy (Az ok w Aa h2) ?_
 (simp only [Hi,hop,seval])
 repeat refine sd ?_
 refine ID hx [0,1] (.nili) ([(0,mach f (E9 g (pF w 52) (BitVec.ofInt 64 (pN w))) (pc + 1#64) false xt)]) 2 ?_
 all_goals simp only [mach,Og,LY,seval]
theorem Gu (ok:OkV M) (f g:Nat→BitVec 64) (pc xt:BitVec 64) (hpc:¬ 8192#64≤pc) (w:BitVec 64) (hw:f pc.toNat=w) (hop:AT w=0) (h2:w >>> 32 &&& 255#64=0#64) :
 Af M 70 [.ptr 0 [],.ptr 1 []] [(0,mach f g pc false xt)] 2 (Q3 .nili [(0,mach f g pc true (g (pF w 48)))] 2):=by
 refine Ac ok.k70 rfl fun x hx=>?_
 have hp:pc.toNat < 8192:=BM
 have a1:=Ai w 52
 have a2:=Ai w 48
 have a3:=Ai w 44
 have a4:=Ai w 40
 refine es 2000 ?_;(simp only [P3,Qh,Ga,hpc,hw,seval])
 repeat refine sd ?_
 have zz:=@Bb.eq_1;refine Gy (Az ok w Aa h2) ?_
 (simp only [Hi,hop,seval])
 repeat refine sd ?_
 have zz:=@mach.eq_1;refine Fl [0] (Bw ok f g pc false xt (g (pF w 48))) ?_
 (simp only [Ga,seval])
 refine ID hx [0,1] (.nili) ([(0,mach f g pc true (g (pF w 48)))]) 2 ?_
 all_goals simp only [mach,Og,LY,seval]
structure Mc where
 f:Nat→BitVec 64
 g:Nat→BitVec 64
 pc:BitVec 64
 hl:Bool
 xt:BitVec 64
def Mc.v (m:Mc):V:=mach m.f m.g m.pc m.hl m.xt
def Y1 (M:Seat) (m m':Mc):Prop:=Af M 70 [.ptr 0 [],.ptr 1 []] [(0,m.v)] 2 (Q3 .nili [(0,m'.v)] 2)
structure OkI (M:Seat):Prop extends OkV M where
structure OkI7 (M:Seat):Prop where
 k77:Al M 77 f77=true
structure OkI75 (M:Seat):Prop extends OkI7 M where
 k75:Al M 75 f75=true
theorem Wx (w:BitVec 64):pN w=if w.toNat % 4294967296 < 2147483648 then ((w.toNat % 4294967296:Nat):Int) else ((w.toNat % 4294967296:Nat):Int) - 4294967296:=by
 rw [pN,BitVec.toInt_eq_toNat_cond,BitVec.toNat_setWidth]
 split <;> split <;> omega
def rcW (op:Int) (d a b c:Nat) (n:Int):BitVec 64 :=
 ((((BitVec.ofInt 64 op * 16#64 + BitVec.ofInt 64 d) * 16#64 + BitVec.ofInt 64 a) * 16#64 + BitVec.ofInt 64 b) * 16#64 + BitVec.ofInt 64 c) * 1099511627776#64 + (BitVec.ofInt 64 n &&& 4294967295#64)
def F5 (op n:Int):Bool:=decide (0≤op∧op≤35∧-2147483648≤n∧n < 2147483648)
theorem Oa {M:Seat} (ok:OkI M) (kx:OkI7 M) (op:Int) (d a b c:Nat) (n:Int) (hd:d < 16) (ha:a < 16) (hb:b < 16) (hc:c < 16) :
 Af M 77 [.int .i64 op,.int .i64 d,.int .i64 a,.int .i64 b,.int .i64 c,.int .i64 n] [] 0 (Q3 (Ao (W (if F5 op n then rcW op d a b c n else 0#64)) (.int .i64 (if F5 op n then 0 else 2))) [] 0):=by
 refine Ac kx.k77 rfl fun x hx=>?_
 have l1:∀ q:Nat,q < 16→(((q:Int) < 0)=False):=fun q _=>eq_false Aa
 have l2:∀ q:Nat,q < 16→((15:Int) < (q:Int))=False:=fun q h=>eq_false Aa
 have w1:IntKind.i64.wrap 1=1:=rfl
 have w2:IntKind.i64.wrap 2=2:=rfl
 have w3:IntKind.i64.wrap 3=3:=rfl
 have w4:IntKind.i64.wrap 4=4:=rfl
 refine es 2000 ?_;(simp only [f77,c77,LZ,seval])
 refine AZ ?_
 refine es 2000 ?_
 (simp only [l1 d hd,l2 d hd,w1,w2,w3,w4,LZ,seval])
 repeat refine sd ?_
 refine AZ ?_
 refine es 2000 ?_
 (simp only [l1 a ha,l2 a ha,w1,w2,w3,w4,LZ,seval])
 repeat refine sd ?_
 refine AZ ?_
 refine es 2000 ?_
 (simp only [l1 b hb,l2 b hb,w1,w2,w3,w4,LZ,seval])
 repeat refine sd ?_
 refine AZ ?_
 refine es 2000 ?_
 (simp only [l1 c hc,l2 c hc,w1,w2,w3,w4,LZ,seval])
 repeat refine sd ?_
 refine AZ ?_
 refine es 2000 ?_
 by_cases h1:op < 0
 ·have e:F5 op n=false:=by simp only [F5,decide_eq_false_iff_not];omega
  (simp only [eq_true h1,e,LZ,seval])
  exact Aq.mkZ hx [] ⟨rfl,rfl,rfl⟩
 ·by_cases h2:35 < op
  ·have e:F5 op n=false:=by simp only [F5,decide_eq_false_iff_not];omega
   (simp only [eq_false h1,eq_true h2,e,LZ,seval])
   exact Aq.mkZ hx [] ⟨rfl,rfl,rfl⟩
  ·by_cases h3:n < -2147483648
   ·have e:F5 op n=false:=by simp only [F5,decide_eq_false_iff_not];omega
    (simp only [eq_false h1,eq_false h2,eq_true h3,e,LZ,seval])
    exact Aq.mkZ hx [] ⟨rfl,rfl,rfl⟩
   ·by_cases h4:2147483648≤n
    ·have e:F5 op n=false:=by simp only [F5,decide_eq_false_iff_not];omega
     (simp only [eq_false h1,eq_false h2,eq_false h3,eq_true h4,e,LZ,seval])
     exact Aq.mkZ hx [] ⟨rfl,rfl,rfl⟩
    ·have e:F5 op n=true:=by simp only [F5,decide_eq_true_eq];omega
     (simp only [eq_false h1,eq_false h2,eq_false h3,eq_false h4,e,rcW,LZ,seval])
     have zz:=@rcW.eq_1;exact Bg hx [] ⟨rfl,rfl,rfl⟩
structure In where
 op:Int
 d:Int
 a:Int
 b:Int
 c:Int
 n:Int
 raw:BitVec 64
instance:Inhabited In:=⟨⟨0,0,0,0,0,0,0#64⟩⟩
def XN (x:In):V:=.st 7 (.fcons 0 (.int .i64 x.op) (.fcons 1 (.int .i64 x.d) (.fcons 2 (.int .i64 x.a) (.fcons 3 (.int .i64 x.b) (.fcons 4 (.int .i64 x.c) (.fcons 5 (.int .i64 x.n) (.fcons 6 (W x.raw) .fnil)))))))
def Qn (d:Int):Nat:=(BitVec.ofInt 64 d % 16#64).toNat
theorem K8 (d:Int):Qn d < 16:=by rw [Qn,BitVec.toNat_umod];exact Nat.mod_lt _ Ak
theorem Nf (d:Int):(BitVec.ofInt 64 d % 16#64).toInt=(Qn d:Int):=by
 have:=K8 d
 rw [BitVec.toInt_eq_toNat_cond,if_pos (by unfold Qn at this;omega)];rfl
def G7 (x:In):BitVec 64:=if F5 x.op x.n then rcW x.op (Qn x.d) (Qn x.a) (Qn x.b) (Qn x.c) x.n else x.raw
def Hl (l:List In):V:=.lst 7 l.length (fun j=>XN (l.getD j default))
def MK:=(aq2 @Hl.eq_1 @XN.eq_1)
theorem C4 {M:Seat} (ok:OkI M) (kx:OkI75 M) (v:V) (hv:v = .nils ∨ v=Hl []):Af M 75 [v] [] 0 (Q3 .nils [] 0):=by
 refine Ac kx.k75 rfl fun x hx=>?_
 rcases hv with rfl | rfl
 ·refine es 2000 ?_;(simp only [f75,c75,LZ,seval])
  refine AZ ?_
  refine es 2000 ?_
  (simp only [LZ,seval])
  exact Aq.mkZ hx [] ⟨rfl,rfl,rfl⟩
 ·refine es 2000 ?_;(simp only [f75,c75,Hl,List.length_nil,LZ,seval])
  refine AZ ?_
  refine es 2000 ?_
  (simp only [LZ,seval])
  exact Aq.mkZ hx [] ⟨rfl,rfl,rfl⟩
theorem Rb {M:Seat} (ok:OkI M) (kx:OkI75 M) (l:List In) (h0:0 < l.length) (hl:l.length < 9223372036854775808) :
 Af M 75 [Hl l] [] 0 (Q3 (.sl 0 [] 0 (min l.length 8192) 1) [(0,.ar 1 (min l.length 8192) (fun j=>W (G7 (l.getD j default))))] 1):=by
 refine Ac kx.k75 rfl fun x hx=>?_
 refine es 2000 ?_;(simp only [f75,c75,Hl,LZ,seval])
 refine AZ ?_
 refine es 2000 ?_
 have d0:((0:Int) < (l.length:Int))=True:=eq_true Aa
 have d1:(0 < l.length)=True:=eq_true h0
 (simp only [d0,d1,XN,Nf,LZ,seval])
 have hc:=fun q:Nat=>Oa ok kx.toOkI7 (l.getD q default).op (Qn (l.getD q default).d) (Qn (l.getD q default).a) (Qn (l.getD q default).b) (Qn (l.getD q default).c) (l.getD q default).n (K8 _) (K8 _) (K8 _) (K8 _)
 refine Ah (hc 0) ?_
 have wo:∀ q:Nat,G7 (l.getD q default)=if F5 (l.getD q default).op (l.getD q default).n then rcW (l.getD q default).op (Qn (l.getD q default).d) (Qn (l.getD q default).a) (Qn (l.getD q default).b) (Qn (l.getD q default).c) (l.getD q default).n else (l.getD q default).raw:=fun q=>rfl
 have w1:IntKind.i64.wrap 1=1:=rfl
 cases he:F5 (l.getD 0 default).op (l.getD 0 default).n with
 | false =>
   have wo0:=wo 0
   rw [he] at wo0
   simp only [ZI] at wo0
   (simp only [Cb,he,w1,seval])
   refine Ag (σ:=Nat) (fun q=>1≤q∧q≤min l.length 8192) (fun q=>fr 55 [(8,Hl l),(9,.int .i64 l.length),(10,.int .i64 q),(3,.sl 0 [] 0 q 1)])
    (fun q=>[(0,.ar 1 q (fun j=>W (G7 (l.getD j default))))]) (fun _=>1) (fun q=>min l.length 8192 - q) 1 Aa ?_ ?_
   ·refine Aj.fr [832] [] hx Ax Ak ?_ ?_
    ·simp only [MK,LY,seval]
    ·simp only [LY,seval]
     intro j hj
     obtain rfl:j=0:=Aa
     rw [if_pos rfl,wo0];exact (Ds _ _ _ _ _).mpr rfl
   ·intro q ⟨hq1,hq⟩
    refine es 2000 ?_
    by_cases hqn:q=l.length
    ·have d0:((q:Int) < (l.length:Int))=False:=eq_false Aa
     (simp only [Hl,d0,LZ,seval])
     have hm:min l.length 8192=q:=Aa
     rw [hm]
     exact Aq.mkZ hx [0] ⟨rfl,rfl,rfl⟩
    ·have d0:((q:Int) < (l.length:Int))=True:=eq_true Aa
     have d1:(q < l.length)=True:=eq_true Aa
     by_cases hq8:q=8192
     ·have d2:((8192:Int)≤(q:Int))=True:=eq_true Aa
      (simp only [MK,d0,d1,d2,LZ,seval])
      repeat refine sd ?_
      have hm:min l.length 8192=q:=Aa
      rw [hm]
      exact Aq.mkZ hx [0] ⟨rfl,rfl,rfl⟩
     ·have d2:((8192:Int)≤(q:Int))=False:=eq_false Aa
      have w0:IntKind.i64.wrap ((q:Int) + 1)=((q + 1:Nat):Int):=A9
      have woq:=wo q
      (simp only [MK,Nf,d0,d1,d2,LZ,seval])
      repeat refine sd ?_
      refine Ah (hc q) ?_
      cases hk:F5 (l.getD q default).op (l.getD q default).n with
      | false =>
        rw [hk] at woq
        simp only [ZI] at woq
        (simp only [Cb,hk,w0,seval])
        repeat refine sd ?_
        refine ⟨q + 1,by omega,by omega,by omega,?_⟩
        refine Aj.fr [753] [] hx Ax Ak ?_ ?_
        ·simp only [MK,LY,seval]
        ·simp only [LY,seval]
         intro j hj
         by_cases hjq:j < q
         ·rw [if_pos hjq];exact (Ds _ _ _ _ _).mpr rfl
         ·obtain rfl:j=q:=Aa
          rw [if_neg hjq,if_pos Aa,woq];exact (Ds _ _ _ _ _).mpr rfl
      | true =>
        rw [hk] at woq
        simp only [ZI] at woq
        (simp only [Cb,hk,w0,seval])
        repeat refine sd ?_
        refine ⟨q + 1,by omega,by omega,by omega,?_⟩
        refine Aj.fr [705] [] hx Ax Ak ?_ ?_
        ·simp only [MK,LY,seval]
        ·simp only [LY,seval]
         intro j hj
         by_cases hjq:j < q
         ·rw [if_pos hjq];exact (Ds _ _ _ _ _).mpr rfl
         ·obtain rfl:j=q:=Aa
          rw [if_neg hjq,if_pos Aa,woq];exact (Ds _ _ _ _ _).mpr rfl
 | true =>
   have wo0:=wo 0
   rw [he] at wo0
   simp only [ZI] at wo0
   (simp only [Cb,he,w1,seval])
   refine Ag (σ:=Nat) (fun q=>1≤q∧q≤min l.length 8192) (fun q=>fr 55 [(8,Hl l),(9,.int .i64 l.length),(10,.int .i64 q),(3,.sl 0 [] 0 q 1)])
    (fun q=>[(0,.ar 1 q (fun j=>W (G7 (l.getD j default))))]) (fun _=>1) (fun q=>min l.length 8192 - q) 1 Aa ?_ ?_
   ·refine Aj.fr [784] [] hx Ax Ak ?_ ?_
    ·simp only [MK,LY,seval]
    ·simp only [LY,seval]
     intro j hj
     obtain rfl:j=0:=Aa
     rw [if_pos rfl,wo0];exact (Ds _ _ _ _ _).mpr rfl
   ·intro q ⟨hq1,hq⟩
    refine es 2000 ?_
    by_cases hqn:q=l.length
    ·have d0:((q:Int) < (l.length:Int))=False:=eq_false Aa
     (simp only [Hl,d0,LZ,seval])
     have hm:min l.length 8192=q:=Aa
     rw [hm]
     exact Aq.mkZ hx [0] ⟨rfl,rfl,rfl⟩
    ·have d0:((q:Int) < (l.length:Int))=True:=eq_true Aa
     have d1:(q < l.length)=True:=eq_true Aa
     by_cases hq8:q=8192
     ·have d2:((8192:Int)≤(q:Int))=True:=eq_true Aa
      (simp only [MK,d0,d1,d2,LZ,seval])
      repeat refine sd ?_
      have hm:min l.length 8192=q:=Aa
      rw [hm]
      exact Aq.mkZ hx [0] ⟨rfl,rfl,rfl⟩
     ·have d2:((8192:Int)≤(q:Int))=False:=eq_false Aa
      have w0:IntKind.i64.wrap ((q:Int) + 1)=((q + 1:Nat):Int):=A9
      have woq:=wo q
      (simp only [MK,Nf,d0,d1,d2,LZ,seval])
      repeat refine sd ?_
      refine Ah (hc q) ?_
      cases hk:F5 (l.getD q default).op (l.getD q default).n with
      | false =>
        rw [hk] at woq
        simp only [ZI] at woq
        (simp only [Cb,hk,w0,seval])
        repeat refine sd ?_
        refine ⟨q + 1,by omega,by omega,by omega,?_⟩
        refine Aj.fr [753] [] hx Ax Ak ?_ ?_
        ·simp only [MK,LY,seval]
        ·simp only [LY,seval]
         intro j hj
         by_cases hjq:j < q
         ·rw [if_pos hjq];exact (Ds _ _ _ _ _).mpr rfl
         ·obtain rfl:j=q:=Aa
          rw [if_neg hjq,if_pos Aa,woq];exact (Ds _ _ _ _ _).mpr rfl
      | true =>
        rw [hk] at woq
        simp only [ZI] at woq
        (simp only [Cb,hk,w0,seval])
        repeat refine sd ?_
        refine ⟨q + 1,by omega,by omega,by omega,?_⟩
        refine Aj.fr [705] [] hx Ax Ak ?_ ?_
        ·simp only [MK,LY,seval]
        ·simp only [LY,seval]
         intro j hj
         by_cases hjq:j < q
         ·rw [if_pos hjq];exact (Ds _ _ _ _ _).mpr rfl
         ·obtain rfl:j=q:=Aa
          rw [if_neg hjq,if_pos Aa,woq];exact (Ds _ _ _ _ _).mpr rfl
def TX (n:Nat) (u:Nat→BitVec 64) (j:Nat):BitVec 64:=if j < n then u j else 0#64
theorem RC {M:Seat} (okA:OkM M) (n:Nat) (hn:n≤8192) (u:Nat→BitVec 64):Af M 74 [.lst 1 n (fun j=>W (u j))] [] 0 (Q3 (Ao (.ptr 0 []) .nili) [(0,mach (TX n u) (fun _=>0#64) 0#64 false 0#64)] 1):=by
 refine Ac okA.k74 rfl fun x hx=>?_
 have e0:((8192:Int) < (n:Int))=False:=eq_false Aa
 have m1:min n 8192=n:=Aa
 have m2:∀ i:Nat,(0≤i)=True:=fun i=>eq_true (Nat.zero_le i)
 refine es 2000 ?_;(simp only [f74,c74,e0,m1,m2,LZ,seval])
 have zz:=aq3 @mach.eq_1 @TX.eq_1 @JZ;exact Bg hx [96] ⟨rfl,rfl,rfl⟩
structure OkW (M:Seat):Prop extends OkI M where
 k215:Al M 215 Ua=true
def i32 (n:Int):Int:=if n % 4294967296 ≥ 2147483648 then n % 4294967296 - 4294967296 else n % 4294967296
variable {M:Seat}
structure OkO (M:Seat):Prop extends OkW M where
 k308:Al M 308 Aia=true
 k327:Al M 327 ZF=true
 k326:Al M 326 Ad2=true
 k217:Al M 217 Li=true
theorem AY (ok:OkO M) (a b:BitVec 64):Af M 326 [W a,W b] [] 0 (Q3 (.bool (decide (a≤8192#64) && decide (b≤8192#64 - a))) [] 0):=by
 refine Ac ok.k326 rfl fun x hx=>?_
 rcases Classical.propComplete (a≤8192#64) with h | h
 all_goals refine es 2000 ?_;(simp only [Ad2,Ajw,h,LZ,seval])
 all_goals try simp only [h,decide_true,decide_false,Bool.true_and,Bool.false_and]
 all_goals exact Aq.mkZ hx [] ⟨rfl,rfl,rfl⟩
def Jp (p:Nat→BitVec 8):Nat→BitVec 64
 | 0=>0
 | k + 1=>(Jp p k <<< (8#64).toNat) ||| (p k).setWidth 64
theorem Dh (ok:OkO M) (n:Nat) (hn:8≤n) (p:Nat→BitVec 8):Af M 308 [.lst 1 n (fun j=>B (p j))] [] 0 (Q3 (W (Jp p 8)) [] 0):=by
 refine Ac ok.k308 rfl fun x hx=>?_
 refine es 2000 ?_;(simp only [Aia,Alj,BA,seval])
 repeat refine sd ?_
 refine Ag (σ:=Nat) (fun i=>i≤8) (fun i=>fr 20 [(7,.lst 1 8 fun j=>B (p j)),(8,.int .i64 8),(9,.int .i64 i),(3,W (Jp p i))]) (fun _=>[]) (fun _=>0) (fun i=>8 - i) 0 Aa ?_ ?_
 ·refine Aj.fr [] [] hx Ax Ak ?_ ?_
  ·simp only [Jp,LY,seval]
  ·trivial
 ·intro i hi
  refine es 2000 ?_
  by_cases h8:i=8
  ·subst h8
   (simp only [LZ,seval])
   exact Aq.mkZ hx [] ⟨rfl,rfl,rfl⟩
  ·have d0:((i:Int) < 8)=True:=eq_true Aa
   have w0:IntKind.i64.wrap ((i:Int) + 1)=((i + 1:Nat):Int):=A9
   (simp only [d0,w0,LZ,seval])
   repeat refine sd ?_
   refine ⟨i + 1,by omega,by omega,?_⟩
   refine Aj.fr [] [] hx Ax Ak ?_ ?_
   ·simp only [Jp,LY,seval]
   ·trivial
def V7 (w:BitVec 64) (j:Nat):BitVec 8:=(w >>> (56 - 8 * j)).setWidth 8
theorem Md (hc:Al M 312 UJ=true) (w:BitVec 64) :
 Af M 312 [.sl 0 [] 0 8 1,W w] [(0,.ar 1 8 fun _=>B 0#8)] 1 (Q3 (.tup .fnil) [(0,.ar 1 8 fun j=>B (if j < 8 then V7 w j else 0#8))] 1):=by
 have h:=JU hc 8 0 8 (fun _=>0) (w.toNat:Int) Aa Aa Aa
 have e:(fun j=>V.int .u8 (if 0≤j∧j < 0 + 8 then Zl (w.toNat:Int) (j - 0) else 0))=(fun j=>B (if j < 8 then V7 w j else 0#8)):=by
  funext j
  by_cases hj:j < 8
  ·rw [if_pos hj,if_pos Aa];exact XM w j
  ·rw [if_neg hj,if_neg Aa];rfl
 rw [e] at h
 exact h
theorem CX (okA:OkM M) (ok:OkO M) (w:BitVec 64) :
 Af M 327 [.nils,W w] [] 0 (Q3 (.sl 0 [] 0 8 1) [(0,.ar 1 8 fun j=>B (V7 w j))] 1):=by
 refine Ac ok.k327 rfl fun x hx=>?_
 refine es 2000 ?_;(simp only [ZF,Ah3,BA,seval])
 repeat refine sd ?_
 refine Tc [16] (Md okA.k312 w) ?_
 (simp only [LZ,seval])
 repeat refine sd ?_
 refine ID hx [112] (.sl 0 [] 0 8 1) ([(0,.ar 1 8 fun j=>B (V7 w j))]) 1 ?_
 simp only [LY,seval]
 intro i hi
 rw [if_pos hi]
theorem CZ (okA:OkM M) (ok:OkO M) (n:Nat) (hn:n≤64) (p:Nat→BitVec 8) (w:BitVec 64) :
 Af M 327 [.sl 0 [] 0 n 1,W w] [(0,.ar 1 n (fun j=>B (p j)))] 1 (Q3 (.sl 1 [] 0 (n + 8) 1) [(1,.ar 1 (n + 8) fun j=>B (if j < n then p j else V7 w (j - n)))] 2):=by
 refine Ac ok.k327 rfl fun x hx=>?_
 refine es 2000 ?_;(simp only [ZF,Ah3,BA,seval])
 repeat refine sd ?_
 refine Tc [17] (Md okA.k312 w) ?_
 (simp only [LZ,seval])
 repeat refine sd ?_
 refine ID hx [0,113] (.sl 1 [] 0 (n + 8) 1) ([(1,.ar 1 (n + 8) fun j=>B (if j < n then p j else V7 w (j - n)))]) 2 ?_
 simp only [LY,seval]
 intro i hi
 by_cases h:i < n
 ·rw [if_pos h,if_pos h];simp only [B,LY,seval]
 ·rw [if_neg h,if_neg h,if_pos Aa];simp only [B,LY,seval]
def A6 (f:Nat→BitVec 64) (j:Nat):BitVec 8:=V7 (f (j / 8)) (j % 8)
theorem N9 {M:Seat} (okA:OkM M) (ok:OkO M) (w:WS) (l:List (Dg × Bool)) (f g:Nat→BitVec 64) (pc xt:BitVec 64) (a b:BitVec 64) (ha:a.toNat + 8≤8192) (hb:b.toNat + 4≤8192) :
 Af M 217 [.ptr 5 [],.ptr 0 [],.int .i64 34,W a,W b] (AF w .nils l ++ [(5,mach f g pc false xt)]) 6
  (Q3 (.bool true) (AF (w.add (Pr.mk' (A6 fun j=>f (a.toNat + j)))) .nils l ++ [(5,mach (fun j=>if b.toNat≤j∧j < b.toNat + 4 then Jp (fun i=>(B9 (Pr.mk' (A6 fun j=>f (a.toNat + j))).at).at (8 * (j - b.toNat) + i)) 8 else f j) g pc false xt)]) 6):=by
 refine Ac ok.k217 rfl fun x hx=>?_
 have h1:(decide (a≤8192#64) && decide (8#64≤8192#64 - a))=true:=by
  have:a.toNat≤8192:=Aa
  simp only [Lao,decide_eq_true_eq];omega
 have h2:(decide (b≤8192#64) && decide (4#64≤8192#64 - b))=true:=by
  have:b.toNat≤8192:=Aa
  simp only [Lao,decide_eq_true_eq];omega
 refine es 2000 ?_;(simp only [Li,Nc,Gl,seval])
 refine Ah (AY ok a 8#64) ?_
 (simp only [h1,LZ,seval])
 refine Ah (AY ok b 4#64) ?_
 (simp only [h2,LZ,seval])
 have e8:(a + 8#64).toNat=a.toNat + 8:=Ajs
 rw [e8,Nat.add_sub_cancel_left]
 repeat refine sd ?_
 refine AZ ?_
 refine es 2000 ?_
 (simp only [BA,seval])
 repeat refine sd ?_
 refine Gh (CX okA ok (f (a.toNat + 0))) ?_
 (simp only [BA,seval])
 repeat refine sd ?_
 have w1:IntKind.i64.wrap 1=1:=Ak
 rw [w1]
 refine Ag (σ:=Nat) (fun i=>1≤i∧i≤8) (fun i=>fr 94 [(0,.ptr 5 []),(1,.ptr 0 []),(2,.int .i64 34),(4,W b),(12,W 4#64),(13,.sl 6 [] 0 (8 * i) 1),(43,.sl 5 [Stp.f 0] a.toNat 8 1),(44,.int .i64 8),(45,.int .i64 i)])
  (fun i=>AF w .nils l ++ [(5,mach f g pc false xt),(6,.ar 1 (8 * i) fun j=>B (A6 (fun j=>f (a.toNat + j)) j))]) (fun _=>7) (fun i=>8 - i) 1 Aa ?_ ?_
 ·refine Aj.fr [0,1,2,3,4,5,518] [] hx Ax Ak ?_ ?_
  ·simp only [LY,seval]
  ·simp only [IK,Bo,CF,seval]
   intro i hi
   have q1:i / 8=0:=Aa
   have q2:i % 8=i:=Aa
   simp only [A6,q1,q2,Nat.add_zero]
 ·rintro i ⟨hi1,hi⟩
  refine es 2000 ?_
  by_cases h8:i=8
  ·subst h8
   (simp only [Gl,seval])
   repeat refine sd ?_
   have hP:∀ j,j < 64→(Pr.mk' (A6 fun j=>f (a.toNat + j))).at j=A6 (fun j=>f (a.toNat + j)) j:=fun j hj=>Pr.at_mk' _ _ hj
   generalize Pr.mk' (A6 fun j=>f (a.toNat + j))=P at *
   have hA:Af M 212 [.ptr 0 [],At P] _ _ _:=Mx okA ok.toOkS w P
   generalize hw':w.add P=w' at *
   clear hw'
   generalize B9 P.at=D at *
   refine Xi [0,1,2,3,4] [0,1,2,3] (hA) (by constructor <;> (try simp only [Fo,Nw,At,CF,seval]) <;> first | exact q1 | (exact fun j hj=>(hP j hj).symm)) (by simp only [Fo,Nw,At,C6,LX]) ?_
   (simp only [Gw,Fo,Nw,AR,seval])
   refine Ag (σ:=Nat) (fun i=>i≤4) (fun i=>fr 94 [(0,.ptr 5 []),(4,W b),(16,.sl 7 [] 0 32 1),(77,W 4#64),(78,W (BitVec.ofNat 64 i))])
    (fun i=>AF w' .nils l ++ [(5,mach (fun j=>if b.toNat≤j∧j < b.toNat + i then Jp (fun i=>D.at (8 * (j - b.toNat) + i)) 8 else f j) g pc false xt),(7,dg D)]) (fun _=>8) (fun i=>4 - i) 0 Aa ?_ ?_
   ·refine Aj.fr [0,1,2,3,4,5,6,199] [] hx Ax Ak ?_ ?_
    ·simp only [LY,seval]
    ·simp only [IK,Bo,CF,seval]
     exact fun i _=>(if_neg Aa).symm
   ·intro i hi
    refine es 2000 ?_
    by_cases h4:i=4
    ·subst h4
     (simp only [Gl,seval])
     have zz:=aq2 @Bo @C6;exact Bg hx [0,1,2,3,4,5] ⟨rfl,rfl,rfl⟩
    ·have t1:(BitVec.ofNat 64 i).toNat=i:=HG
     have d0:(BitVec.ofNat 64 i < 4#64)=True:=eq_true (by rw [BitVec.lt_def,t1];show i < 4;omega)
     have t2:(8#64 * BitVec.ofNat 64 i).toNat=8 * i:=Q1
     have t3:(b + BitVec.ofNat 64 i).toNat=b.toNat + i:=U9
     have t4:BitVec.ofNat 64 i + 1#64=BitVec.ofNat 64 (i + 1):=TC
     (simp only [d0,t2,t3,t4,Gl,seval])
     repeat refine sd ?_
     refine Y9 (Dh ok (32 - 8 * i) Aa (fun j=>D.at (8 * i + j))) (by (try simp only [dg,CF,seval]) <;> first | exact q1 | ((show 8 * i + (32 - 8 * i)≤32;omega))) (by simp only [dg,C6,LX]) ?_
     (simp only [t2,t3,t4,BA,seval])
     repeat refine sd ?_
     refine ⟨i + 1,by omega,by omega,?_⟩
     refine Aj.fr [0,1,2,3,4,5,6,7] [] hx Ax Ak ?_ ?_
     ·simp only [LY,seval]
     ·simp only [Bo,CF,seval]
      intro q hq
      by_cases e:q=b.toNat + i
      ·subst e
       rw [if_pos rfl,if_pos Aa,Nat.add_sub_cancel_left];simp only [W,LY,seval]
      ·rw [if_neg e]
       by_cases e2:b.toNat≤q∧q < b.toNat + i
       ·rw [if_pos Aa,if_pos e2];simp only [W,LY,seval]
       ·rw [if_neg Aa,if_neg e2];simp only [W,LY,seval]
  ·have d0:((i:Int) < 8)=True:=eq_true Aa
   have w0:IntKind.i64.wrap ((i:Int) + 1)=((i + 1:Nat):Int):=A9
   have n0:(0:Int)≤(i:Int):=Aa
   (simp only [d0,w0,Gl,seval])
   repeat refine sd ?_
   have zz:=@C6;refine Fl [6] (CZ okA ok (8 * i) Aa (A6 fun j=>f (a.toNat + j)) (f (a.toNat + i))) ?_
   (simp only [BA,w0,seval])
   repeat refine sd ?_
   refine ⟨i + 1,by omega,by omega,by omega,?_⟩
   have e88:8 * (i + 1)=8 * i + 8:=Aa
   rw [e88]
   refine Aj.fr [0,1,2,3,4,5,103] [] hx Ax Ak ?_ ?_
   ·simp only [LY,seval]
   ·simp only [Bo,CF,seval]
    intro q hq
    by_cases e:q < 8 * i
    ·rw [if_pos e]
    ·have e1:q / 8=i:=Aa
     have e2:q % 8=q - 8 * i:=Aa
     rw [if_neg e,A6,e1,e2]
end Mv
