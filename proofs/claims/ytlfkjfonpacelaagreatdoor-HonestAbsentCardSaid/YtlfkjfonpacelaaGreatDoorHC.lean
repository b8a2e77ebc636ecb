/- A part. -/
import Derived.Test.YtlfkjfonpacelaaGreatDoorHB
set_option linter.all false
set_option maxRecDepth 20000
set_option maxHeartbeats 4000000
namespace Mv
open Go
variable {M:Seat}
theorem DB (ok:OkV M) (f g:Nat→BitVec 64) (pc xt:BitVec 64) :
 Ae M 70 [.ptr 0 [],.ptr 1 []] [(0,mach f g pc true xt)] 2 (Q3 .nili [(0,mach f g pc true xt)] 2):=by
 refine Ab ok.k70 rfl fun x hx=>?_
 refine es 2000 ?_;(simp only [PU,PR,C7,seval])
 refine Lg hx [0,1] (.nili) ([(0,mach f g pc true xt)]) 2 ?_
 all_goals simp only [mach,LY,seval]
theorem HH (ok:OkV M) (f g:Nat→BitVec 64) (pc xt:BitVec 64) (hpc:8192#64≤pc) :
 Ae M 70 [.ptr 0 [],.ptr 1 []] [(0,mach f g pc false xt)] 2 (Q3 .nili [(0,mach f g pc true A9)] 2):=by
 refine Ab ok.k70 rfl fun x hx=>?_
 refine es 2000 ?_;(simp only [PU,PR,C7,eq_true hpc,seval])
 have zz:=@mach.eq_1;refine G2 [0] (B9 ok f g pc false xt A9) ?_
 (simp only [C7,seval])
 refine Lg hx [0,1] (.nili) ([(0,mach f g pc true A9)]) 2 ?_
 all_goals simp only [mach,LY,seval]
theorem HB (ok:OkV M) (f g:Nat→BitVec 64) (pc xt:BitVec 64) (hpc:¬ 8192#64≤pc) (w:BitVec 64) (hw:f pc.toNat=w) (h:¬ (BP w≤35∧w >>> 32 &&& 255#64=0#64)) :
 Ae M 70 [.ptr 0 [],.ptr 1 []] [(0,mach f g pc false xt)] 2 (Q3 .nili [(0,mach f g pc true A9)] 2):=by
 refine Ab ok.k70 rfl fun x hx=>?_
 have hp:pc.toNat < 8192:=Gh
 refine es 2000 ?_;(simp only [PU,PR,C7,hpc,hw,seval])
 repeat refine sd ?_
 refine Bh (Hv ok w h) ?_
 (simp only [LZ,seval])
 have zz:=@mach.eq_1;refine G2 [0] (B9 ok f g pc false xt A9) ?_
 (simp only [C7,seval])
 refine Lg hx [0,1] (.nili) ([(0,mach f g pc true A9)]) 2 ?_
 all_goals simp only [mach,LY,seval]
def PS (op:Nat) (f g:Nat→BitVec 64) (pc xt:BitVec 64) (d a:Nat) (to:BitVec 64):V :=
 if (op=30∧¬ g a=0#64) ∨ (op=31∧g a=0#64) then mach f g (pc + 1#64) false xt
 else if 8192#64≤(if op=33 then g a else to) then mach f g pc true A9
 else mach f (if op=32 then IS g d (pc + 1#64) else g) (if op=33 then g a else to) false xt
theorem Tj (ok:OkV M) (op:Nat) (ho:op=29 ∨ op=30 ∨ op=31 ∨ op=32 ∨ op=33) (f g:Nat→BitVec 64) (pc xt:BitVec 64) (d a:Nat) (hd:d < 16) (ha:a < 16) (to:BitVec 64) :
 Ae M 216 [.ptr 0 [],.int .i64 op,.int .i64 d,.int .i64 a,W to] [(0,mach f g pc false xt)] 1 (Q3 (.tup .fnil) [(0,PS op f g pc xt d a to)] 1):=by
 refine Ab ok.k216 rfl fun x hx=>?_
 by_cases h0:g a=0#64 <;> by_cases h1:8192#64≤to <;> by_cases h2:8192#64≤g a <;> rcases ho with rfl | rfl | rfl | rfl | rfl
 all_goals simp only [PS,h0,h1,h2,seval,Lb9,true_and,false_and,or_false,not_false_eq_true,false_or]
 all_goals refine es 2000 ?_;(simp only [Ajh,Akk,C7,h0,h1,h2,Int.cast_ofNat_Int,seval])
 all_goals repeat refine sd ?_
 all_goals try ((have zz:=Bo @mach.eq_1 Tx;exact Bu hx [0] ⟨rfl,rfl,rfl⟩))
 all_goals
  have zz:=@mach.eq_1;refine G2 [0] (B9 ok f g pc false xt A9) ?_
  (simp only [C7,seval])
  have zz:=Bo @mach.eq_1 Tx;exact Bu hx [0] ⟨rfl,rfl,rfl⟩
theorem Cw (ok:OkV M) (op:Nat) (ho:op=29 ∨ op=30 ∨ op=31 ∨ op=32 ∨ op=33) (f g:Nat→BitVec 64) (pc xt:BitVec 64) (hpc:¬ 8192#64≤pc) (w:BitVec 64) (hw:f pc.toNat=w) (hop:BP w=op) (h2:w >>> 32 &&& 255#64=0#64) :
 Ae M 70 [.ptr 0 [],.ptr 1 []] [(0,mach f g pc false xt)] 2 (Q3 .nili [(0,PS op f g pc xt (pF w 52) (pF w 48) (BitVec.ofInt 64 (pN w)))] 2):=by
 refine Ab ok.k70 rfl fun x hx=>?_
 have hp:pc.toNat < 8192:=Gh
 have a1:=Ap w 52
 have a2:=Ap w 48
 have d1:((op:Int)=0)=False:=eq_false Aa
 have d2:((op:Int) < 26)=False:=eq_false Aa
 have d3:((op:Int)=26)=False:=eq_false Aa
 have d4:((op:Int)=27)=False:=eq_false Aa
 have d5:((op:Int)=28)=False:=eq_false Aa
 have d6:((op:Int) < 34)=True:=eq_true Aa
 refine es 2000 ?_;(simp only [PU,PR,C7,hpc,hw,seval])
 repeat refine sd ?_
 have zz:=@Bg.eq_1;refine KZ (A6 ok w Aa h2) ?_
 (simp only [GR,hop,d1,d2,d3,d4,d5,d6,seval])
 repeat refine sd ?_
 have hS:∀ H m z,At H m z (PS op f g pc xt (pF w 52) (pF w 48) (BitVec.ofInt 64 (pN w))) (PS op f g pc xt (pF w 52) (pF w 48) (BitVec.ofInt 64 (pN w))):=by
  intro H m z
  unfold PS
  repeat' split
  all_goals simp only [mach,LY,seval]
 have hN:A7 (PS op f g pc xt (pF w 52) (pF w 48) (BitVec.ofInt 64 (pN w))):=by
  unfold PS
  repeat' split
  all_goals simp only [mach,A7,R2,implies_true,and_self]
 have hR:∀ m,(PS op f g pc xt (pF w 52) (pF w 48) (BitVec.ofInt 64 (pN w))).ren m=PS op f g pc xt (pF w 52) (pF w 48) (BitVec.ofInt 64 (pN w)):=by
  intro m
  unfold PS
  repeat' split
  all_goals rfl
 have zz:=Bo @mach.eq_1 hN;refine G2 [0] (Tj ok op ho f g pc xt (pF w 52) (pF w 48) Aa Aa (BitVec.ofInt 64 (pN w))) ?_
 (simp only [hR,LZ,seval])
 have zz:=hS;exact Bu hx [0,1] ⟨rfl,rfl,rfl⟩
structure Mc where
 f:Nat→BitVec 64
 g:Nat→BitVec 64
 pc:BitVec 64
 hl:Bool
 xt:BitVec 64
def Mc.v (m:Mc):V:=mach m.f m.g m.pc m.hl m.xt
def Ih (M:Seat) (m m':Mc):Prop:=Ae M 70 [.ptr 0 [],.ptr 1 []] [(0,m.v)] 2 (Q3 .nili [(0,m'.v)] 2)
theorem Xs {M:Seat} (ok:OkV M) (ms:Nat→Mc) (k n:Nat) (hk:k≤n) (hn:n < 9223372036854775808) (hs:∀ i,i < k→(ms i).hl=false∧Ih M (ms i) (ms (i + 1))) (he:(ms k).hl=true ∨ k=n) :
 Ae M 71 [.ptr 0 [],.ptr 1 [],.int .i64 n] [(0,(ms 0).v)] 2 (Q3 (Ag (.int .i64 k) .nili) [(0,(ms k).v)] 2):=by
 refine Ab ok.k71 rfl fun x hx=>?_
 have e0:((n:Int) < 0)=False:=eq_false Aa
 have hS:∀ (m:Mc) H a z,At H a z m.v m.v:=fun m H a z=>by simp only [Mc.v,mach,LY,seval]
 have hN:∀ m:Mc,A7 m.v:=fun m=>by simp only [Mc.v,mach,A7,R2,implies_true,and_self]
 have hR:∀ (m:Mc) a,m.v.ren a=m.v:=fun m a=>rfl
 refine es 2000 ?_;(simp only [f71,c71,e0,LZ,seval])
 refine An (σ:=Nat) (fun i=>i≤k) (fun i=>fr 37 [(0,.ptr 0 []),(1,.ptr 1 []),(2,.int .i64 n),(8,.int .i64 i)]) (fun i=>[(0,(ms i).v)]) (fun _=>2) (fun i=>k - i) 0 Aa ?_ ?_
 ·refine Ao.fr [0,1] [] hx AX Am ?_ ?_
  ·simp only [LY,seval]
  ·simp only [hS,LY,seval]
 ·intro i hi
  refine es 2000 ?_
  by_cases hik:i=k
  ·subst hik
   rcases he with he | he
   ·by_cases hin:i < n
    ·have d0:((i:Int) < (n:Int))=True:=eq_true Aa
     (simp only [d0,Mc.v,C7,he,seval])
     have zz:=CX @Mc.v.eq_1 @mach.eq_1 he;exact Bu hx [0,1] ⟨rfl,rfl,rfl⟩
    ·have d0:((i:Int) < (n:Int))=False:=eq_false Aa
     (simp only [d0,Mc.v,C7,seval])
     have zz:=Bo @Mc.v.eq_1 @mach.eq_1;exact Bu hx [0,1] ⟨rfl,rfl,rfl⟩
   ·have d0:((i:Int) < (n:Int))=False:=eq_false Aa
    (simp only [d0,Mc.v,C7,seval])
    have zz:=Bo @Mc.v.eq_1 @mach.eq_1;exact Bu hx [0,1] ⟨rfl,rfl,rfl⟩
  ·obtain ⟨h1,h2⟩:=hs i Aa
   have d0:((i:Int) < (n:Int))=True:=eq_true Aa
   have w0:IntKind.i64.wrap ((i:Int) + 1)=((i + 1:Nat):Int):=Br
   have hv:(ms i).v=mach (ms i).f (ms i).g (ms i).pc (ms i).hl (ms i).xt:=rfl
   rw [hv]
   (simp only [d0,C7,h1,seval])
   have hst:=h2
   unfold Ih at hst
   rw [hv,h1] at hst
   have zz:=Bo @mach.eq_1 hN;refine cbY [0,1] [0] (hst) ?_
   (simp only [hR,w0,LZ,seval])
   refine ⟨i + 1,by omega,by omega,?_⟩
   refine Ao.fr [0,1] [] hx AX Am ?_ ?_
   ·simp only [LY,seval]
   ·simp only [hS,LY,seval]
structure OkI (M:Seat):Prop extends OkV M where
structure OkI7 (M:Seat):Prop where
 k77:Ar M 77 f77=true
structure OkI75 (M:Seat):Prop extends OkI7 M where
 k75:Ar M 75 f75=true
def rcW (op:Int) (d a b c:Nat) (n:Int):BitVec 64 :=
 ((((BitVec.ofInt 64 op * 16#64 + BitVec.ofInt 64 d) * 16#64 + BitVec.ofInt 64 a) * 16#64 + BitVec.ofInt 64 b) * 16#64 + BitVec.ofInt 64 c) * 1099511627776#64 + (BitVec.ofInt 64 n &&& 4294967295#64)
def F5 (op n:Int):Bool:=decide (0≤op∧op≤35∧-2147483648≤n∧n < 2147483648)
theorem M9 {M:Seat} (ok:OkI M) (kx:OkI7 M) (op:Int) (d a b c:Nat) (n:Int) (hd:d < 16) (ha:a < 16) (hb:b < 16) (hc:c < 16) :
 Ae M 77 [.int .i64 op,.int .i64 d,.int .i64 a,.int .i64 b,.int .i64 c,.int .i64 n] [] 0 (Q3 (Ag (W (if F5 op n then rcW op d a b c n else 0#64)) (.int .i64 (if F5 op n then 0 else 2))) [] 0):=by
 refine Ab kx.k77 rfl fun x hx=>?_
 have l1:∀ q:Nat,q < 16→(((q:Int) < 0)=False):=fun q _=>eq_false Aa
 have l2:∀ q:Nat,q < 16→((15:Int) < (q:Int))=False:=fun q h=>eq_false Aa
 have w1:IntKind.i64.wrap 1=1:=rfl
 have w2:IntKind.i64.wrap 2=2:=rfl
 have w3:IntKind.i64.wrap 3=3:=rfl
 have w4:IntKind.i64.wrap 4=4:=rfl
 refine es 2000 ?_;(simp only [f77,c77,LZ,seval])
 refine Aj ?_
 refine es 2000 ?_
 (simp only [l1 d hd,l2 d hd,w1,w2,w3,w4,LZ,seval])
 repeat refine sd ?_
 refine Aj ?_
 refine es 2000 ?_
 (simp only [l1 a ha,l2 a ha,w1,w2,w3,w4,LZ,seval])
 repeat refine sd ?_
 refine Aj ?_
 refine es 2000 ?_
 (simp only [l1 b hb,l2 b hb,w1,w2,w3,w4,LZ,seval])
 repeat refine sd ?_
 refine Aj ?_
 refine es 2000 ?_
 (simp only [l1 c hc,l2 c hc,w1,w2,w3,w4,LZ,seval])
 repeat refine sd ?_
 refine Aj ?_
 refine es 2000 ?_
 by_cases h1:op < 0
 ·have e:F5 op n=false:=by simp only [F5,decide_eq_false_iff_not];omega
  (simp only [eq_true h1,e,LZ,seval])
  exact Aq.mkZ hx [] ⟨rfl,rfl,rfl⟩
 ·by_cases h2:35 < op
  ·have e:F5 op n=false:=by simp only [F5,decide_eq_false_iff_not];omega
   (simp only [eq_false h1,eq_true h2,e,LZ,seval])
   exact Aq.mkZ hx [] ⟨rfl,rfl,rfl⟩
  ·by_cases h3:n < -2147483648
   ·have e:F5 op n=false:=by simp only [F5,decide_eq_false_iff_not];omega
    (simp only [eq_false h1,eq_false h2,eq_true h3,e,LZ,seval])
    exact Aq.mkZ hx [] ⟨rfl,rfl,rfl⟩
   ·by_cases h4:2147483648≤n
    ·have e:F5 op n=false:=by simp only [F5,decide_eq_false_iff_not];omega
     (simp only [eq_false h1,eq_false h2,eq_false h3,eq_true h4,e,LZ,seval])
     exact Aq.mkZ hx [] ⟨rfl,rfl,rfl⟩
    ·have e:F5 op n=true:=by simp only [F5,decide_eq_true_eq];omega
     (simp only [eq_false h1,eq_false h2,eq_false h3,eq_false h4,e,rcW,LZ,seval])
     have zz:=@rcW.eq_1;exact Bu hx [] ⟨rfl,rfl,rfl⟩
structure In where
 op:Int
 d:Int
 a:Int
 b:Int
 c:Int
 n:Int
 raw:BitVec 64
instance:Inhabited In:=⟨⟨0,0,0,0,0,0,0#64⟩⟩
def Qx (x:In):V:=.st 7 (.fcons 0 (.int .i64 x.op) (.fcons 1 (.int .i64 x.d) (.fcons 2 (.int .i64 x.a) (.fcons 3 (.int .i64 x.b) (.fcons 4 (.int .i64 x.c) (.fcons 5 (.int .i64 x.n) (.fcons 6 (W x.raw) .fnil)))))))
def PX (d:Int):Nat:=(BitVec.ofInt 64 d % 16#64).toNat
theorem JB (d:Int):PX d < 16:=by rw [PX,BitVec.toNat_umod];exact Nat.mod_lt _ Am
theorem MX (d:Int):(BitVec.ofInt 64 d % 16#64).toInt=(PX d:Int):=by
 have:=JB d
 rw [BitVec.toInt_eq_toNat_cond,if_pos (by unfold PX at this;omega)];rfl
def G0 (x:In):BitVec 64:=if F5 x.op x.n then rcW x.op (PX x.d) (PX x.a) (PX x.b) (PX x.c) x.n else x.raw
def Ha (l:List In):V:=.lst 7 l.length (fun j=>Qx (l.getD j default))
def T8:=(Bo @Ha.eq_1 @Qx.eq_1)
theorem Lo {M:Seat} (ok:OkI M) (kx:OkI75 M) (v:V) (hv:v = .nils ∨ v=Ha []):Ae M 75 [v] [] 0 (Q3 .nils [] 0):=by
 refine Ab kx.k75 rfl fun x hx=>?_
 rcases hv with rfl | rfl
 ·refine es 2000 ?_;(simp only [f75,c75,LZ,seval])
  refine Aj ?_
  refine es 2000 ?_
  (simp only [LZ,seval])
  exact Aq.mkZ hx [] ⟨rfl,rfl,rfl⟩
 ·refine es 2000 ?_;(simp only [f75,c75,Ha,List.length_nil,LZ,seval])
  refine Aj ?_
  refine es 2000 ?_
  (simp only [LZ,seval])
  exact Aq.mkZ hx [] ⟨rfl,rfl,rfl⟩
theorem QD {M:Seat} (ok:OkI M) (kx:OkI75 M) (l:List In) (h0:0 < l.length) (hl:l.length < 9223372036854775808) :
 Ae M 75 [Ha l] [] 0 (Q3 (.sl 0 [] 0 (min l.length 8192) 1) [(0,.ar 1 (min l.length 8192) (fun j=>W (G0 (l.getD j default))))] 1):=by
 refine Ab kx.k75 rfl fun x hx=>?_
 refine es 2000 ?_;(simp only [f75,c75,Ha,LZ,seval])
 refine Aj ?_
 refine es 2000 ?_
 have d0:((0:Int) < (l.length:Int))=True:=eq_true Aa
 have d1:(0 < l.length)=True:=eq_true h0
 (simp only [d0,d1,Qx,MX,LZ,seval])
 have hc:=fun q:Nat=>M9 ok kx.toOkI7 (l.getD q default).op (PX (l.getD q default).d) (PX (l.getD q default).a) (PX (l.getD q default).b) (PX (l.getD q default).c) (l.getD q default).n (JB _) (JB _) (JB _) (JB _)
 refine Al (hc 0) ?_
 have wo:∀ q:Nat,G0 (l.getD q default)=if F5 (l.getD q default).op (l.getD q default).n then rcW (l.getD q default).op (PX (l.getD q default).d) (PX (l.getD q default).a) (PX (l.getD q default).b) (PX (l.getD q default).c) (l.getD q default).n else (l.getD q default).raw:=fun q=>rfl
 have w1:IntKind.i64.wrap 1=1:=rfl
 cases he:F5 (l.getD 0 default).op (l.getD 0 default).n with
 | false =>
   have wo0:=wo 0
   rw [he] at wo0
   simp only [E4] at wo0
   (simp only [BU,he,w1,seval])
   refine An (σ:=Nat) (fun q=>1≤q∧q≤min l.length 8192) (fun q=>fr 55 [(8,Ha l),(9,.int .i64 l.length),(10,.int .i64 q),(3,.sl 0 [] 0 q 1)])
    (fun q=>[(0,.ar 1 q (fun j=>W (G0 (l.getD j default))))]) (fun _=>1) (fun q=>min l.length 8192 - q) 1 Aa ?_ ?_
   ·refine Ao.fr [832] [] hx AX Am ?_ ?_
    ·simp only [T8,LY,seval]
    ·simp only [LY,seval]
     intro j hj
     obtain rfl:j=0:=Aa
     rw [if_pos rfl,wo0];exact (Eo _ _ _ _ _).mpr rfl
   ·intro q ⟨hq1,hq⟩
    refine es 2000 ?_
    by_cases hqn:q=l.length
    ·have d0:((q:Int) < (l.length:Int))=False:=eq_false Aa
     (simp only [Ha,d0,LZ,seval])
     have hm:min l.length 8192=q:=Aa
     rw [hm]
     exact Aq.mkZ hx [0] ⟨rfl,rfl,rfl⟩
    ·have d0:((q:Int) < (l.length:Int))=True:=eq_true Aa
     have d1:(q < l.length)=True:=eq_true Aa
     by_cases hq8:q=8192
     ·have d2:((8192:Int)≤(q:Int))=True:=eq_true Aa
      (simp only [T8,d0,d1,d2,LZ,seval])
      repeat refine sd ?_
      have hm:min l.length 8192=q:=Aa
      rw [hm]
      exact Aq.mkZ hx [0] ⟨rfl,rfl,rfl⟩
     ·have d2:((8192:Int)≤(q:Int))=False:=eq_false Aa
      have w0:IntKind.i64.wrap ((q:Int) + 1)=((q + 1:Nat):Int):=Br
      have woq:=wo q
      (simp only [T8,MX,d0,d1,d2,LZ,seval])
      repeat refine sd ?_
      refine Al (hc q) ?_
      cases hk:F5 (l.getD q default).op (l.getD q default).n with
      | false =>
        rw [hk] at woq
        simp only [E4] at woq
        (simp only [BU,hk,w0,seval])
        repeat refine sd ?_
        refine ⟨q + 1,by omega,by omega,by omega,?_⟩
        refine Ao.fr [753] [] hx AX Am ?_ ?_
        ·simp only [T8,LY,seval]
        ·simp only [LY,seval]
         intro j hj
         by_cases hjq:j < q
         ·rw [if_pos hjq];exact (Eo _ _ _ _ _).mpr rfl
         ·obtain rfl:j=q:=Aa
          rw [if_neg hjq,if_pos Aa,woq];exact (Eo _ _ _ _ _).mpr rfl
      | true =>
        rw [hk] at woq
        simp only [E4] at woq
        (simp only [BU,hk,w0,seval])
        repeat refine sd ?_
        refine ⟨q + 1,by omega,by omega,by omega,?_⟩
        refine Ao.fr [705] [] hx AX Am ?_ ?_
        ·simp only [T8,LY,seval]
        ·simp only [LY,seval]
         intro j hj
         by_cases hjq:j < q
         ·rw [if_pos hjq];exact (Eo _ _ _ _ _).mpr rfl
         ·obtain rfl:j=q:=Aa
          rw [if_neg hjq,if_pos Aa,woq];exact (Eo _ _ _ _ _).mpr rfl
 | true =>
   have wo0:=wo 0
   rw [he] at wo0
   simp only [E4] at wo0
   (simp only [BU,he,w1,seval])
   refine An (σ:=Nat) (fun q=>1≤q∧q≤min l.length 8192) (fun q=>fr 55 [(8,Ha l),(9,.int .i64 l.length),(10,.int .i64 q),(3,.sl 0 [] 0 q 1)])
    (fun q=>[(0,.ar 1 q (fun j=>W (G0 (l.getD j default))))]) (fun _=>1) (fun q=>min l.length 8192 - q) 1 Aa ?_ ?_
   ·refine Ao.fr [784] [] hx AX Am ?_ ?_
    ·simp only [T8,LY,seval]
    ·simp only [LY,seval]
     intro j hj
     obtain rfl:j=0:=Aa
     rw [if_pos rfl,wo0];exact (Eo _ _ _ _ _).mpr rfl
   ·intro q ⟨hq1,hq⟩
    refine es 2000 ?_
    by_cases hqn:q=l.length
    ·have d0:((q:Int) < (l.length:Int))=False:=eq_false Aa
     (simp only [Ha,d0,LZ,seval])
     have hm:min l.length 8192=q:=Aa
     rw [hm]
     exact Aq.mkZ hx [0] ⟨rfl,rfl,rfl⟩
    ·have d0:((q:Int) < (l.length:Int))=True:=eq_true Aa
     have d1:(q < l.length)=True:=eq_true Aa
     by_cases hq8:q=8192
     ·have d2:((8192:Int)≤(q:Int))=True:=eq_true Aa
      (simp only [T8,d0,d1,d2,LZ,seval])
      repeat refine sd ?_
      have hm:min l.length 8192=q:=Aa
      rw [hm]
      exact Aq.mkZ hx [0] ⟨rfl,rfl,rfl⟩
     ·have d2:((8192:Int)≤(q:Int))=False:=eq_false Aa
      have w0:IntKind.i64.wrap ((q:Int) + 1)=((q + 1:Nat):Int):=Br
      have woq:=wo q
      (simp only [T8,MX,d0,d1,d2,LZ,seval])
      repeat refine sd ?_
      refine Al (hc q) ?_
      cases hk:F5 (l.getD q default).op (l.getD q default).n with
      | false =>
        rw [hk] at woq
        simp only [E4] at woq
        (simp only [BU,hk,w0,seval])
        repeat refine sd ?_
        refine ⟨q + 1,by omega,by omega,by omega,?_⟩
        refine Ao.fr [753] [] hx AX Am ?_ ?_
        ·simp only [T8,LY,seval]
        ·simp only [LY,seval]
         intro j hj
         by_cases hjq:j < q
         ·rw [if_pos hjq];exact (Eo _ _ _ _ _).mpr rfl
         ·obtain rfl:j=q:=Aa
          rw [if_neg hjq,if_pos Aa,woq];exact (Eo _ _ _ _ _).mpr rfl
      | true =>
        rw [hk] at woq
        simp only [E4] at woq
        (simp only [BU,hk,w0,seval])
        repeat refine sd ?_
        refine ⟨q + 1,by omega,by omega,by omega,?_⟩
        refine Ao.fr [705] [] hx AX Am ?_ ?_
        ·simp only [T8,LY,seval]
        ·simp only [LY,seval]
         intro j hj
         by_cases hjq:j < q
         ·rw [if_pos hjq];exact (Eo _ _ _ _ _).mpr rfl
         ·obtain rfl:j=q:=Aa
          rw [if_neg hjq,if_pos Aa,woq];exact (Eo _ _ _ _ _).mpr rfl
def Ws (n:Nat) (u:Nat→BitVec 64) (j:Nat):BitVec 64:=if j < n then u j else 0#64
theorem Ru {M:Seat} (okA:OkM M) (n:Nat) (hn:n≤8192) (u:Nat→BitVec 64):Ae M 74 [.lst 1 n (fun j=>W (u j))] [] 0 (Q3 (Ag (.ptr 0 []) .nili) [(0,mach (Ws n u) (fun _=>0#64) 0#64 false 0#64)] 1):=by
 refine Ab okA.k74 rfl fun x hx=>?_
 have e0:((8192:Int) < (n:Int))=False:=eq_false Aa
 have m1:min n 8192=n:=Aa
 have m2:∀ i:Nat,(0≤i)=True:=fun i=>eq_true (Nat.zero_le i)
 refine es 2000 ?_;(simp only [f74,c74,e0,m1,m2,LZ,seval])
 have zz:=CX @mach.eq_1 @Ws.eq_1 @NW;exact Bu hx [96] ⟨rfl,rfl,rfl⟩
structure OkW (M:Seat):Prop extends OkI M where
 k215:Ar M 215 X0=true
def i32 (n:Int):Int:=if n % 4294967296 ≥ 2147483648 then n % 4294967296 - 4294967296 else n % 4294967296
variable {M:Seat}
structure OkO (M:Seat):Prop extends OkW M where
 k308:Ar M 308 Anl=true
 k327:Ar M 327 Agr=true
 k326:Ar M 326 Aks=true
 k217:Ar M 217 NG=true
theorem Bf (ok:OkO M) (a b:BitVec 64):Ae M 326 [W a,W b] [] 0 (Q3 (.bool (decide (a≤8192#64) && decide (b≤8192#64 - a))) [] 0):=by
 refine Ab ok.k326 rfl fun x hx=>?_
 rcases Classical.propComplete (a≤8192#64) with h | h
 all_goals refine es 2000 ?_;(simp only [Aks,Akg,h,LZ,seval])
 all_goals try simp only [h,decide_true,decide_false,Bool.true_and,Bool.false_and]
 all_goals exact Aq.mkZ hx [] ⟨rfl,rfl,rfl⟩
def I8 (p:Nat→BitVec 8):Nat→BitVec 64
 | 0=>0
 | k + 1=>(I8 p k <<< (8#64).toNat) ||| (p k).setWidth 64
theorem Du (ok:OkO M) (n:Nat) (hn:8≤n) (p:Nat→BitVec 8):Ae M 308 [.lst 1 n (fun j=>B (p j))] [] 0 (Q3 (W (I8 p 8)) [] 0):=by
 refine Ab ok.k308 rfl fun x hx=>?_
 refine es 2000 ?_;(simp only [Anl,Ala,B7,seval])
 repeat refine sd ?_
 refine An (σ:=Nat) (fun i=>i≤8) (fun i=>fr 20 [(7,.lst 1 8 fun j=>B (p j)),(8,.int .i64 8),(9,.int .i64 i),(3,W (I8 p i))]) (fun _=>[]) (fun _=>0) (fun i=>8 - i) 0 Aa ?_ ?_
 ·refine Ao.fr [] [] hx AX Am ?_ ?_
  ·simp only [I8,LY,seval]
  ·trivial
 ·intro i hi
  refine es 2000 ?_
  by_cases h8:i=8
  ·subst h8
   (simp only [LZ,seval])
   exact Aq.mkZ hx [] ⟨rfl,rfl,rfl⟩
  ·have d0:((i:Int) < 8)=True:=eq_true Aa
   have w0:IntKind.i64.wrap ((i:Int) + 1)=((i + 1:Nat):Int):=Br
   (simp only [d0,w0,LZ,seval])
   repeat refine sd ?_
   refine ⟨i + 1,by omega,by omega,?_⟩
   refine Ao.fr [] [] hx AX Am ?_ ?_
   ·simp only [I8,LY,seval]
   ·trivial
def Vc (w:BitVec 64) (j:Nat):BitVec 8:=(w >>> (56 - 8 * j)).setWidth 8
theorem L7 (hc:Ar M 312 Pp=true) (w:BitVec 64) :
 Ae M 312 [.sl 0 [] 0 8 1,W w] [(0,.ar 1 8 fun _=>B 0#8)] 1 (Q3 (.tup .fnil) [(0,.ar 1 8 fun j=>B (if j < 8 then Vc w j else 0#8))] 1):=by
 have h:=Kb hc 8 0 8 (fun _=>0) (w.toNat:Int) Aa Aa Aa
 have e:(fun j=>V.int .u8 (if 0≤j∧j < 0 + 8 then YR (w.toNat:Int) (j - 0) else 0))=(fun j=>B (if j < 8 then Vc w j else 0#8)):=by
  funext j
  by_cases hj:j < 8
  ·rw [if_pos hj,if_pos Aa];exact V6 w j
  ·rw [if_neg hj,if_neg Aa];rfl
 rw [e] at h
 exact h
theorem Do (okA:OkM M) (ok:OkO M) (w:BitVec 64) :
 Ae M 327 [.nils,W w] [] 0 (Q3 (.sl 0 [] 0 8 1) [(0,.ar 1 8 fun j=>B (Vc w j))] 1):=by
 refine Ab ok.k327 rfl fun x hx=>?_
 refine es 2000 ?_;(simp only [Agr,Ad9,B7,seval])
 repeat refine sd ?_
 refine Su [16] (L7 okA.k312 w) ?_
 (simp only [LZ,seval])
 repeat refine sd ?_
 refine Lg hx [112] (.sl 0 [] 0 8 1) ([(0,.ar 1 8 fun j=>B (Vc w j))]) 1 ?_
 simp only [LY,seval]
 intro i hi
 rw [if_pos hi]
theorem Dv (okA:OkM M) (ok:OkO M) (n:Nat) (hn:n≤64) (p:Nat→BitVec 8) (w:BitVec 64) :
 Ae M 327 [.sl 0 [] 0 n 1,W w] [(0,.ar 1 n (fun j=>B (p j)))] 1 (Q3 (.sl 1 [] 0 (n + 8) 1) [(1,.ar 1 (n + 8) fun j=>B (if j < n then p j else Vc w (j - n)))] 2):=by
 refine Ab ok.k327 rfl fun x hx=>?_
 refine es 2000 ?_;(simp only [Agr,Ad9,B7,seval])
 repeat refine sd ?_
 refine Su [17] (L7 okA.k312 w) ?_
 (simp only [LZ,seval])
 repeat refine sd ?_
 refine Lg hx [0,113] (.sl 1 [] 0 (n + 8) 1) ([(1,.ar 1 (n + 8) fun j=>B (if j < n then p j else Vc w (j - n)))]) 2 ?_
 simp only [LY,seval]
 intro i hi
 by_cases h:i < n
 ·rw [if_pos h,if_pos h];simp only [B,LY,seval]
 ·rw [if_neg h,if_neg h,if_pos Aa];simp only [B,LY,seval]
def AW (f:Nat→BitVec 64) (j:Nat):BitVec 8:=Vc (f (j / 8)) (j % 8)
theorem N4 {M:Seat} (okA:OkM M) (ok:OkO M) (w:WS) (l:List (Dg × Bool)) (f g:Nat→BitVec 64) (pc xt:BitVec 64) (a b:BitVec 64) (ha:a.toNat + 8≤8192) (hb:b.toNat + 4≤8192) :
 Ae M 217 [.ptr 5 [],.ptr 0 [],.int .i64 34,W a,W b] (AK w .nils l ++ [(5,mach f g pc false xt)]) 6
  (Q3 (.bool true) (AK (w.add (Pr.mk' (AW fun j=>f (a.toNat + j)))) .nils l ++ [(5,mach (fun j=>if b.toNat≤j∧j < b.toNat + 4 then I8 (fun i=>(Cf (Pr.mk' (AW fun j=>f (a.toNat + j))).at).at (8 * (j - b.toNat) + i)) 8 else f j) g pc false xt)]) 6):=by
 refine Ab ok.k217 rfl fun x hx=>?_
 have h1:(decide (a≤8192#64) && decide (8#64≤8192#64 - a))=true:=by
  have:a.toNat≤8192:=Aa
  simp only [Lao,decide_eq_true_eq];omega
 have h2:(decide (b≤8192#64) && decide (4#64≤8192#64 - b))=true:=by
  have:b.toNat≤8192:=Aa
  simp only [Lao,decide_eq_true_eq];omega
 refine es 2000 ?_;(simp only [NG,N5,FU,seval])
 refine Al (Bf ok a 8#64) ?_
 (simp only [h1,LZ,seval])
 refine Al (Bf ok b 4#64) ?_
 (simp only [h2,LZ,seval])
 have e8:(a + 8#64).toNat=a.toNat + 8:=Aja
 rw [e8,Nat.add_sub_cancel_left]
 repeat refine sd ?_
 refine Aj ?_
 refine es 2000 ?_
 (simp only [B7,seval])
 repeat refine sd ?_
 refine DG (Do okA ok (f (a.toNat + 0))) ?_
 (simp only [B7,seval])
 repeat refine sd ?_
 have w1:IntKind.i64.wrap 1=1:=Am
 rw [w1]
 refine An (σ:=Nat) (fun i=>1≤i∧i≤8) (fun i=>fr 94 [(0,.ptr 5 []),(1,.ptr 0 []),(2,.int .i64 34),(4,W b),(12,W 4#64),(13,.sl 6 [] 0 (8 * i) 1),(43,.sl 5 [Stp.f 0] a.toNat 8 1),(44,.int .i64 8),(45,.int .i64 i)])
  (fun i=>AK w .nils l ++ [(5,mach f g pc false xt),(6,.ar 1 (8 * i) fun j=>B (AW (fun j=>f (a.toNat + j)) j))]) (fun _=>7) (fun i=>8 - i) 1 Aa ?_ ?_
 ·refine Ao.fr [0,1,2,3,4,5,518] [] hx AX Am ?_ ?_
  ·simp only [LY,seval]
  ·simp only [IM,Ba,CB,seval]
   intro i hi
   have q1:i / 8=0:=Aa
   have q2:i % 8=i:=Aa
   simp only [AW,q1,q2,Nat.add_zero]
 ·rintro i ⟨hi1,hi⟩
  refine es 2000 ?_
  by_cases h8:i=8
  ·subst h8
   (simp only [FU,seval])
   repeat refine sd ?_
   have hP:∀ j,j < 64→(Pr.mk' (AW fun j=>f (a.toNat + j))).at j=AW (fun j=>f (a.toNat + j)) j:=fun j hj=>Pr.at_mk' _ _ hj
   generalize Pr.mk' (AW fun j=>f (a.toNat + j))=P at *
   have hA:Ae M 212 [.ptr 0 [],AF P] _ _ _:=Ml okA ok.toOkS w P
   generalize hw':w.add P=w' at *
   clear hw'
   generalize Cf P.at=D at *
   refine R6 [0,1,2,3,4] [0,1,2,3] (hA) (by constructor <;> (try simp only [Ft,NL,AF,CB,seval]) <;> first | exact q1 | (exact fun j hj=>(hP j hj).symm)) (by simp only [Ft,NL,AF,Cn,LX]) ?_
   (simp only [Cj,Ft,NL,A3,seval])
   refine An (σ:=Nat) (fun i=>i≤4) (fun i=>fr 94 [(0,.ptr 5 []),(4,W b),(16,.sl 7 [] 0 32 1),(77,W 4#64),(78,W (BitVec.ofNat 64 i))])
    (fun i=>AK w' .nils l ++ [(5,mach (fun j=>if b.toNat≤j∧j < b.toNat + i then I8 (fun i=>D.at (8 * (j - b.toNat) + i)) 8 else f j) g pc false xt),(7,dg D)]) (fun _=>8) (fun i=>4 - i) 0 Aa ?_ ?_
   ·refine Ao.fr [0,1,2,3,4,5,6,199] [] hx AX Am ?_ ?_
    ·simp only [LY,seval]
    ·simp only [IM,Ba,CB,seval]
     exact fun i _=>(if_neg Aa).symm
   ·intro i hi
    refine es 2000 ?_
    by_cases h4:i=4
    ·subst h4
     (simp only [FU,seval])
     have zz:=Bo @Ba @Cn;exact Bu hx [0,1,2,3,4,5] ⟨rfl,rfl,rfl⟩
    ·have t1:(BitVec.ofNat 64 i).toNat=i:=RN
     have d0:(BitVec.ofNat 64 i < 4#64)=True:=eq_true (by rw [BitVec.lt_def,t1];show i < 4;omega)
     have t2:(8#64 * BitVec.ofNat 64 i).toNat=8 * i:=Re
     have t3:(b + BitVec.ofNat 64 i).toNat=b.toNat + i:=Ux
     have t4:BitVec.ofNat 64 i + 1#64=BitVec.ofNat 64 (i + 1):=UP
     (simp only [d0,t2,t3,t4,FU,seval])
     repeat refine sd ?_
     refine YF (Du ok (32 - 8 * i) Aa (fun j=>D.at (8 * i + j))) (by (try simp only [dg,CB,seval]) <;> first | exact q1 | ((show 8 * i + (32 - 8 * i)≤32;omega))) (by simp only [dg,Cn,LX]) ?_
     (simp only [t2,t3,t4,B7,seval])
     repeat refine sd ?_
     refine ⟨i + 1,by omega,by omega,?_⟩
     refine Ao.fr [0,1,2,3,4,5,6,7] [] hx AX Am ?_ ?_
     ·simp only [LY,seval]
     ·simp only [Ba,CB,seval]
      intro q hq
      by_cases e:q=b.toNat + i
      ·subst e
       rw [if_pos rfl,if_pos Aa,Nat.add_sub_cancel_left];simp only [W,LY,seval]
      ·rw [if_neg e]
       by_cases e2:b.toNat≤q∧q < b.toNat + i
       ·rw [if_pos Aa,if_pos e2];simp only [W,LY,seval]
       ·rw [if_neg Aa,if_neg e2];simp only [W,LY,seval]
  ·have d0:((i:Int) < 8)=True:=eq_true Aa
   have w0:IntKind.i64.wrap ((i:Int) + 1)=((i + 1:Nat):Int):=Br
   have n0:(0:Int)≤(i:Int):=Aa
   (simp only [d0,w0,FU,seval])
   repeat refine sd ?_
   have zz:=@Cn;refine G2 [6] (Dv okA ok (8 * i) Aa (AW fun j=>f (a.toNat + j)) (f (a.toNat + i))) ?_
   (simp only [B7,w0,seval])
   repeat refine sd ?_
   refine ⟨i + 1,by omega,by omega,by omega,?_⟩
   have e88:8 * (i + 1)=8 * i + 8:=Aa
   rw [e88]
   refine Ao.fr [0,1,2,3,4,5,103] [] hx AX Am ?_ ?_
   ·simp only [LY,seval]
   ·simp only [Ba,CB,seval]
    intro q hq
    by_cases e:q < 8 * i
    ·rw [if_pos e]
    ·have e1:q / 8=i:=Aa
     have e2:q % 8=q - 8 * i:=Aa
     rw [if_neg e,AW,e1,e2]
end Mv
