/- A part. -/
import Derived.Test.YtlfkjfonpacelaaGreatDoorFB
set_option linter.all false
set_option maxRecDepth 20000
set_option maxHeartbeats 4000000
namespace Mv
open Go
variable {M:Seat}
theorem DK (ok:OkV M) (f g:Nat→BitVec 64) (pc xt:BitVec 64) :
 Af M 70 [.ptr 0 [],.ptr 1 []] [(0,mach f g pc true xt)] 2 (Q3 .nili [(0,mach f g pc true xt)] 2):=by
 refine Ab ok.k70 rfl fun x hx=>?_
 refine es 2000 ?_;(simp only [OQ,Qz,C7,seval])
 refine Ll hx [0,1] (.nili) ([(0,mach f g pc true xt)]) 2 ?_
 all_goals simp only [mach,LY,seval]
theorem HS (ok:OkV M) (f g:Nat→BitVec 64) (pc xt:BitVec 64) (hpc:8192#64≤pc) :
 Af M 70 [.ptr 0 [],.ptr 1 []] [(0,mach f g pc false xt)] 2 (Q3 .nili [(0,mach f g pc true A8)] 2):=by
 refine Ab ok.k70 rfl fun x hx=>?_
 refine es 2000 ?_;(simp only [OQ,Qz,C7,eq_true hpc,seval])
 have zz:=@mach.eq_1;refine FA [0] (B9 ok f g pc false xt A8) ?_
 (simp only [C7,seval])
 refine Ll hx [0,1] (.nili) ([(0,mach f g pc true A8)]) 2 ?_
 all_goals simp only [mach,LY,seval]
theorem HF (ok:OkV M) (f g:Nat→BitVec 64) (pc xt:BitVec 64) (hpc:¬ 8192#64≤pc) (w:BitVec 64) (hw:f pc.toNat=w) (h:¬ (BS w≤35∧w >>> 32 &&& 255#64=0#64)) :
 Af M 70 [.ptr 0 [],.ptr 1 []] [(0,mach f g pc false xt)] 2 (Q3 .nili [(0,mach f g pc true A8)] 2):=by
 refine Ab ok.k70 rfl fun x hx=>?_
 have hp:pc.toNat < 8192:=Gy
 refine es 2000 ?_;(simp only [OQ,Qz,C7,hpc,hw,seval])
 repeat refine sd ?_
 refine BC (H7 ok w h) ?_
 (simp only [LZ,seval])
 have zz:=@mach.eq_1;refine FA [0] (B9 ok f g pc false xt A8) ?_
 (simp only [C7,seval])
 refine Ll hx [0,1] (.nili) ([(0,mach f g pc true A8)]) 2 ?_
 all_goals simp only [mach,LY,seval]
def Qu (op:Nat) (f g:Nat→BitVec 64) (pc xt:BitVec 64) (d a:Nat) (to:BitVec 64):V :=
 if (op=30∧¬ g a=0#64) ∨ (op=31∧g a=0#64) then mach f g (pc + 1#64) false xt
 else if 8192#64≤(if op=33 then g a else to) then mach f g pc true A8
 else mach f (if op=32 then Ig g d (pc + 1#64) else g) (if op=33 then g a else to) false xt
theorem UO (ok:OkV M) (op:Nat) (ho:op=29 ∨ op=30 ∨ op=31 ∨ op=32 ∨ op=33) (f g:Nat→BitVec 64) (pc xt:BitVec 64) (d a:Nat) (hd:d < 16) (ha:a < 16) (to:BitVec 64) :
 Af M 216 [.ptr 0 [],.int .i64 op,.int .i64 d,.int .i64 a,W to] [(0,mach f g pc false xt)] 1 (Q3 (.tup .fnil) [(0,Qu op f g pc xt d a to)] 1):=by
 refine Ab ok.k216 rfl fun x hx=>?_
 by_cases h0:g a=0#64 <;> by_cases h1:8192#64≤to <;> by_cases h2:8192#64≤g a <;> rcases ho with rfl | rfl | rfl | rfl | rfl
 all_goals simp only [Qu,h0,h1,h2,seval,Lb9,true_and,false_and,or_false,not_false_eq_true,false_or]
 all_goals refine es 2000 ?_;(simp only [Ams,Ao3,C7,h0,h1,h2,Int.cast_ofNat_Int,seval])
 all_goals repeat refine sd ?_
 all_goals try ((have zz:=Bc @mach.eq_1 Q5;exact Bz hx [0] ⟨rfl,rfl,rfl⟩))
 all_goals
  have zz:=@mach.eq_1;refine FA [0] (B9 ok f g pc false xt A8) ?_
  (simp only [C7,seval])
  have zz:=Bc @mach.eq_1 Q5;exact Bz hx [0] ⟨rfl,rfl,rfl⟩
theorem Ct (ok:OkV M) (op:Nat) (ho:op=29 ∨ op=30 ∨ op=31 ∨ op=32 ∨ op=33) (f g:Nat→BitVec 64) (pc xt:BitVec 64) (hpc:¬ 8192#64≤pc) (w:BitVec 64) (hw:f pc.toNat=w) (hop:BS w=op) (h2:w >>> 32 &&& 255#64=0#64) :
 Af M 70 [.ptr 0 [],.ptr 1 []] [(0,mach f g pc false xt)] 2 (Q3 .nili [(0,Qu op f g pc xt (pF w 52) (pF w 48) (BitVec.ofInt 64 (pN w)))] 2):=by
 refine Ab ok.k70 rfl fun x hx=>?_
 have hp:pc.toNat < 8192:=Gy
 have a1:=Ao w 52
 have a2:=Ao w 48
 have d1:((op:Int)=0)=False:=eq_false Aa
 have d2:((op:Int) < 26)=False:=eq_false Aa
 have d3:((op:Int)=26)=False:=eq_false Aa
 have d4:((op:Int)=27)=False:=eq_false Aa
 have d5:((op:Int)=28)=False:=eq_false Aa
 have d6:((op:Int) < 34)=True:=eq_true Aa
 refine es 2000 ?_;(simp only [OQ,Qz,C7,hpc,hw,seval])
 repeat refine sd ?_
 have zz:=@Bn.eq_1;refine Ng (A6 ok w Aa h2) ?_
 (simp only [He,hop,d1,d2,d3,d4,d5,d6,seval])
 repeat refine sd ?_
 have hS:∀ H m z,Ar H m z (Qu op f g pc xt (pF w 52) (pF w 48) (BitVec.ofInt 64 (pN w))) (Qu op f g pc xt (pF w 52) (pF w 48) (BitVec.ofInt 64 (pN w))):=by
  intro H m z
  unfold Qu
  repeat' split
  all_goals simp only [mach,LY,seval]
 have hN:A7 (Qu op f g pc xt (pF w 52) (pF w 48) (BitVec.ofInt 64 (pN w))):=by
  unfold Qu
  repeat' split
  all_goals simp only [mach,A7,Rd,implies_true,and_self]
 have hR:∀ m,(Qu op f g pc xt (pF w 52) (pF w 48) (BitVec.ofInt 64 (pN w))).ren m=Qu op f g pc xt (pF w 52) (pF w 48) (BitVec.ofInt 64 (pN w)):=by
  intro m
  unfold Qu
  repeat' split
  all_goals rfl
 have zz:=Bc @mach.eq_1 hN;refine FA [0] (UO ok op ho f g pc xt (pF w 52) (pF w 48) Aa Aa (BitVec.ofInt 64 (pN w))) ?_
 (simp only [hR,LZ,seval])
 have zz:=hS;exact Bz hx [0,1] ⟨rfl,rfl,rfl⟩
structure Mc where
 f:Nat→BitVec 64
 g:Nat→BitVec 64
 pc:BitVec 64
 hl:Bool
 xt:BitVec 64
def Mc.v (m:Mc):V:=mach m.f m.g m.pc m.hl m.xt
def Iq (M:Seat) (m m':Mc):Prop:=Af M 70 [.ptr 0 [],.ptr 1 []] [(0,m.v)] 2 (Q3 .nili [(0,m'.v)] 2)
theorem XU {M:Seat} (ok:OkV M) (ms:Nat→Mc) (k n:Nat) (hk:k≤n) (hn:n < 9223372036854775808) (hs:∀ i,i < k→(ms i).hl=false∧Iq M (ms i) (ms (i + 1))) (he:(ms k).hl=true ∨ k=n) :
 Af M 71 [.ptr 0 [],.ptr 1 [],.int .i64 n] [(0,(ms 0).v)] 2 (Q3 (Ah (.int .i64 k) .nili) [(0,(ms k).v)] 2):=by
 refine Ab ok.k71 rfl fun x hx=>?_
 have e0:((n:Int) < 0)=False:=eq_false Aa
 have hS:∀ (m:Mc) H a z,Ar H a z m.v m.v:=fun m H a z=>by simp only [Mc.v,mach,LY,seval]
 have hN:∀ m:Mc,A7 m.v:=fun m=>by simp only [Mc.v,mach,A7,Rd,implies_true,and_self]
 have hR:∀ (m:Mc) a,m.v.ren a=m.v:=fun m a=>rfl
 refine es 2000 ?_;(simp only [f71,c71,e0,LZ,seval])
 refine An (σ:=Nat) (fun i=>i≤k) (fun i=>fr 37 [(0,.ptr 0 []),(1,.ptr 1 []),(2,.int .i64 n),(8,.int .i64 i)]) (fun i=>[(0,(ms i).v)]) (fun _=>2) (fun i=>k - i) 0 Aa ?_ ?_
 ·refine Ak.fr [0,1] [] hx AQ Aj ?_ ?_
  ·simp only [LY,seval]
  ·simp only [hS,LY,seval]
 ·intro i hi
  refine es 2000 ?_
  by_cases hik:i=k
  ·subst hik
   rcases he with he | he
   ·by_cases hin:i < n
    ·have d0:((i:Int) < (n:Int))=True:=eq_true Aa
     (simp only [d0,Mc.v,C7,he,seval])
     have zz:=CC @Mc.v.eq_1 @mach.eq_1 he;exact Bz hx [0,1] ⟨rfl,rfl,rfl⟩
    ·have d0:((i:Int) < (n:Int))=False:=eq_false Aa
     (simp only [d0,Mc.v,C7,seval])
     have zz:=Bc @Mc.v.eq_1 @mach.eq_1;exact Bz hx [0,1] ⟨rfl,rfl,rfl⟩
   ·have d0:((i:Int) < (n:Int))=False:=eq_false Aa
    (simp only [d0,Mc.v,C7,seval])
    have zz:=Bc @Mc.v.eq_1 @mach.eq_1;exact Bz hx [0,1] ⟨rfl,rfl,rfl⟩
  ·obtain ⟨h1,h2⟩:=hs i Aa
   have d0:((i:Int) < (n:Int))=True:=eq_true Aa
   have w0:IntKind.i64.wrap ((i:Int) + 1)=((i + 1:Nat):Int):=Bw
   have hv:(ms i).v=mach (ms i).f (ms i).g (ms i).pc (ms i).hl (ms i).xt:=rfl
   rw [hv]
   (simp only [d0,C7,h1,seval])
   have hst:=h2
   unfold Iq at hst
   rw [hv,h1] at hst
   have zz:=Bc @mach.eq_1 hN;refine Zg [0,1] [0] (hst) ?_
   (simp only [hR,w0,LZ,seval])
   refine ⟨i + 1,by omega,by omega,?_⟩
   refine Ak.fr [0,1] [] hx AQ Aj ?_ ?_
   ·simp only [LY,seval]
   ·simp only [hS,LY,seval]
structure OkI (M:Seat):Prop extends OkV M where
structure OkI7 (M:Seat):Prop where
 k77:Av M 77 f77=true
structure OkI75 (M:Seat):Prop extends OkI7 M where
 k75:Av M 75 f75=true
def rcW (op:Int) (d a b c:Nat) (n:Int):BitVec 64 :=
 ((((BitVec.ofInt 64 op * 16#64 + BitVec.ofInt 64 d) * 16#64 + BitVec.ofInt 64 a) * 16#64 + BitVec.ofInt 64 b) * 16#64 + BitVec.ofInt 64 c) * 1099511627776#64 + (BitVec.ofInt 64 n &&& 4294967295#64)
def FT (op n:Int):Bool:=decide (0≤op∧op≤35∧-2147483648≤n∧n < 2147483648)
theorem Nj {M:Seat} (ok:OkI M) (kx:OkI7 M) (op:Int) (d a b c:Nat) (n:Int) (hd:d < 16) (ha:a < 16) (hb:b < 16) (hc:c < 16) :
 Af M 77 [.int .i64 op,.int .i64 d,.int .i64 a,.int .i64 b,.int .i64 c,.int .i64 n] [] 0 (Q3 (Ah (W (if FT op n then rcW op d a b c n else 0#64)) (.int .i64 (if FT op n then 0 else 2))) [] 0):=by
 refine Ab kx.k77 rfl fun x hx=>?_
 have l1:∀ q:Nat,q < 16→(((q:Int) < 0)=False):=fun q _=>eq_false Aa
 have l2:∀ q:Nat,q < 16→((15:Int) < (q:Int))=False:=fun q h=>eq_false Aa
 have w1:IntKind.i64.wrap 1=1:=rfl
 have w2:IntKind.i64.wrap 2=2:=rfl
 have w3:IntKind.i64.wrap 3=3:=rfl
 have w4:IntKind.i64.wrap 4=4:=rfl
 refine es 2000 ?_;(simp only [f77,c77,LZ,seval])
 refine Au ?_
 refine es 2000 ?_
 (simp only [l1 d hd,l2 d hd,w1,w2,w3,w4,LZ,seval])
 repeat refine sd ?_
 refine Au ?_
 refine es 2000 ?_
 (simp only [l1 a ha,l2 a ha,w1,w2,w3,w4,LZ,seval])
 repeat refine sd ?_
 refine Au ?_
 refine es 2000 ?_
 (simp only [l1 b hb,l2 b hb,w1,w2,w3,w4,LZ,seval])
 repeat refine sd ?_
 refine Au ?_
 refine es 2000 ?_
 (simp only [l1 c hc,l2 c hc,w1,w2,w3,w4,LZ,seval])
 repeat refine sd ?_
 refine Au ?_
 refine es 2000 ?_
 by_cases h1:op < 0
 ·have e:FT op n=false:=by simp only [FT,decide_eq_false_iff_not];omega
  (simp only [eq_true h1,e,LZ,seval])
  exact Ap.mkZ hx [] ⟨rfl,rfl,rfl⟩
 ·by_cases h2:35 < op
  ·have e:FT op n=false:=by simp only [FT,decide_eq_false_iff_not];omega
   (simp only [eq_false h1,eq_true h2,e,LZ,seval])
   exact Ap.mkZ hx [] ⟨rfl,rfl,rfl⟩
  ·by_cases h3:n < -2147483648
   ·have e:FT op n=false:=by simp only [FT,decide_eq_false_iff_not];omega
    (simp only [eq_false h1,eq_false h2,eq_true h3,e,LZ,seval])
    exact Ap.mkZ hx [] ⟨rfl,rfl,rfl⟩
   ·by_cases h4:2147483648≤n
    ·have e:FT op n=false:=by simp only [FT,decide_eq_false_iff_not];omega
     (simp only [eq_false h1,eq_false h2,eq_false h3,eq_true h4,e,LZ,seval])
     exact Ap.mkZ hx [] ⟨rfl,rfl,rfl⟩
    ·have e:FT op n=true:=by simp only [FT,decide_eq_true_eq];omega
     (simp only [eq_false h1,eq_false h2,eq_false h3,eq_false h4,e,rcW,LZ,seval])
     have zz:=@rcW.eq_1;exact Bz hx [] ⟨rfl,rfl,rfl⟩
structure In where
 op:Int
 d:Int
 a:Int
 b:Int
 c:Int
 n:Int
 raw:BitVec 64
instance:Inhabited In:=⟨⟨0,0,0,0,0,0,0#64⟩⟩
def WY (x:In):V:=.st 7 (.fcons 0 (.int .i64 x.op) (.fcons 1 (.int .i64 x.d) (.fcons 2 (.int .i64 x.a) (.fcons 3 (.int .i64 x.b) (.fcons 4 (.int .i64 x.c) (.fcons 5 (.int .i64 x.n) (.fcons 6 (W x.raw) .fnil)))))))
def Qx (d:Int):Nat:=(BitVec.ofInt 64 d % 16#64).toNat
theorem Ku (d:Int):Qx d < 16:=by rw [Qx,BitVec.toNat_umod];exact Nat.mod_lt _ Aj
theorem Nk (d:Int):(BitVec.ofInt 64 d % 16#64).toInt=(Qx d:Int):=by
 have:=Ku d
 rw [BitVec.toInt_eq_toNat_cond,if_pos (by unfold Qx at this;omega)];rfl
def Iy (x:In):BitVec 64:=if FT x.op x.n then rcW x.op (Qx x.d) (Qx x.a) (Qx x.b) (Qx x.c) x.n else x.raw
def Jo (l:List In):V:=.lst 7 l.length (fun j=>WY (l.getD j default))
def TW:=(Bc @Jo.eq_1 @WY.eq_1)
theorem L2 {M:Seat} (ok:OkI M) (kx:OkI75 M) (v:V) (hv:v = .nils ∨ v=Jo []):Af M 75 [v] [] 0 (Q3 .nils [] 0):=by
 refine Ab kx.k75 rfl fun x hx=>?_
 rcases hv with rfl | rfl
 ·refine es 2000 ?_;(simp only [f75,c75,LZ,seval])
  refine Au ?_
  refine es 2000 ?_
  (simp only [LZ,seval])
  exact Ap.mkZ hx [] ⟨rfl,rfl,rfl⟩
 ·refine es 2000 ?_;(simp only [f75,c75,Jo,List.length_nil,LZ,seval])
  refine Au ?_
  refine es 2000 ?_
  (simp only [LZ,seval])
  exact Ap.mkZ hx [] ⟨rfl,rfl,rfl⟩
theorem Sm {M:Seat} (ok:OkI M) (kx:OkI75 M) (l:List In) (h0:0 < l.length) (hl:l.length < 9223372036854775808) :
 Af M 75 [Jo l] [] 0 (Q3 (.sl 0 [] 0 (min l.length 8192) 1) [(0,.ar 1 (min l.length 8192) (fun j=>W (Iy (l.getD j default))))] 1):=by
 refine Ab kx.k75 rfl fun x hx=>?_
 refine es 2000 ?_;(simp only [f75,c75,Jo,LZ,seval])
 refine Au ?_
 refine es 2000 ?_
 have d0:((0:Int) < (l.length:Int))=True:=eq_true Aa
 have d1:(0 < l.length)=True:=eq_true h0
 (simp only [d0,d1,WY,Nk,LZ,seval])
 have hc:=fun q:Nat=>Nj ok kx.toOkI7 (l.getD q default).op (Qx (l.getD q default).d) (Qx (l.getD q default).a) (Qx (l.getD q default).b) (Qx (l.getD q default).c) (l.getD q default).n (Ku _) (Ku _) (Ku _) (Ku _)
 refine Ai (hc 0) ?_
 have wo:∀ q:Nat,Iy (l.getD q default)=if FT (l.getD q default).op (l.getD q default).n then rcW (l.getD q default).op (Qx (l.getD q default).d) (Qx (l.getD q default).a) (Qx (l.getD q default).b) (Qx (l.getD q default).c) (l.getD q default).n else (l.getD q default).raw:=fun q=>rfl
 have w1:IntKind.i64.wrap 1=1:=rfl
 cases he:FT (l.getD 0 default).op (l.getD 0 default).n with
 | false =>
   have wo0:=wo 0
   rw [he] at wo0
   simp only [Lbn] at wo0
   (simp only [BV,he,w1,seval])
   refine An (σ:=Nat) (fun q=>1≤q∧q≤min l.length 8192) (fun q=>fr 55 [(8,Jo l),(9,.int .i64 l.length),(10,.int .i64 q),(3,.sl 0 [] 0 q 1)])
    (fun q=>[(0,.ar 1 q (fun j=>W (Iy (l.getD j default))))]) (fun _=>1) (fun q=>min l.length 8192 - q) 1 Aa ?_ ?_
   ·refine Ak.fr [832] [] hx AQ Aj ?_ ?_
    ·simp only [TW,LY,seval]
    ·simp only [LY,seval]
     intro j hj
     obtain rfl:j=0:=Aa
     rw [if_pos rfl,wo0];exact (E2 _ _ _ _ _).mpr rfl
   ·intro q ⟨hq1,hq⟩
    refine es 2000 ?_
    by_cases hqn:q=l.length
    ·have d0:((q:Int) < (l.length:Int))=False:=eq_false Aa
     (simp only [Jo,d0,LZ,seval])
     have hm:min l.length 8192=q:=Aa
     rw [hm]
     exact Ap.mkZ hx [0] ⟨rfl,rfl,rfl⟩
    ·have d0:((q:Int) < (l.length:Int))=True:=eq_true Aa
     have d1:(q < l.length)=True:=eq_true Aa
     by_cases hq8:q=8192
     ·have d2:((8192:Int)≤(q:Int))=True:=eq_true Aa
      (simp only [TW,d0,d1,d2,LZ,seval])
      repeat refine sd ?_
      have hm:min l.length 8192=q:=Aa
      rw [hm]
      exact Ap.mkZ hx [0] ⟨rfl,rfl,rfl⟩
     ·have d2:((8192:Int)≤(q:Int))=False:=eq_false Aa
      have w0:IntKind.i64.wrap ((q:Int) + 1)=((q + 1:Nat):Int):=Bw
      have woq:=wo q
      (simp only [TW,Nk,d0,d1,d2,LZ,seval])
      repeat refine sd ?_
      refine Ai (hc q) ?_
      cases hk:FT (l.getD q default).op (l.getD q default).n with
      | false =>
        rw [hk] at woq
        simp only [Lbn] at woq
        (simp only [BV,hk,w0,seval])
        repeat refine sd ?_
        refine ⟨q + 1,by omega,by omega,by omega,?_⟩
        refine Ak.fr [753] [] hx AQ Aj ?_ ?_
        ·simp only [TW,LY,seval]
        ·simp only [LY,seval]
         intro j hj
         by_cases hjq:j < q
         ·rw [if_pos hjq];exact (E2 _ _ _ _ _).mpr rfl
         ·obtain rfl:j=q:=Aa
          rw [if_neg hjq,if_pos Aa,woq];exact (E2 _ _ _ _ _).mpr rfl
      | true =>
        rw [hk] at woq
        simp only [Lbn] at woq
        (simp only [BV,hk,w0,seval])
        repeat refine sd ?_
        refine ⟨q + 1,by omega,by omega,by omega,?_⟩
        refine Ak.fr [705] [] hx AQ Aj ?_ ?_
        ·simp only [TW,LY,seval]
        ·simp only [LY,seval]
         intro j hj
         by_cases hjq:j < q
         ·rw [if_pos hjq];exact (E2 _ _ _ _ _).mpr rfl
         ·obtain rfl:j=q:=Aa
          rw [if_neg hjq,if_pos Aa,woq];exact (E2 _ _ _ _ _).mpr rfl
 | true =>
   have wo0:=wo 0
   rw [he] at wo0
   simp only [Lbn] at wo0
   (simp only [BV,he,w1,seval])
   refine An (σ:=Nat) (fun q=>1≤q∧q≤min l.length 8192) (fun q=>fr 55 [(8,Jo l),(9,.int .i64 l.length),(10,.int .i64 q),(3,.sl 0 [] 0 q 1)])
    (fun q=>[(0,.ar 1 q (fun j=>W (Iy (l.getD j default))))]) (fun _=>1) (fun q=>min l.length 8192 - q) 1 Aa ?_ ?_
   ·refine Ak.fr [784] [] hx AQ Aj ?_ ?_
    ·simp only [TW,LY,seval]
    ·simp only [LY,seval]
     intro j hj
     obtain rfl:j=0:=Aa
     rw [if_pos rfl,wo0];exact (E2 _ _ _ _ _).mpr rfl
   ·intro q ⟨hq1,hq⟩
    refine es 2000 ?_
    by_cases hqn:q=l.length
    ·have d0:((q:Int) < (l.length:Int))=False:=eq_false Aa
     (simp only [Jo,d0,LZ,seval])
     have hm:min l.length 8192=q:=Aa
     rw [hm]
     exact Ap.mkZ hx [0] ⟨rfl,rfl,rfl⟩
    ·have d0:((q:Int) < (l.length:Int))=True:=eq_true Aa
     have d1:(q < l.length)=True:=eq_true Aa
     by_cases hq8:q=8192
     ·have d2:((8192:Int)≤(q:Int))=True:=eq_true Aa
      (simp only [TW,d0,d1,d2,LZ,seval])
      repeat refine sd ?_
      have hm:min l.length 8192=q:=Aa
      rw [hm]
      exact Ap.mkZ hx [0] ⟨rfl,rfl,rfl⟩
     ·have d2:((8192:Int)≤(q:Int))=False:=eq_false Aa
      have w0:IntKind.i64.wrap ((q:Int) + 1)=((q + 1:Nat):Int):=Bw
      have woq:=wo q
      (simp only [TW,Nk,d0,d1,d2,LZ,seval])
      repeat refine sd ?_
      refine Ai (hc q) ?_
      cases hk:FT (l.getD q default).op (l.getD q default).n with
      | false =>
        rw [hk] at woq
        simp only [Lbn] at woq
        (simp only [BV,hk,w0,seval])
        repeat refine sd ?_
        refine ⟨q + 1,by omega,by omega,by omega,?_⟩
        refine Ak.fr [753] [] hx AQ Aj ?_ ?_
        ·simp only [TW,LY,seval]
        ·simp only [LY,seval]
         intro j hj
         by_cases hjq:j < q
         ·rw [if_pos hjq];exact (E2 _ _ _ _ _).mpr rfl
         ·obtain rfl:j=q:=Aa
          rw [if_neg hjq,if_pos Aa,woq];exact (E2 _ _ _ _ _).mpr rfl
      | true =>
        rw [hk] at woq
        simp only [Lbn] at woq
        (simp only [BV,hk,w0,seval])
        repeat refine sd ?_
        refine ⟨q + 1,by omega,by omega,by omega,?_⟩
        refine Ak.fr [705] [] hx AQ Aj ?_ ?_
        ·simp only [TW,LY,seval]
        ·simp only [LY,seval]
         intro j hj
         by_cases hjq:j < q
         ·rw [if_pos hjq];exact (E2 _ _ _ _ _).mpr rfl
         ·obtain rfl:j=q:=Aa
          rw [if_neg hjq,if_pos Aa,woq];exact (E2 _ _ _ _ _).mpr rfl
def Acf (n:Nat) (u:Nat→BitVec 64) (j:Nat):BitVec 64:=if j < n then u j else 0#64
theorem Sd {M:Seat} (okA:OkM M) (n:Nat) (hn:n≤8192) (u:Nat→BitVec 64):Af M 74 [.lst 1 n (fun j=>W (u j))] [] 0 (Q3 (Ah (.ptr 0 []) .nili) [(0,mach (Acf n u) (fun _=>0#64) 0#64 false 0#64)] 1):=by
 refine Ab okA.k74 rfl fun x hx=>?_
 have e0:((8192:Int) < (n:Int))=False:=eq_false Aa
 have m1:min n 8192=n:=Aa
 have m2:∀ i:Nat,(0≤i)=True:=fun i=>eq_true (Nat.zero_le i)
 refine es 2000 ?_;(simp only [f74,c74,e0,m1,m2,LZ,seval])
 have zz:=CC @mach.eq_1 @Acf.eq_1 @Pk;exact Bz hx [96] ⟨rfl,rfl,rfl⟩
structure OkW (M:Seat):Prop extends OkI M where
 k215:Av M 215 YH=true
def i32 (n:Int):Int:=if n % 4294967296 ≥ 2147483648 then n % 4294967296 - 4294967296 else n % 4294967296
variable {M:Seat}
structure OkO (M:Seat):Prop extends OkW M where
 k308:Av M 308 Ajp=true
 k327:Av M 327 Agm=true
 k326:Av M 326 Anl=true
 k217:Av M 217 Ns=true
theorem Bl (ok:OkO M) (a b:BitVec 64):Af M 326 [W a,W b] [] 0 (Q3 (.bool (decide (a≤8192#64) && decide (b≤8192#64 - a))) [] 0):=by
 refine Ab ok.k326 rfl fun x hx=>?_
 rcases Classical.propComplete (a≤8192#64) with h | h
 all_goals refine es 2000 ?_;(simp only [Anl,Aj4,h,LZ,seval])
 all_goals try simp only [h,decide_true,decide_false,Bool.true_and,Bool.false_and]
 all_goals exact Ap.mkZ hx [] ⟨rfl,rfl,rfl⟩
theorem Mh (ok:OkO M) (k72:Av M 72 f72=true) (w:WS) :Af M 72 [.ptr 0 []] [(0,I9 (.nils)),(1,Bd A9 Pr.zero w.pres)] 5 (Q3 (.int .i64 w.pres.length) [(0,I9 (.nils)),(1,Bd A9 Pr.zero w.pres)] 5):=by
 refine Ab k72 rfl fun x hx=>?_
 have hl:∀ H:Hp,hget H 1=Bd A9 Pr.zero w.pres→Ac H 1=true→OW 2 (.map 1) H=⟨True,.int .i64 w.pres.length,H⟩:=by
  intro H h h'
  rw [Aeo,h];simp only [Bd,h']
 refine es 2000 ?_;(simp only [f72,c72,I9,BA,hl,seval])
 have zz:=Bc @I9.eq_1 @Ce;exact Bz hx [0,1,2,3,4] ⟨rfl,rfl,rfl⟩
def II (p:Nat→BitVec 8):Nat→BitVec 64
 | 0=>0
 | k + 1=>(II p k <<< (8#64).toNat) ||| (p k).setWidth 64
theorem Dy (ok:OkO M) (n:Nat) (hn:8≤n) (p:Nat→BitVec 8):Af M 308 [.lst 1 n (fun j=>B (p j))] [] 0 (Q3 (W (II p 8)) [] 0):=by
 refine Ab ok.k308 rfl fun x hx=>?_
 refine es 2000 ?_;(simp only [Ajp,Alb,BA,seval])
 repeat refine sd ?_
 refine An (σ:=Nat) (fun i=>i≤8) (fun i=>fr 20 [(7,.lst 1 8 fun j=>B (p j)),(8,.int .i64 8),(9,.int .i64 i),(3,W (II p i))]) (fun _=>[]) (fun _=>0) (fun i=>8 - i) 0 Aa ?_ ?_
 ·refine Ak.fr [] [] hx AQ Aj ?_ ?_
  ·simp only [II,LY,seval]
  ·trivial
 ·intro i hi
  refine es 2000 ?_
  by_cases h8:i=8
  ·subst h8
   (simp only [LZ,seval])
   exact Ap.mkZ hx [] ⟨rfl,rfl,rfl⟩
  ·have d0:((i:Int) < 8)=True:=eq_true Aa
   have w0:IntKind.i64.wrap ((i:Int) + 1)=((i + 1:Nat):Int):=Bw
   (simp only [d0,w0,LZ,seval])
   repeat refine sd ?_
   refine ⟨i + 1,by omega,by omega,?_⟩
   refine Ak.fr [] [] hx AQ Aj ?_ ?_
   ·simp only [II,LY,seval]
   ·trivial
def V1 (w:BitVec 64) (j:Nat):BitVec 8:=(w >>> (56 - 8 * j)).setWidth 8
theorem LE (hc:Av M 312 O0=true) (w:BitVec 64) :
 Af M 312 [.sl 0 [] 0 8 1,W w] [(0,.ar 1 8 fun _=>B 0#8)] 1 (Q3 (.tup .fnil) [(0,.ar 1 8 fun j=>B (if j < 8 then V1 w j else 0#8))] 1):=by
 have h:=J9 hc 8 0 8 (fun _=>0) (w.toNat:Int) Aa Aa Aa
 have e:(fun j=>V.int .u8 (if 0≤j∧j < 0 + 8 then byt (w.toNat:Int) (j - 0) else 0))=(fun j=>B (if j < 8 then V1 w j else 0#8)):=by
  funext j
  by_cases hj:j < 8
  ·rw [if_pos hj,if_pos Aa];exact Xy w j
  ·rw [if_neg hj,if_neg Aa];rfl
 rw [e] at h
 exact h
theorem D3 (okA:OkM M) (ok:OkO M) (w:BitVec 64) :
 Af M 327 [.nils,W w] [] 0 (Q3 (.sl 0 [] 0 8 1) [(0,.ar 1 8 fun j=>B (V1 w j))] 1):=by
 refine Ab ok.k327 rfl fun x hx=>?_
 refine es 2000 ?_;(simp only [Agm,Agt,BA,seval])
 repeat refine sd ?_
 refine J6 [16] (LE okA.k312 w) ?_
 (simp only [LZ,seval])
 repeat refine sd ?_
 refine Ll hx [112] (.sl 0 [] 0 8 1) ([(0,.ar 1 8 fun j=>B (V1 w j))]) 1 ?_
 simp only [LY,seval]
 intro i hi
 rw [if_pos hi]
theorem D4 (okA:OkM M) (ok:OkO M) (n:Nat) (hn:n≤64) (p:Nat→BitVec 8) (w:BitVec 64) :
 Af M 327 [.sl 0 [] 0 n 1,W w] [(0,.ar 1 n (fun j=>B (p j)))] 1 (Q3 (.sl 1 [] 0 (n + 8) 1) [(1,.ar 1 (n + 8) fun j=>B (if j < n then p j else V1 w (j - n)))] 2):=by
 refine Ab ok.k327 rfl fun x hx=>?_
 refine es 2000 ?_;(simp only [Agm,Agt,BA,seval])
 repeat refine sd ?_
 refine J6 [17] (LE okA.k312 w) ?_
 (simp only [LZ,seval])
 repeat refine sd ?_
 refine Ll hx [0,113] (.sl 1 [] 0 (n + 8) 1) ([(1,.ar 1 (n + 8) fun j=>B (if j < n then p j else V1 w (j - n)))]) 2 ?_
 simp only [LY,seval]
 intro i hi
 by_cases h:i < n
 ·rw [if_pos h,if_pos h];simp only [B,LY,seval]
 ·rw [if_neg h,if_neg h,if_pos Aa];simp only [B,LY,seval]
def Bb (f:Nat→BitVec 64) (j:Nat):BitVec 8:=V1 (f (j / 8)) (j % 8)
theorem NX {M:Seat} (okA:OkM M) (ok:OkO M) (w:WS) (l:List (Dg × Bool)) (f g:Nat→BitVec 64) (pc xt:BitVec 64) (a b:BitVec 64) (ha:a.toNat + 8≤8192) (hb:b.toNat + 4≤8192) :
 Af M 217 [.ptr 5 [],.ptr 0 [],.int .i64 34,W a,W b] (AF w .nils l ++ [(5,mach f g pc false xt)]) 6
  (Q3 (.bool true) (AF (w.add (Pr.mk' (Bb fun j=>f (a.toNat + j)))) .nils l ++ [(5,mach (fun j=>if b.toNat≤j∧j < b.toNat + 4 then II (fun i=>(Cf (Pr.mk' (Bb fun j=>f (a.toNat + j))).at).at (8 * (j - b.toNat) + i)) 8 else f j) g pc false xt)]) 6):=by
 refine Ab ok.k217 rfl fun x hx=>?_
 have h1:(decide (a≤8192#64) && decide (8#64≤8192#64 - a))=true:=by
  have:a.toNat≤8192:=Aa
  simp only [Lao,decide_eq_true_eq];omega
 have h2:(decide (b≤8192#64) && decide (4#64≤8192#64 - b))=true:=by
  have:b.toNat≤8192:=Aa
  simp only [Lao,decide_eq_true_eq];omega
 refine es 2000 ?_;(simp only [Ns,NW,Ge,seval])
 refine Ai (Bl ok a 8#64) ?_
 (simp only [h1,LZ,seval])
 refine Ai (Bl ok b 4#64) ?_
 (simp only [h2,LZ,seval])
 have e8:(a + 8#64).toNat=a.toNat + 8:=Ana
 rw [e8,Nat.add_sub_cancel_left]
 repeat refine sd ?_
 refine Au ?_
 refine es 2000 ?_
 (simp only [BA,seval])
 repeat refine sd ?_
 refine Er (D3 okA ok (f (a.toNat + 0))) ?_
 (simp only [BA,seval])
 repeat refine sd ?_
 have w1:IntKind.i64.wrap 1=1:=Aj
 rw [w1]
 refine An (σ:=Nat) (fun i=>1≤i∧i≤8) (fun i=>fr 94 [(0,.ptr 5 []),(1,.ptr 0 []),(2,.int .i64 34),(4,W b),(12,W 4#64),(13,.sl 6 [] 0 (8 * i) 1),(43,.sl 5 [Stp.f 0] a.toNat 8 1),(44,.int .i64 8),(45,.int .i64 i)])
  (fun i=>AF w .nils l ++ [(5,mach f g pc false xt),(6,.ar 1 (8 * i) fun j=>B (Bb (fun j=>f (a.toNat + j)) j))]) (fun _=>7) (fun i=>8 - i) 1 Aa ?_ ?_
 ·refine Ak.fr [0,1,2,3,4,5,518] [] hx AQ Aj ?_ ?_
  ·simp only [LY,seval]
  ·simp only [ID,Ay,Cm,seval]
   intro i hi
   have q1:i / 8=0:=Aa
   have q2:i % 8=i:=Aa
   simp only [Bb,q1,q2,Nat.add_zero]
 ·rintro i ⟨hi1,hi⟩
  refine es 2000 ?_
  by_cases h8:i=8
  ·subst h8
   (simp only [Ge,seval])
   repeat refine sd ?_
   have hP:∀ j,j < 64→(Pr.mk' (Bb fun j=>f (a.toNat + j))).at j=Bb (fun j=>f (a.toNat + j)) j:=fun j hj=>Pr.at_mk' _ _ hj
   generalize Pr.mk' (Bb fun j=>f (a.toNat + j))=P at *
   have hA:Af M 212 [.ptr 0 [],A9 P] _ _ _:=Mu okA ok.toOkS w P
   generalize hw':w.add P=w' at *
   clear hw'
   generalize Cf P.at=D at *
   refine UE [0,1,2,3,4] [0,1,2,3] (hA) (by constructor <;> (try simp only [F7,Jl,A9,Cm,seval]) <;> first | exact q1 | (exact fun j hj=>(hP j hj).symm)) (by simp only [F7,Jl,A9,Ce,LX]) ?_
   (simp only [Dq,F7,Jl,Am,seval])
   refine An (σ:=Nat) (fun i=>i≤4) (fun i=>fr 94 [(0,.ptr 5 []),(4,W b),(16,.sl 7 [] 0 32 1),(77,W 4#64),(78,W (BitVec.ofNat 64 i))])
    (fun i=>AF w' .nils l ++ [(5,mach (fun j=>if b.toNat≤j∧j < b.toNat + i then II (fun i=>D.at (8 * (j - b.toNat) + i)) 8 else f j) g pc false xt),(7,dg D)]) (fun _=>8) (fun i=>4 - i) 0 Aa ?_ ?_
   ·refine Ak.fr [0,1,2,3,4,5,6,199] [] hx AQ Aj ?_ ?_
    ·simp only [LY,seval]
    ·simp only [ID,Ay,Cm,seval]
     exact fun i _=>(if_neg Aa).symm
   ·intro i hi
    refine es 2000 ?_
    by_cases h4:i=4
    ·subst h4
     (simp only [Ge,seval])
     have zz:=Bc @Ay @Ce;exact Bz hx [0,1,2,3,4,5] ⟨rfl,rfl,rfl⟩
    ·have t1:(BitVec.ofNat 64 i).toNat=i:=R1
     have d0:(BitVec.ofNat 64 i < 4#64)=True:=eq_true (by rw [BitVec.lt_def,t1];show i < 4;omega)
     have t2:(8#64 * BitVec.ofNat 64 i).toNat=8 * i:=RQ
     have t3:(b + BitVec.ofNat 64 i).toNat=b.toNat + i:=US
     have t4:BitVec.ofNat 64 i + 1#64=BitVec.ofNat 64 (i + 1):=UV
     (simp only [d0,t2,t3,t4,Ge,seval])
     repeat refine sd ?_
     refine Zh (Dy ok (32 - 8 * i) Aa (fun j=>D.at (8 * i + j))) (by (try simp only [dg,Cm,seval]) <;> first | exact q1 | ((show 8 * i + (32 - 8 * i)≤32;omega))) (by simp only [dg,Ce,LX]) ?_
     (simp only [t2,t3,t4,BA,seval])
     repeat refine sd ?_
     refine ⟨i + 1,by omega,by omega,?_⟩
     refine Ak.fr [0,1,2,3,4,5,6,7] [] hx AQ Aj ?_ ?_
     ·simp only [LY,seval]
     ·simp only [Ay,Cm,seval]
      intro q hq
      by_cases e:q=b.toNat + i
      ·subst e
       rw [if_pos rfl,if_pos Aa,Nat.add_sub_cancel_left];simp only [W,LY,seval]
      ·rw [if_neg e]
       by_cases e2:b.toNat≤q∧q < b.toNat + i
       ·rw [if_pos Aa,if_pos e2];simp only [W,LY,seval]
       ·rw [if_neg Aa,if_neg e2];simp only [W,LY,seval]
  ·have d0:((i:Int) < 8)=True:=eq_true Aa
   have w0:IntKind.i64.wrap ((i:Int) + 1)=((i + 1:Nat):Int):=Bw
   have n0:(0:Int)≤(i:Int):=Aa
   (simp only [d0,w0,Ge,seval])
   repeat refine sd ?_
   have zz:=@Ce;refine FA [6] (D4 okA ok (8 * i) Aa (Bb fun j=>f (a.toNat + j)) (f (a.toNat + i))) ?_
   (simp only [BA,w0,seval])
   repeat refine sd ?_
   refine ⟨i + 1,by omega,by omega,by omega,?_⟩
   have e88:8 * (i + 1)=8 * i + 8:=Aa
   rw [e88]
   refine Ak.fr [0,1,2,3,4,5,103] [] hx AQ Aj ?_ ?_
   ·simp only [LY,seval]
   ·simp only [Ay,Cm,seval]
    intro q hq
    by_cases e:q < 8 * i
    ·rw [if_pos e]
    ·have e1:q / 8=i:=Aa
     have e2:q % 8=q - 8 * i:=Aa
     rw [if_neg e,Bb,e1,e2]
end Mv
