/- A part. -/
import Derived.Test.YtfljfijnobocoaaDoorDG
set_option linter.all false
set_option maxRecDepth 20000
set_option maxHeartbeats 4000000
namespace Mv
open Go
variable {M:Seat}
structure OkCk (M:Seat):Prop where
 k179:Au M 179 Anl=true
 k287:Au M 287 Am1=true
 k367:Au M 367 An5=true
 k368:Au M 368 Anp=true
 k458:Au M 458 Ak5=true
 k492:Au M 492 Ak3=true
def arN (op:Int):Nat:=if op=8 ∨ op=9 then 3 else if op=21 ∨ op=25 then 1 else 2
theorem Ama (ok:OkCk M) (op:Int) (h:1≤op∧op≤25):Ag M 492 [.int .i64 op] [] 0 (Q3 (Ah (.int .i64 (arN op)) .nili) [] 0):=by
 refine Ab ok.k492 rfl fun x hx=>?_
 have e1:(op < 1)=False:=eq_false Aa
 have e2:(25 < op)=False:=eq_false Aa
 by_cases h8:op=8
 ·subst h8
  refine es 2000 ?_;(simp only [Ak3,Ali,LZ,seval])
  exact Ar.mkZ hx [] ⟨rfl,rfl,rfl⟩
 by_cases h9:op=9
 ·subst h9
  refine es 2000 ?_;(simp only [Ak3,Ali,LZ,seval])
  exact Ar.mkZ hx [] ⟨rfl,rfl,rfl⟩
 by_cases h21:op=21
 ·subst h21
  refine es 2000 ?_;(simp only [Ak3,Ali,LZ,seval])
  exact Ar.mkZ hx [] ⟨rfl,rfl,rfl⟩
 by_cases h25:op=25
 ·subst h25
  refine es 2000 ?_;(simp only [Ak3,Ali,LZ,seval])
  exact Ar.mkZ hx [] ⟨rfl,rfl,rfl⟩
 have ea:arN op=2:=by rw [arN,if_neg Aa,if_neg Aa]
 rw [ea]
 refine es 2000 ?_;(simp only [Ak3,Ali,e1,e2,eq_false h8,eq_false h9,eq_false h21,eq_false h25,LZ,seval])
 exact Ar.mkZ hx [] ⟨rfl,rfl,rfl⟩
theorem H2 (ok:OkCk M) (op:Int) (h:¬ (1≤op∧op≤25)):Ag M 492 [.int .i64 op] [] 0 (Q3 (Ah (.int .i64 0) (.ifc 74 (.int .i64 10))) [] 0):=by
 refine Ab ok.k492 rfl fun x hx=>?_
 by_cases h1:op < 1
 ·refine es 2000 ?_;(simp only [Ak3,Ali,eq_true h1,LZ,seval])
  exact Ar.mkZ hx [] ⟨rfl,rfl,rfl⟩
 ·refine es 2000 ?_;(simp only [Ak3,Ali,eq_false h1,eq_true (show (25:Int) < op by omega),LZ,seval])
  exact Ar.mkZ hx [] ⟨rfl,rfl,rfl⟩
def ckV (P:List Fu) (sz i:Nat):V:=.st 5 (.fcons 0 (.int .i64 sz) (.fcons 1 (.bool false) (.fcons 2 (.bool false) (.fcons 3 (fuL P) (.fcons 4 (.int .i64 i) .fnil)))))
def Akl (P:List Fu) (i:Nat):Int:=match P[i]? with | some f=>f.locals | none=>0
def Ak0 (P:List Fu) (i:Nat):Int:=match P[i]? with | some f=>f.params | none=>0
inductive Nd (P:List Fu) (i:Nat):Ex→Prop
 | ar (op n as) (h1:1≤op) (h2:op≤25) (h:as.length=arN op):Nd P i (.mk op n as)
 | con (n):Nd P i (.mk 26 n [])
 | loc (n) (h:(n.toNat:Int) < Akl P i) (h2:Akl P i < 1000):Nd P i (.mk 27 n [])
 | load (n a):Nd P i (.mk 28 n [a])
 | call (n as) (h1:i < n.toNat) (h2:n.toNat < P.length) (h:(as.length:Int)=Ak0 P n.toNat):Nd P i (.mk 29 n as)
 | hash (n a b):Nd P i (.mk 30 n [a,b])
 | pre (n a b):Nd P i (.mk 31 n [a,b])
theorem Akr {P:List Fu} {i:Nat} (h:i < P.length):I1 P i = .st 3 (.fcons 0 (.int .i64 (Ak0 P i)) (.fcons 1 (.int .i64 (Akl P i)) (.fcons 2 (stL (P[i]).body) .fnil))):=by
 rw [Ak7 P i h,fuV,Ak0,Akl,List.getElem?_eq_getElem h]
theorem Alo (ok:OkCk M) (P:List Fu) (sz i:Nat) (hi:i < P.length) (hP:P.length < 1000) (y:Ex) (h:Nd P i y) :
 Ag M 458 [.ptr 0 [],exV y] [(0,ckV P sz i)] 1 (Q3 (.tup .fnil) [(0,ckV P sz i)] 1):=by
 refine Ab ok.k458 rfl fun x hx=>?_
 have hne:P ≠ []:=by rintro rfl;exact absurd hi B5
 have hf:=Akr hi
 have hsl:∀ H m z,Az H m z (.lst 3 P.length (I1 P)) (.lst 3 P.length (I1 P)):=fun H m z=>by rw [← I3 P hne];exact Akp H m z P
 have hrl:∀ a,(V.lst 3 P.length (I1 P)).ren a = .lst 3 P.length (I1 P):=fun a=>by rw [← I3 P hne];exact Hd a P
 simp only [ckV]
 rw [I3 P hne]
 cases h with
 | ar op n as h1 h2 h =>
   have hA:=Ama ok op ⟨h1,h2⟩
   have eez:((arN op:Int)=(as.length:Int))=True:=eq_true (by rw [h])
   refine es 2000 ?_;(simp only [Ak5,Alb,exV,Ps,Ake,Akd,LZ,seval])
   refine Ak (hA) ?_
   (simp only [AH,eq_false (show ¬ op=26 by omega),eq_false (show ¬ op=27 by omega),eq_false (show ¬ op=28 by omega),eq_false (show ¬ op=29 by omega),eq_false (show ¬ op=30 by omega),eq_false (show ¬ op=31 by omega),Ak6,Ps,Ake,Akd,eez,seval])
   have zz:=hsl;exact Bf hx [0] ⟨rfl,rfl,rfl⟩
 | con n =>
   have hA:=H2 ok 26 Aa
   refine es 2000 ?_;(simp only [Ak5,Alb,exV,exL,LZ,seval])
   refine Ak (hA) ?_
   (simp only [AH,seval])
   have zz:=hsl;exact Bf hx [0] ⟨rfl,rfl,rfl⟩
 | loc n h h2 =>
   have hA:=H2 ok 27 Aa
   have e1:max (0:Int) (Akl P i)=Akl P i:=Aa
   have e2:(BitVec.ofInt 64 (Akl P i)≤n)=False:=eq_false (by
    rw [BitVec.le_def,BitVec.toNat_ofInt];omega)
   refine es 2000 ?_;(simp only [Ak5,Alb,exV,exL,LZ,seval])
   refine Ak (hA) ?_
   (simp only [AH,hf,e1,e2,seval])
   repeat refine sd ?_
   have zz:=hsl;exact Bf hx [0] ⟨rfl,rfl,rfl⟩
 | load n a =>
   have hA:=H2 ok 28 Aa
   refine es 2000 ?_;(simp only [Ak5,Alb,exV,exL,Ps,LZ,seval])
   refine Ak (hA) ?_
   (simp only [AH,seval])
   have zz:=hsl;exact Bf hx [0] ⟨rfl,rfl,rfl⟩
 | call n as h1 h2 h =>
   have hA:=H2 ok 29 Aa
   have hf2:=Akr h2
   have e1:(n≤BitVec.ofInt 64 (i:Nat))=False:=eq_false (by
    rw [BitVec.le_def,BitVec.toNat_ofInt];omega)
   have e2:(BitVec.ofInt 64 (P.length:Nat)≤n)=False:=eq_false (by
    rw [BitVec.le_def,BitVec.toNat_ofInt];omega)
   have eez:(Ak0 P n.toNat=(as.length:Int))=True:=eq_true (by rw [h])
   refine es 2000 ?_;(simp only [Ak5,Alb,exV,Ps,Ake,Akd,LZ,seval])
   refine Ak (hA) ?_
   (simp only [AH,hf2,e1,e2,Ak6,Ps,Ake,Akd,eez,seval])
   repeat refine sd ?_
   have zz:=hsl;exact Bf hx [0] ⟨rfl,rfl,rfl⟩
 | hash n a b =>
   have hA:=H2 ok 30 Aa
   refine es 2000 ?_;(simp only [Ak5,Alb,exV,exL,LZ,seval])
   refine Ak (hA) ?_
   (simp only [AH,seval])
   have zz:=hsl;exact Bf hx [0] ⟨rfl,rfl,rfl⟩
 | pre n a b =>
   have hA:=H2 ok 31 Aa
   refine es 2000 ?_;(simp only [Ak5,Alb,exV,exL,LZ,seval])
   refine Ak (hA) ?_
   (simp only [AH,seval])
   have zz:=hsl;exact Bf hx [0] ⟨rfl,rfl,rfl⟩
inductive RE (P:List Fu) (i:Nat):Nat→Ex→Nat→Prop
 | mk (l:Nat) (op:Int) (n:BitVec 64) (as:List Ex) (c:Nat→Nat) (h:Nd P i (.mk op n as)) (hl:as.length < 1000) (ha:∀ j (hj:j < as.length),RE P i l as[j] (c j)):RE P i (l + 1) (.mk op n as) (1 + ((List.range as.length).map c).sum)
theorem I5 (c:Nat→Nat) (n:Nat):((List.range (n + 1)).map c).sum=((List.range n).map c).sum + c n:=by
 rw [List.range_succ];simp
theorem Aki (c:Nat→Nat) (a:Nat):∀ d:Nat,((List.range a).map c).sum≤((List.range (a + d)).map c).sum
 | 0=>Nat.le_refl _
 | d + 1 => by
   have h:=Aki c a d
   have e:=I5 c (a + d)
   rw [← Nat.add_assoc,e]
   omega
theorem Amo {M:Seat} (ok:OkCk M) (P:List Fu) (i:Nat) (hi:i < P.length) (hP:P.length < 1000):∀ (l:Nat) (y:Ex) (c:Nat),RE P i l y c→l < 1000→∀ sz,sz + c < 4611686018427387904 →
 Ag M 368 [.ptr 0 [],exV y,.int .i64 l] [(0,ckV P sz i)] 1 (Q3 (.tup .fnil) [(0,ckV P (sz + c) i)] 1):=by
 intro l
 induction l with
 | zero=>intro y c h;cases h
 | succ l ih =>
 intro y c h hl1 sz hsz
 cases h with
 | mk _ op n as c h hl ha =>
 have hN:=Alo ok P (sz + 1) i hi hP _ h
 refine Ab ok.k368 rfl fun x hx=>?_
 have w0:IntKind.i64.wrap ((sz:Int) + 1)=((sz + 1:Nat):Int):=AZ
 have w1:IntKind.i64.wrap (((l + 1:Nat):Int) - 1)=(l:Int):=AZ
 have e0:(((l + 1:Nat):Int)=0)=False:=eq_false Aa
 have hx0:exV (.mk op n as) = .st 3 (.fcons 0 (.int .i64 op) (.fcons 1 (W n) (.fcons 2 (exL as) .fnil))):=by simp only [exV]
 rw [hx0] at hN ⊢
 simp only [ckV] at hN ⊢
 refine es 2000 ?_;(simp only [Anp,Aog,w0,e0,Ps,Ake,Akd,LZ,seval])
 have zz:=Bb @sfu @Aoh;refine Bw [0] [0] (hN) ?_
 (simp only [Hd,Ak6,Ps,Ake,Akd,LZ,seval])
 refine An (σ:=Nat) (fun j=>j≤as.length) (fun j=>fr 36 [(0,.ptr 0 []),(2,.int .i64 (l + 1:Nat)),(24,exL as),(25,.int .i64 as.length),(26,.int .i64 j)]) (fun j=>[(0,ckV P (sz + 1 + ((List.range j).map c).sum) i)]) (fun _=>1) (fun j=>as.length - j) 0 (Nat.zero_le _) ?_ ?_
 ·refine Ao.fr [0] [] hx AQ Am ?_ ?_
  ·simp only [LY,seval,Aok]
  ·simp only [ckV,LY,seval,sfu,List.range_zero,List.map_nil,List.sum_nil,Nat.add_zero]
 intro j hj
 refine es 2000 ?_
 simp only [ckV]
 by_cases hin:j=as.length
 ·have d0:((j:Int) < (as.length:Int))=False:=eq_false Aa
  rw [show sz + (1 + ((List.range as.length).map c).sum)=sz + 1 + ((List.range j).map c).sum by rw [hin];omega]
  (simp only [d0,LZ,seval])
  have zz:=@sfu;exact Bf hx [0] ⟨rfl,rfl,rfl⟩
 ·have d0:((j:Int) < (as.length:Int))=True:=eq_true Aa
  have hlt:j < as.length:=Aa
  have hne:as ≠ []:=by rintro rfl;exact absurd hlt B5
  have hy:=Al2 as j hlt
  have hb:sz + 1 + ((List.range j).map c).sum + c j < 4611686018427387904:=by
   have:((List.range (j + 1)).map c).sum≤((List.range as.length).map c).sum:=by
    have:as.length=j + 1 + (as.length - (j + 1)):=Aa
    rw [this]
    exact Aki c _ _
   rw [I5] at this
   omega
  have hE:=ih as[j] (c j) (ha j hlt) Aa _ hb
  have w2:IntKind.i64.wrap ((j:Int) + 1)=((j + 1:Nat):Int):=AZ
  simp only [ckV] at hE
  generalize as[j]=y at *
  (simp only [d0,Alv as hne,hy,EJ,Gs,Ga,w1,LZ,seval])
  repeat refine sd ?_
  have zz:=Bb @sfu @svx;refine Bw [0] [0] (hE) ?_
  (simp only [Hd,w2,LZ,seval])
  refine ⟨j + 1,by omega,by omega,?_⟩
  rw [← Alv as hne,I5]
  refine Ao.fr [0] [] hx AQ Am ?_ ?_
  ·simp only [LY,seval,Aok]
  ·simp only [ckV,LY,seval,sfu,Nat.add_assoc]
theorem Alh {M:Seat} (ok:OkCk M) (kd:Int) (h1:1≤kd) (h2:kd≤7) :
 Ag M 367 [.int .i64 kd] [] 0 (Q3 (.tup (.fcons 0 (.bool true) (.fcons 1 (.bool (decide (kd=2))) (.fcons 2 (.bool (decide (kd=3 ∨ kd=4))) (.fcons 3 (.bool (decide (kd=3))) .fnil))))) [] 0):=by
 refine Ab ok.k367 rfl fun x hx=>?_
 have:kd=1 ∨ kd=2 ∨ kd=3 ∨ kd=4 ∨ kd=5 ∨ kd=6 ∨ kd=7:=Aa
 rcases this with rfl | rfl | rfl | rfl | rfl | rfl | rfl
 all_goals
  refine es 2000 ?_;(simp only [An5,Aoa,LZ,seval])
  exact Ar.mkZ hx [] ⟨rfl,rfl,rfl⟩
mutual
inductive RB (P:List Fu) (i:Nat):Nat→List IrSt→Nat→Prop
 | nil:RB P i 0 [] 0
 | mk (l:Nat) (ss:List IrSt) (c:Nat→Nat) (hl:ss.length < 1000) (h:∀ j (hj:j < ss.length),RgS P i l ss[j] (c j)):RB P i (l + 1) ss ((List.range ss.length).map c).sum
inductive RgS (P:List Fu) (i:Nat):Nat→IrSt→Nat→Prop
 | set (l n a b bo el ca) (h0:0≤n) (h1:n < Akl P i) (ha:RE P i 8 a ca):RgS P i l (.mk 1 n a b bo el) (1 + ca)
 | store (l n a b bo el ca cb) (ha:RE P i 8 a ca) (hb:RE P i 8 b cb):RgS P i l (.mk 2 n a b bo el) (1 + ca + cb)
 | branch (l n a b bo el ca cb ce) (ha:RE P i 8 a ca) (hb:RB P i l bo cb) (he:RB P i l el ce):RgS P i l (.mk 3 n a b bo el) (1 + ca + cb + ce)
 | loop (l n a b bo el ca cb) (ha:RE P i 8 a ca) (hb:RB P i l bo cb):RgS P i l (.mk 4 n a b bo el) (1 + ca + cb)
 | other (l k n a b bo el ca) (h5:5≤k) (h7:k≤7) (ha:RE P i 8 a ca):RgS P i l (.mk k n a b bo el) (1 + ca)
end
theorem Akk {M:Seat} (ok:OkCk M) (kd:Int) (b c d:Bool) (h1:1≤kd) (h2:kd≤7) (h:b=decide (kd=2)∧c=decide (kd=3 ∨ kd=4)∧d=decide (kd=3)) :
 Ag M 367 [.int .i64 kd] [] 0 (Q3 (.tup (.fcons 0 (.bool true) (.fcons 1 (.bool b) (.fcons 2 (.bool c) (.fcons 3 (.bool d) .fnil))))) [] 0):=by
 obtain ⟨rfl,rfl,rfl⟩:=h
 exact Alh ok kd h1 h2
theorem Amr {M:Seat} (ok:OkCk M) (P:List Fu) (i:Nat) (hi:i < P.length) (hP:P.length < 1000):∀ (l:Nat) (ss:List IrSt) (c:Nat),RB P i l ss c→l < 1000→∀ sz,sz + c < 4611686018427387904 →
 Ag M 287 [.ptr 0 [],stL ss,.int .i64 l] [(0,ckV P sz i)] 1 (Q3 (.tup .fnil) [(0,ckV P (sz + c) i)] 1):=by
 have hne:P ≠ []:=by rintro rfl;exact absurd hi B5
 have hf:=Akr hi
 have hsl:∀ H m z,Az H m z (.lst 3 P.length (I1 P)) (.lst 3 P.length (I1 P)):=fun H m z=>by rw [← I3 P hne];exact Akp H m z P
 have hrl:∀ a,(V.lst 3 P.length (I1 P)).ren a = .lst 3 P.length (I1 P):=fun a=>by rw [← I3 P hne];exact Hd a P
 have hpl:fuL P = .lst 3 P.length (I1 P):=I3 P hne
 have hck:∀ sz,ckV P sz i = .st 5 (.fcons 0 (.int .i64 sz) (.fcons 1 (.bool false) (.fcons 2 (.bool false) (.fcons 3 (.lst 3 P.length (I1 P)) (.fcons 4 (.int .i64 i) .fnil))))):=fun sz=>by rw [ckV,hpl]
 intro l
 induction l with
 | zero =>
   intro ss c h hl1 sz hsz
   cases h
   refine Ab ok.k287 rfl fun x hx=>?_
   simp only [hck,stL,Nat.add_zero]
   refine es 2000 ?_;(simp only [Am1,An1,LZ,seval])
   refine AW ?_
   refine es 2000 ?_
   (simp only [LZ,seval])
   have zz:=hsl;exact Bf hx [0] ⟨rfl,rfl,rfl⟩
 | succ l ih =>
 intro ss c h hl1 sz hsz
 cases h with
 | mk _ _ c hl h =>
 refine Ab ok.k287 rfl fun x hx=>?_
 have w1:IntKind.i64.wrap (((l + 1:Nat):Int) - 1)=(l:Int):=AZ
 have e0:(((l + 1:Nat):Int)=0)=False:=eq_false Aa
 simp only [hck]
 refine es 2000 ?_;(simp only [Am1,An1,e0,Am2,LZ,seval])
 refine An (σ:=Nat) (fun j=>j≤ss.length) (fun j=>fr 105 [(0,.ptr 0 []),(2,.int .i64 (l + 1:Nat)),(22,stL ss),(23,.int .i64 ss.length),(24,.int .i64 j)]) (fun j=>[(0,ckV P (sz + ((List.range j).map c).sum) i)]) (fun _=>1) (fun j=>ss.length - j) 0 (Nat.zero_le _) ?_ ?_
 ·refine Ao.fr [0] [] hx AQ Am ?_ ?_
  ·simp only [LY,seval,Akt]
  ·simp only [hck,LY,seval,hsl,List.range_zero,List.map_nil,List.sum_nil,Nat.add_zero]
 intro j hj
 refine es 2000 ?_
 simp only [hck]
 by_cases hin:j=ss.length
 ·have d0:((j:Int) < (ss.length:Int))=False:=eq_false Aa
  subst hin
  (simp only [d0,LZ,seval])
  have zz:=hsl;exact Bf hx [0] ⟨rfl,rfl,rfl⟩
 have d0:((j:Int) < (ss.length:Int))=True:=eq_true Aa
 have hlt:j < ss.length:=Aa
 have hsn:ss ≠ []:=by rintro rfl;exact absurd hlt B5
 have hy:=Ak4 ss j hlt
 have hb:sz + ((List.range j).map c).sum + c j < 4611686018427387904:=by
  have h1:=Aki c (j + 1) (ss.length - (j + 1))
  rw [show j + 1 + (ss.length - (j + 1))=ss.length by omega,I5] at h1
  omega
 have hT:=h j hlt
 have w2:IntKind.i64.wrap ((j:Int) + 1)=((j + 1:Nat):Int):=AZ
 have hend:∀ z,z=sz + ((List.range j).map c).sum + c j→sz + ((List.range (j + 1)).map c).sum=z:=fun z hz=>by rw [I5];omega
 generalize sz + ((List.range j).map c).sum=s0 at *
 generalize hcj:c j=cj at *
 generalize ss[j]=y at *
 have w0:IntKind.i64.wrap ((s0:Int) + 1)=((s0 + 1:Nat):Int):=AZ
 have hE:∀ a ca s,RE P i 8 a ca→s + ca < 4611686018427387904→Ag M 368 [.ptr 0 [],exV a,.int .i64 8] [(0,ckV P s i)] 1 (Q3 (.tup .fnil) [(0,ckV P (s + ca) i)] 1):=fun a ca s h h2=>Amo ok P i hi hP 8 a ca h Aa s h2
 simp only [hck] at hE ih
 cases hT with
 | set _ n a b bo el ca h0 h1 ha =>
   have hlk:=Akk ok 1 false false false Aa Aa Am
   have f1:(n < 0)=False:=eq_false Aa
   have f2:(Akl P i≤n)=False:=eq_false Aa
   (simp only [d0,I2 ss hsn,hy,stV,E0,Ck,EA,EJ,Gs,Ga,w0,LZ,seval])
   repeat refine sd ?_
   refine Ak (hlk) ?_
   (simp only [hf,f1,f2,E0,Ck,EA,EJ,Gs,Ga,LZ,seval])
   repeat refine sd ?_
   have zz:=Bb hsl @svx;refine Bw [0] [0] (hE a ca (s0 + 1) ha Aa) ?_
   (simp only [hrl,w2,LZ,seval])
   refine ⟨j + 1,by omega,by omega,?_⟩
   rw [← I2 ss hsn,hend (s0 + 1 + ca) Aa]
   refine Ao.fr [0] [] hx AQ Am ?_ ?_
   ·simp only [LY,seval,Akt]
   ·simp only [hck,LY,seval,hsl]
 | store _ n a b bo el ca cb ha hb2 =>
   have hlk:=Akk ok 2 true false false Aa Aa Am
   (simp only [d0,I2 ss hsn,hy,stV,E0,Ck,EA,EJ,Gs,Ga,w0,LZ,seval])
   repeat refine sd ?_
   refine Ak (hlk) ?_
   (simp only [E0,Ck,EA,EJ,Gs,Ga,LZ,seval])
   repeat refine sd ?_
   have zz:=Bb hsl @svx;refine Bw [0] [0] (hE a ca (s0 + 1) ha Aa) ?_
   (simp only [hrl,E0,Ck,EA,EJ,Gs,Ga,LZ,seval])
   have zz:=Bb hsl @svx;refine Bw [0] [0] (hE b cb (s0 + 1 + ca) hb2 Aa) ?_
   (simp only [hrl,w2,LZ,seval])
   refine ⟨j + 1,by omega,by omega,?_⟩
   rw [← I2 ss hsn,hend (s0 + 1 + ca + cb) Aa]
   refine Ao.fr [0] [] hx AQ Am ?_ ?_
   ·simp only [LY,seval,Akt]
   ·simp only [hck,LY,seval,hsl]
 | branch _ n a b bo el ca cb ce ha hb2 he =>
   have hlk:=Akk ok 3 false true true Aa Aa Am
   (simp only [d0,I2 ss hsn,hy,stV,E0,Ck,EA,EJ,Gs,Ga,w0,LZ,seval])
   repeat refine sd ?_
   refine Ak (hlk) ?_
   (simp only [E0,Ck,EA,EJ,Gs,Ga,LZ,seval])
   repeat refine sd ?_
   have zz:=Bb hsl @svx;refine Bw [0] [0] (hE a ca (s0 + 1) ha Aa) ?_
   (simp only [hrl,E0,Ck,EA,EJ,Gs,Ga,w1,LZ,seval])
   have zz:=Bb hsl @Akt;refine Bw [0] [0] (ih bo cb hb2 Aa (s0 + 1 + ca) Aa) ?_
   (simp only [hrl,E0,Ck,EA,EJ,Gs,Ga,w1,LZ,seval])
   have zz:=Bb hsl @Akt;refine Bw [0] [0] (ih el ce he Aa (s0 + 1 + ca + cb) Aa) ?_
   (simp only [hrl,w2,LZ,seval])
   refine ⟨j + 1,by omega,by omega,?_⟩
   rw [← I2 ss hsn,hend (s0 + 1 + ca + cb + ce) Aa]
   refine Ao.fr [0] [] hx AQ Am ?_ ?_
   ·simp only [LY,seval,Akt]
   ·simp only [hck,LY,seval,hsl]
 | loop _ n a b bo el ca cb ha hb2 =>
   have hlk:=Akk ok 4 false true false Aa Aa Am
   (simp only [d0,I2 ss hsn,hy,stV,E0,Ck,EA,EJ,Gs,Ga,w0,LZ,seval])
   repeat refine sd ?_
   refine Ak (hlk) ?_
   (simp only [E0,Ck,EA,EJ,Gs,Ga,LZ,seval])
   repeat refine sd ?_
   have zz:=Bb hsl @svx;refine Bw [0] [0] (hE a ca (s0 + 1) ha Aa) ?_
   (simp only [hrl,E0,Ck,EA,EJ,Gs,Ga,w1,LZ,seval])
   have zz:=Bb hsl @Akt;refine Bw [0] [0] (ih bo cb hb2 Aa (s0 + 1 + ca) Aa) ?_
   (simp only [hrl,w2,LZ,seval])
   refine ⟨j + 1,by omega,by omega,?_⟩
   rw [← I2 ss hsn,hend (s0 + 1 + ca + cb) Aa]
   refine Ao.fr [0] [] hx AQ Am ?_ ?_
   ·simp only [LY,seval,Akt]
   ·simp only [hck,LY,seval,hsl]
 | other _ k n a b bo el ca h5 h7 ha =>
   have hlk:=Akk ok k false false false Aa Aa ⟨(decide_eq_false (by omega:¬ k=2)).symm,(decide_eq_false (by omega:¬ (k=3 ∨ k=4))).symm,(decide_eq_false (by omega:¬ k=3)).symm⟩
   (simp only [d0,I2 ss hsn,hy,stV,E0,Ck,EA,EJ,Gs,Ga,w0,LZ,seval])
   repeat refine sd ?_
   refine Ak (hlk) ?_
   (simp only [eq_false (by omega:¬ k=1),E0,Ck,EA,EJ,Gs,Ga,LZ,seval])
   repeat refine sd ?_
   have zz:=Bb hsl @svx;refine Bw [0] [0] (hE a ca (s0 + 1) ha Aa) ?_
   (simp only [hrl,w2,LZ,seval])
   refine ⟨j + 1,by omega,by omega,?_⟩
   rw [← I2 ss hsn,hend (s0 + 1 + ca) Aa]
   refine Ao.fr [0] [] hx AQ Am ?_ ?_
   ·simp only [LY,seval,Akt]
   ·simp only [hck,LY,seval,hsl]
end Mv
