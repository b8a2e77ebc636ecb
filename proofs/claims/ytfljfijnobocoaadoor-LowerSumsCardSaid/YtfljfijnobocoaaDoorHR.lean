/- A part. -/
import Derived.Test.YtfljfijnobocoaaDoorHQ
set_option linter.all false
set_option maxRecDepth 20000
set_option maxHeartbeats 16000000
namespace Mv
open Go
end Mv
namespace Mv
def Ab1:List Nat:=[0,6,12,18,24,3,9,10,16,22,1,7,13,19,20,4,5,11,17,23,2,8,14,15,21]
def Aqp:List Nat:=[0,44,43,21,14,28,20,3,45,61,1,6,25,8,18,27,36,10,15,56,62,55,39,41,2]
end Mv
namespace Mv
def Ln (p:Nat):Nat:=(lanes.getD p 0).toNat
def pos:Nat→Nat
 | 0=>1
 | p + 1=>Ln p
end Mv
namespace Mv
open Go
def lf:Nat→Nat
 | 0=>1
 | n + 1=>if 255 < lf n * 2 then (lf n * 2) ^^^ 369 else lf n * 2
def kk (i:Nat):Nat→BitVec 64
 | 0=>0
 | j + 1=>if lf (7 * i + j) % 2=1 then kk i j ||| ((1:BitVec 64) <<< (2 ^ j - 1)) else kk i j
theorem W1:V.int .u64 1=W 1:=rfl
def pxy:Nat→Nat × Nat
 | 0=>(1,0)
 | t + 1=>((pxy t).2,(2 * (pxy t).1 + 3 * (pxy t).2) % 5)
def tv:Nat→Nat→Nat
 | 0,_=>0
 | q + 1,j=>if j=(pxy q).1 + 5 * (pxy q).2 then ((q + 1) * (q + 2) / 2) % 64 else tv q j
def cq (L:List (BitVec 64)) (x y j:Nat):BitVec 64 :=
 if Ab1.getD j 0 % 5 < x ∨ (Ab1.getD j 0 % 5=x∧Ab1.getD j 0 / 5 < y) then rot (On L 5 (Ab1.getD j 0)) (Aqp.getD j 0) else 0
def p1 (p:Nat→BitVec 8) (j:Nat):BitVec 8:=if j < 64 then p j else if j=64 then 1 else 0
theorem bl1 (p:Nat→Prop):(∀ i,i < 1→p i)=p 0:=propext ⟨fun h=>h 0 Aa,fun h i hi=>by
 have h0:i=0:=Aa;subst h0
 exact h⟩
theorem bl2 (p:Nat→Prop):(∀ i,i < 2→p i)=(p 0∧p 1):=propext ⟨fun h=>⟨h 0 Aa,h 1 Aa⟩,fun h i hi=>by
 have:i=0 ∨ i=1:=Aa;rcases this with rfl | rfl
 ·exact h.1
 ·exact h.2⟩
theorem bl3 (p:Nat→Prop):(∀ i,i < 3→p i)=(p 0∧p 1∧p 2):=propext ⟨fun h=>⟨h 0 Aa,h 1 Aa,h 2 Aa⟩,fun h i hi=>by
 have:i=0 ∨ i=1 ∨ i=2:=Aa;rcases this with rfl | rfl | rfl
 ·exact h.1
 ·exact h.2.1
 ·exact h.2.2⟩
abbrev cE (n:BitVec 64):Ex:=.mk 26 n []
abbrev lE (n:BitVec 64):Ex:=.mk 27 n []
abbrev e0:Ex:=.mk 0 0#64 []
theorem FQ (P:List Fu) (i l:Nat) (n:BitVec 64):RE P i (l + 1) (cE n) 1:=RE.mk l 26 n [] (fun _=>0) (.con n) Ab (fun j hj=>absurd hj BF)
theorem Af7 (P:List Fu) (i l:Nat) (n:BitVec 64) (h:(n.toNat:Int) < Bi P i) (h2:Bi P i < 1000):RE P i (l + 1) (lE n) 1:=RE.mk l 27 n [] (fun _=>0) (.loc n h h2) Ab (fun j hj=>absurd hj BF)
theorem Aoy (P:List Fu) (i l:Nat) (op:Int) (n:BitVec 64) (a b:Ex) (ca cb:Nat) (h:Nd P i (.mk op n [a,b])) (ha:RE P i l a ca) (hb:RE P i l b cb):RE P i (l + 1) (.mk op n [a,b]) (1 + (ca + cb)) :=
 RE.mk l op n [a,b] (fun j=>if j=0 then ca else cb) h BF (fun j hj=>by
  have:j=0 ∨ j=1:=by simp at hj;omega
  rcases this with rfl | rfl
  ·exact ha
  ·exact hb)
theorem Aqv (P:List Fu) (i l:Nat) (op:Int) (n:BitVec 64) (a:Ex) (ca:Nat) (h:Nd P i (.mk op n [a])) (ha:RE P i l a ca):RE P i (l + 1) (.mk op n [a]) (1 + ca) :=
 RE.mk l op n [a] (fun j=>ca) h BF (fun j hj=>by
  have:j=0:=by simp at hj;omega
  subst this
  exact ha)
theorem Ao5 (P:List Fu) (i l:Nat) (op:Int) (n:BitVec 64) (a b c:Ex) (ca cb cc:Nat) (h:Nd P i (.mk op n [a,b,c])) (ha:RE P i l a ca) (hb:RE P i l b cb) (hc:RE P i l c cc):RE P i (l + 1) (.mk op n [a,b,c]) (1 + (ca + (cb + cc))) :=
 RE.mk l op n [a,b,c] (fun j=>if j=0 then ca else if j=1 then cb else cc) h BF (fun j hj=>by
  have:j=0 ∨ j=1 ∨ j=2:=by simp at hj;omega
  rcases this with rfl | rfl | rfl
  ·exact ha
  ·exact hb
  ·exact hc)
theorem Aps (P:List Fu) (i l:Nat) (a:IrSt) (ca:Nat) (ha:RgS P i l a ca):RB P i (l + 1) [a] ca :=
 RB.mk l [a] (fun _=>ca) BF (fun j hj=>by
  have:j=0:=by simp at hj;omega
  subst this
  exact ha)
def CH (x y z:Ex):Ex:=.mk 29 1#64 [x,y,z]
def RC (a b c:BitVec 64):Ex:=CH (cE c) (cE a) (cE b)
def Ip (a b c:BitVec 64):Ex:=CH (RC a b c) (CH (cE a) (RC a b c) (cE c)) (cE b)
def Jb (a b c:BitVec 64):Ex:=CH (cE b) (cE c) (RC a b c)
def Cc (k:Nat) (a b c:BitVec 64):List Fu:=pS k (Ht k) (Ip a b c) (Jb a b c)
theorem Vw (k:Nat):Ht k=1 ∨ Ht k=2 ∨ Ht k=3:=by
 unfold Ht;split
 ·exact .inr (.inr rfl)
 ·split
  ·exact .inl rfl
  ·exact .inr (.inl rfl)
theorem MA (k:Nat) (h1:1≤k) (h2:k≤25) (a b c:BitVec 64):(Ht k=1→Dn k a 0#64 0#64=Dn k a b c)∧(Ht k=2→Dn k a b 0#64=Dn k a b c):=by
 have hop:k=1 ∨ k=2 ∨ k=3 ∨ k=22 ∨ k=23 ∨ k=24 ∨ k=25 ∨ k=16 ∨ k=17 ∨ k=18 ∨ k=19 ∨ k=20 ∨ k=21 ∨ k=4 ∨ k=5 ∨ k=6 ∨ k=7 ∨ k=8 ∨ k=9 ∨ k=10 ∨ k=11 ∨ k=12 ∨ k=13 ∨ k=14 ∨ k=15:=Aa;rcases hop with rfl | rfl | rfl | rfl | rfl | rfl | rfl | rfl | rfl | rfl | rfl | rfl | rfl | rfl | rfl | rfl | rfl | rfl | rfl | rfl | rfl | rfl | rfl | rfl | rfl;all_goals exact ⟨fun h=>by first | exact absurd h Ab | rfl,fun h=>by first | exact absurd h Ab | rfl⟩
theorem Ald (k:Nat) (h1:1≤k) (h2:k≤25) (a b c a' b' c':BitVec 64) (ha:0 < Ht k→a=a') (hb:1 < Ht k→b=b') (hc:2 < Ht k→c=c'):Dn k a b c=Dn k a' b' c':=by
 rcases Vw k with h | h | h
 ·rw [← ha Aa];exact ((MA k h1 h2 a b c).1 h).symm.trans ((MA k h1 h2 a b' c').1 h)
 ·rw [← ha Aa,← hb Aa];exact ((MA k h1 h2 a b c).2 h).symm.trans ((MA k h1 h2 a b c').2 h)
 ·rw [ha Aa,hb Aa,hc Aa]
section
variable {at':BitVec 64→BitVec 64→BitVec 64→BitVec 64} (a b c:BitVec 64)
theorem Akv (l:Nat):Sx at' (l + 2) (RC a b c) (at' c a b) 57:=.call (l + 1) _ _ _ _ _ _ 7 7 7 (.num l c) (.num l a) (.num l b)
theorem Alz:Sx at' 7 (Ip a b c) (at' (at' c a b) (at' a (at' c a b) c) b) 207:=.call 6 _ _ _ _ _ _ 57 107 7 (Akv a b c 4) (.call 5 _ _ _ _ _ _ 7 57 7 (.num 4 a) (Akv a b c 3) (.num 4 c)) (.num 5 b)
theorem Ane:Sx at' 7 (Jb a b c) (at' b c (at' c a b)) 107:=.call 6 _ _ _ _ _ _ 7 7 57 (.num 5 b) (.num 5 c) (Akv a b c 4)
end
theorem Aco (P:List Fu) (l:Nat) (x y z:Ex) (ca cb cc:Nat) (h1:1 < P.length) (h2:Db P 1=3) (hx:RE P 0 l x ca) (hy:RE P 0 l y cb) (hz:RE P 0 l z cc):RE P 0 (l + 1) (CH x y z) (1 + (ca + (cb + cc))) :=
 Ao5 P 0 l _ _ _ _ _ _ _ _ (.call _ _ Ab h1 (by rw [show (1#64:BitVec 64).toNat=1 from rfl,h2];rfl)) hx hy hz
theorem Aly (P:List Fu) (a b c:BitVec 64) (h1:1 < P.length) (h2:Db P 1=3):RE P 0 8 (mX (Ip a b c) (Jb a b c)) 21:=by
 have i:∀ l,RE P 0 (l + 2) (RC a b c) 4:=fun l=>Aco P _ _ _ _ _ _ _ h1 h2 (FQ P 0 l c) (FQ P 0 l a) (FQ P 0 l b);have x:RE P 0 7 (Ip a b c) 13:=Aco P 6 _ _ _ _ _ _ h1 h2 (i 4) (Aco P 5 _ _ _ _ _ _ h1 h2 (FQ P 0 4 a) (i 3) (FQ P 0 4 c)) (FQ P 0 5 b);have y:RE P 0 7 (Jb a b c) 7:=Aco P 6 _ _ _ _ _ _ h1 h2 (FQ P 0 5 b) (FQ P 0 5 c) (i 4);exact Aoy P 0 7 2 0#64 _ _ _ _ (.ar _ _ _ Ab Ab rfl) x y
theorem Aqh (P:List Fu) (k n:Nat) (h1:1≤k) (h2:k≤25) (hn:Ht k=n) (hl:Bi P 1=3):RE P 1 8 (fX k n) (1 + n):=by
 have lo:∀ j,j < 3→RE P 1 7 (Bc j) 1:=fun j hj=>Af7 P 1 6 _ (by rw [hl,BitVec.toNat_ofNat,Nat.mod_eq_of_lt Aa];omega) (by rw [hl];decide);have h3:=Vw k;rw [hn] at h3;have hd:Nd P 1 (.mk k 0#64 (lcs n)):=.ar _ _ _ Aa Aa (by rw [hn];rcases h3 with rfl | rfl | rfl <;> rfl);unfold fX;clear hn;rcases h3 with rfl | rfl | rfl
 ·exact Aqv _ _ 7 _ _ _ _ hd (lo 0 Ab)
 ·exact Aoy _ _ 7 _ _ _ _ _ _ hd (lo 0 Ab) (lo 1 Ab)
 ·exact Ao5 _ _ 7 _ _ _ _ _ _ _ _ hd (lo 0 Ab) (lo 1 Ab) (lo 2 Ab)
theorem J6 (k:Nat) (h1:1≤k) (h2:k≤25) (a b c:BitVec 64):RgP (Cc k a b c) (fun i=>if i=0 then 22 else 2 + Ht k):=by
 have h0:∀ i,i < (Cc k a b c).length→i=0 ∨ i=1:=fun i hi=>by simp [Cc,pS] at hi;omega
 have h3:=Vw k;refine ⟨by simp [Cc,pS],by simp [Cc,pS],fun i hi=>?_,rfl,fun i hi=>?_,?_⟩
 ·rcases h0 i hi with rfl | rfl
  ·exact (show (0:Int)≤0∧(0:Int)≤0∧(0:Int)≤24 by decide)
  ·exact (show (0:Int)≤3∧(3:Int)≤3∧(3:Int)≤24 by decide)
 ·rcases h0 i hi with rfl | rfl
  ·exact Aps _ 0 15 _ _ (.other _ 5 0 _ _ [] [] _ Ab Ab (Aly (Cc k a b c) a b c (show 1 < 2 by decide) rfl))
  ·have:=Aps (Cc k a b c) 1 15 _ _ (.other _ 5 0 _ Ch [] [] _ Ab Ab (Aqh (Cc k a b c) k _ h1 h2 rfl rfl));rw [show 1 + (1 + Ht k)=2 + Ht k by omega] at this;exact this
 ·show 22 + ((2 + Ht k) + 0)≤6000;omega
theorem Qr {M:Seat} (ok:OkV M) (okP:OkP M) (k:Nat) (h1:1≤k) (h2:k≤25) (a b c:BitVec 64) :
 AK (Cc k a b c)≤6144∧neS (Cc k a b c) (Bj (Cc k a b c) (AK (Cc k a b c))).frames≤512∧(Bj (Cc k a b c) (AK (Cc k a b c))).words.length≤AK (Cc k a b c) ∧
  ∀ F:Nat→BitVec 64,(∀ i,i < (Bj (Cc k a b c) (AK (Cc k a b c))).words.length→F i=(Bj (Cc k a b c) (AK (Cc k a b c))).words.getD i 0#64) →
   ∃ m c',c'≤1000∧Rn M (DY F (fun _=>0#64) 0) m c'∧m.hl=true∧m.xt=Dn k (Dn k c a b) (Dn k a (Dn k c a b) c) b - Dn k b c (Dn k c a b):=by
 have hRE:RE (Cc k a b c) 0 8 (mX (Ip a b c) (Jb a b c)) 21:=Aly _ a b c (show 1 < 2 by decide) rfl;obtain ⟨Lx,hLx⟩:=He 7 _ _ _ (Alz (at':=Dn k) a b c);obtain ⟨Ly,hLy⟩:=He 7 _ _ _ (Ane (at':=Dn k) a b c);have hlen:∀ base,ImW (fun i=>(Bj (Cc k a b c) base).words.getD i 0#64) (1 + (AO 8 (mX (Ip a b c) (Jb a b c)) 0 (m0 (Cc k a b c) base)).most) ((AO 8 (mX (Ip a b c) (Jb a b c)) 0 (m0 (Cc k a b c) base)).words.length + 3) k (Ht k) (Bj (Cc k a b c) base).words.length (m0 (Cc k a b c) base) (AO 8 (mX (Ip a b c) (Jb a b c)) 0 (m0 (Cc k a b c) base)) ∧
  (Bj (Cc k a b c) base).frames=[1 + (AO 8 (mX (Ip a b c) (Jb a b c)) 0 (m0 (Cc k a b c) base)).most,4]∧(AO 8 (mX (Ip a b c) (Jb a b c)) 0 (m0 (Cc k a b c) base)).most≤21∧(AO 8 (mX (Ip a b c) (Jb a b c)) 0 (m0 (Cc k a b c) base)).words.length≤503∧(AO 8 (mX (Ip a b c) (Jb a b c)) 0 (m0 (Cc k a b c) base)).words.length=5 + Lx 1 + Ly 2:=fun base=>by
  have hst:=(Ce _ _ _ _ _ hRE).2 0 (m0 (Cc k a b c) base);have e1:=hst.most;have e2:=hst.words;rw [show (m0 (Cc k a b c) base).temps=0 from rfl,show (m0 (Cc k a b c) base).most=0 from rfl] at e1;rw [show (m0 (Cc k a b c) base).words.length=2 from rfl] at e2;have eU:=Afw (Ip a b c) (Jb a b c) (m0 (Cc k a b c) base) rfl rfl;have sv:∀ T r,(CI T r).words.length=T.words.length + 1∧(CI T r).bad=T.bad:=fun T r=>⟨Aj T 28 0 14 r 0 _,rfl⟩
  have hb:(AO 8 (mX (Ip a b c) (Jb a b c)) 0 (m0 (Cc k a b c) base)).bad=[]:=by
   rw [eU,HG,show ∀ X t,(Bp X t).bad=X.bad from fun _ _=>rfl,HG,(hLy _ _).2,(sv _ _).2,(hLx _ _).2];rfl
  have hl:(AO 8 (mX (Ip a b c) (Jb a b c)) 0 (m0 (Cc k a b c) base)).words.length=5 + Lx 1 + Ly 2:=by
   rw [eU,Aj,show ∀ X t,(Bp X t).words=X.words from fun _ _=>rfl,Aj,(hLy _ _).1,(sv _ _).1,(hLx _ _).1,show (m0 (Cc k a b c) base).words.length=2 from rfl];omega
  obtain ⟨I,hf⟩:=I9 k (Ht k) (Ip a b c) (Jb a b c) base ⟨h1,h2⟩ (Vw k) ⟨_,_,hst⟩ hb (Nat.lt_of_le_of_lt e2 Aa) (by have:=e1;show (AO 8 (mX (Ip a b c) (Jb a b c)) 0 (m0 (Cc k a b c) base)).most < 8192;omega);exact ⟨I,hf,by omega,by omega,hl⟩
 have h3:=Vw k;have q1:=hlen 512;have q2:=hlen (AK (Cc k a b c));have l1:=q1.1.el;have l2:=q2.1.el;have hbe:(Bj (Cc k a b c) (AK (Cc k a b c))).words.length + 512=AK (Cc k a b c):=by
  rw [l2,q2.2.2.2.2];unfold AK;rw [l1,q1.2.2.2.2]
 refine ⟨?_,?_,by omega,fun F hF=>?_⟩
 ·have:=q2.2.2.2.1;omega
 ·have hF:∀ x ∈ (Bj (Cc k a b c) (AK (Cc k a b c))).frames,x≤22:=fun x hx=>by
   rw [q2.2.1] at hx;have:=q2.2.2.1;simp only [Laq] at hx;omega
  have:=Rt (Cc k a b c) (Bj (Cc k a b c) (AK (Cc k a b c))).frames 22 hF 2 (Nat.le_refl 2);unfold neS;show (JY _ _ 2).getD 0 0≤512;rw [List.getD_eq_getElem?_getD];cases hg:(JY (Cc k a b c) (Bj (Cc k a b c) (AK (Cc k a b c))).frames 2)[0]? with
  | none=>show 0≤512;omega
  | some x =>
    have:=this x (List.mem_of_getElem? hg);show x≤512;omega
 ·have r:=YX ok okP k (Ht k) (Ip a b c) (Jb a b c) _ _ 207 107 21 ⟨h1,h2⟩ h3 (fun _ _ _ _ _ _=>Ald k h1 h2 _ _ _ _ _ _) (Alz a b c) (Ane a b c) rfl rfl hRE Aa (AK (Cc k a b c)) (congrArg (fun n:Nat=>(n:Int)) hbe.symm) F hF;obtain ⟨m,c',hc,hr⟩:=r;exact ⟨m,c',by omega,hr⟩
end Mv
namespace Mv
open Go
def lF0:Nat→BitVec 64:=Aa9 (G7 7 (w7 519)) 519 1 (fun _=>7#64)
def lG0:Nat→BitVec 64:=fun _=>0#64
def lG1:Nat→BitVec 64:=Df lG0 14 7#64
def lF1:Nat→BitVec 64:=Df lF0 (7#64:BitVec 64).toNat (lG1 (pF (Bn 28 0 14 15 0 0) 44))
def lG2:Nat→BitVec 64:=Df lG1 (pF (Bn 26 0 0 0 0 (-1)) 52) (BitVec.ofInt 64 (pN (Bn 26 0 0 0 0 (-1))))
def lXt:BitVec 64:=lG2 (pF (Bn 0 0 0 0 0 0) 48)
def lxM (i:Nat):Mc :=
 if i=0 then ⟨lF0,lG0,0#64,false,0#64⟩
 else if i=1 then ⟨lF0,lG1,1#64,false,0#64⟩
 else if i=2 then ⟨lF1,lG1,2#64,false,0#64⟩
 else if i=3 then ⟨lF1,lG2,3#64,false,0#64⟩
 else ⟨lF1,lG2,3#64,true,lXt⟩
theorem ZW {M:Seat} (ok:OkV M):∀ i,i < 4→(lxM i).hl=false∧BV M (lxM i) (lxM (i + 1)):=by
 intro i hi
 match i,hi with
 | 0,_=>exact ⟨rfl,FJ ok lF0 lG0 0#64 0#64 Ab (Bn 26 14 0 0 0 7) Ab Ab Ab⟩
 | 1,_=>exact ⟨rfl,FF ok lF0 lG1 1#64 0#64 Ab (Bn 28 0 14 15 0 0) Ab Ab Ab 7#64 Ab Ab⟩
 | 2,_=>exact ⟨rfl,FJ ok lF1 lG1 2#64 0#64 Ab (Bn 26 0 0 0 0 (-1)) Ab Ab Ab⟩
 | 3,_=>exact ⟨rfl,GE ok lF1 lG2 3#64 0#64 Ab (Bn 0 0 0 0 0 0) Ab Ab Ab⟩
structure OkL13 (M:Seat):Prop where
 c:OkLc M
 m:OkLm M
 v:OkV M
 s:OkS M
 k106:Ar M 106 Ajg=true
theorem Fn {M:Seat} (ok:OkL13 M):As M 106 [] [] 0 (Q3 (.bool true) [] 0):=by
 have hC:=KS ok.c;have hM:=Ra ok.m 7 (w7 519) 519 1 (fun _=>7#64) Ab Ab Ab;have hS:=OA ok.m.a ok.s;have hr:=Pp ok.v lxM 4 1000 Ab Ab (ZW ok.v) (.inl rfl);have hD:=PE ok.m 7 (w7 519) 519 Ab lF1 lG2 3#64 true lXt;have e7:lF1 519=7#64:=Ab;have exq:lXt=18446744073709551615#64:=Ab;rw [show (lxM 0).v=AL lF0 (fun _=>0#64) 0#64 false 0#64 from rfl,show (lxM 4).v=AL lF1 lG2 3#64 true lXt from rfl] at hr;rw [show Aa9 (G7 7 (w7 519)) 519 1 (fun _=>7#64)=lF0 from rfl] at hM;generalize lF0=F0 at *
 generalize lF1=F1 at *
 rw [exq] at hr hD;generalize lG2=G2 at *
 generalize w7 519=wb at *
 have h0:=Ws;have g0:=YE;rw [EG] at hC;rw [IF] at h0;generalize BW p0=sf at *
 generalize Fb [IC]=tf at *
 simp only [HA,Lbz] at hS;simp only [imV] at hM hD;refine Ac ok.k106 rfl fun x hx=>?_;refine eX ?_;simp only [Ajg,Alv,LZ,seval];refine cfK (hC) (by (try simp only [LY,seval]) <;> first | exact q1 | (intro i hi;obtain rfl:i=0:=Aa;simp only [h0,if_true,LY,seval];intro i hi;obtain rfl:i=0:=Aa;simp only [g0,mxW,if_true,LY,seval])) (by simp only [LX]) ?_;simp only [Lax,seval];refine cfK (hM) (by (try simp only [AL,LY,seval]) <;> first | exact q1 | (intro i hi;obtain rfl:i=0:=Aa;simp only [if_true,LY,seval])) (by simp only [AL,LX]) ?_;simp only [Lax,AL,seval];have zz:=Jr @Gc @Mu @LMS;refine cfY (hS) ?_;simp only [Ke,AW,seval];have zz:=@b5;refine Hx [272,480] [272] (hr) ?_;simp only [Lax,AL,seval];have zz:=@b5;refine cmY [272] (hD) ?_;simp only [Lax,AL,e7,seval];exact Ay.mkZ hx [] ⟨rfl,rfl,rfl⟩
def Amc:LC:=(sr [A1 2 (.alloc (.st (.cons zI (.cons zU (.cons .slice .nil)))))] (sr [mt 3 0,A1 4 (.build (.st (.cons zI (.cons zU (.cons .slice .nil)))) [(.f 0,1,(cI 26)),(.f 1,1,(.t 3))]),sb 3 2 4] .ret))
def Aip:LF:=⟨Amc,1,0,5,[.cell 2 true 3]⟩
def Al0:LC:=(sr [A1 2 (.alloc (.st (.cons zI (.cons zU (.cons .slice .nil)))))] (sr [mt 3 0,A1 4 (.build (.st (.cons zI (.cons zU (.cons .slice .nil)))) [(.f 0,1,(cI 27)),(.f 1,1,(.t 3))]),sb 3 2 4] .ret))
def Ahp:LF:=⟨Al0,1,0,5,[.cell 2 true 3]⟩
def Apq:LC:=(sr [bX 3 0,
 bX 4 1,
 bX 5 2,A1 6 (.alloc (.st (.cons zI (.cons zU (.cons .slice .nil)))))] (sr [la 7 3 3,la 8 3 4,la 9 3 5,A1 10 (.bsl 3 3 (.st (.cons zI (.cons zU (.cons .slice .nil)))) [(.i 3 0,3,(.t 7)),(.i 3 1,3,(.t 8)),(.i 3 2,3,(.t 9))]),A1 11 (.build (.st (.cons zI (.cons zU (.cons .slice .nil)))) [(.f 0,1,(cI 29)),(.f 1,1,(cU 1)),(.f 2,1,(.t 10))]),sb 3 6 11] .ret))
def Ai5:LF:=⟨Apq,3,0,12,[.cell 6 true 3]⟩
def An7:LC:=(sr [mU 7 0] (sr [lb 11 1 3,mt 12 0,mt 13 1,mt 14 2,kl 15 90 [(.t 11),(.t 12),(.t 13),(.t 14)],mt 10 15,ee 16 10 0,ee 17 10 1,mt 8 16,mt 9 17] (sr [mt 18 8,mt 7 18] .ret)))
def Agg:LF:=⟨An7,3,1,19,[.tmp 7]⟩
def Ami:LC:=(sr [mU 4 0,A1 5 (.mv (.c (.bool false)))] (sr [mt 10 0,kl 11 181 [(.t 10)],mt 9 11,ee 12 9 0,ee 13 9 1,A1 6 (.alloc (.st (.cons .slice (.cons zI .nil)))),sb 2 6 12,mt 7 13] (.seq (sr [mt 14 7,A1 15 (.eq true true (.iface [74]) (.t 14) (.c .nili))] (.cond (.t 15) (sr [mU 4 0,A1 5 (.mv (.c (.bool false)))] .ret) .skip)) (sr [la 17 2 6,mt 18 1,kl 19 108 [(.t 17),(.t 18)],mt 16 19,ee 20 16 0,ee 21 16 1,mt 8 20,mt 7 21] (.seq (sr [mt 22 7,A1 23 (.eq true true (.iface [74]) (.t 22) (.c .nili)),mt 24 23,mg 25 24 false 8,A2 26 24 false (.eq false true .ptr (.t 25) (.c .nilp)),
  FB 27 24 26] (.cond (.t 27) (sr [mU 4 0,A1 5 (.mv (.c (.bool false)))] .ret) .skip)) (sr [mt 28 8,kl 29 68 [],kl 30 71 [(.t 28),(.t 29),(cI 200000)]] (.seq (.regd [⟨0,0,mt 31 8⟩,⟨1,1,nc 32 31⟩,⟨2,3,fa 33 8210 32⟩,⟨3,7,lb 34 1 33⟩,⟨4,0,mt 35 8⟩,⟨5,16,nc 36 35⟩,⟨6,48,fa 37 8209 36⟩,⟨7,112,lb 38 1 37⟩,⟨8,15,mt 4 34⟩,⟨9,511,mt 5 38⟩]) .ret)))))))
def Aku:LF:=⟨Ami,2,0,39,[.tmp 4,.tmp 5]⟩
structure OkLS (M:Seat):Prop where
 f:OkL13 M
 cp:OkCp M
 p:OkP M
 k105:Ar M 105 Aku=true
theorem Qo {M:Seat} (ok:OkLm M) (n:Nat) (u:Nat→BitVec 64) (b:Nat) (h:b≤6144) (h1:n≤b) :
 As M 108 [imV (.lst 1 n fun j=>W (u j)) b,.nils] [] 0 (Q3 (AP (.ptr 0 []) .nili) [(0,AL (G7 n u) (fun _=>0#64) 0#64 false 0#64)] 1):=by
 have hR:=Gj ok b;rw [decide_eq_true ⟨by omega,by omega⟩] at hR;have hL:=Ky ok.a n Aa u;have d1:((b:Int) < (n:Int))=False:=eq_false Aa;refine Ac ok.k108 rfl fun x hx=>?_;refine eX ?_;simp only [Aen,Ai4,imV,LZ,seval];refine Ap (hR) ?_;simp only [d1,LZ,seval];have zz:=@b5;refine cfY (hL) ?_;simp only [EM,AL,seval];refine ⟨by omega,by omega,by omega,by omega,?_⟩;have zz:=BK @b7 @b5;exact DD hx [352] ⟨rfl,rfl,rfl⟩
theorem HY {M:Seat} (ok:OkLS M) (P:List Fu) (c:Nat→Nat) (hP:RgP P c) (hb:AK P≤6144) (hn:neS P (Bj P (AK P)).frames≤512) (hl:(Bj P (AK P)).words.length≤AK P)
 (m:Mc) (kk:Nat) (hk:kk≤200000) (hr:Rn M (DY (G7 (Bj P (AK P)).words.length fun i=>(Bj P (AK P)).words.getD i 0#64) (fun _=>0#64) 0) m kk) (hh:m.hl=true) :
 As M 105 [FC P,.nils] [] 0 (Q3 (AP (W m.xt) (.bool true)) [] 0):=by
 have hC:=Lf ok.cp P c hP hb hn;have hM:=Qo ok.f.m (Bj P (AK P)).words.length (fun i=>(Bj P (AK P)).words.getD i 0#64) (AK P) hb hl;have hS:=OA ok.f.m.a ok.f.s;obtain ⟨ms,e0,e1,hs⟩:=hr;have hr:=Pp ok.f.v ms kk 200000 hk Ab hs (.inl (by rw [e1];exact hh));rw [e0,e1] at hr;obtain ⟨mf,mgq,mp,ml,mx⟩:=m;simp only at hh;subst hh;rw [show (DY (G7 (Bj P (AK P)).words.length fun i=>(Bj P (AK P)).words.getD i 0#64) (fun _=>0#64) 0).v=AL (G7 (Bj P (AK P)).words.length fun i=>(Bj P (AK P)).words.getD i 0#64) (fun _=>0#64) 0#64 false 0#64 from rfl,show (Mc.mk mf mgq mp true mx).v=AL mf mgq mp true mx from rfl] at hr;rw [Aee] at hC;generalize hB:Bj P (AK P)=B at *
 generalize AK P=b at *
 generalize G7 B.words.length (fun i=>B.words.getD i 0#64)=F0 at *
 generalize B.words.length=n at *
 simp only [HA,Lbz] at hS;simp only [imV] at hM;have hL:=BD P hP.ne;refine Ac ok.k105 rfl fun x hx=>?_;refine eX ?_;simp only [Aku,Ami,LZ,seval];have zz:=BK @Ak @Py;refine cfY (hC) ?_;simp only [Lax,Ad,seval];refine cfK (hM) (by (try simp only [AL,LY,seval]) <;> first | exact q1 | (intro i hi;simp only [if_true,LY,seval])) (by simp only [AL,LX]) ?_;simp only [Lax,AL,seval];have zz:=Jr @Gc @Mu @LMS;refine cfY (hS) ?_;simp only [Ke,AW,seval];have zz:=@b5;refine Hx [224,432] [224] (hr) ?_;simp only [Lax,AL,seval];exact Ay.mkZ hx [] ⟨rfl,rfl,rfl⟩
def c24:LC:=(sr [bX 4 0,A1 8 (.mv (.c (.bool false)))] (sr [lb 21 1 4,
  Ea 22 .u64 21,
  aU 23 .rem 22 25,
  Ea 24 .i64 23,
  aJ 25 .add 1 24,sb 1 4 25] (sr [A1 9 (.mv (.fn 101))] (sr [A1 10 (.mv (.fn 102))] (sr [lb 27 1 4,kl 28 89 [(.t 27)],mt 26 28,ee 29 26 0,ee 30 26 1,mt 11 29,mt 12 30] (.seq (.regd [⟨1,0,mt 32 10⟩,⟨2,1,⟨(some 33),.dyn (.t 32) [(cU 0)],none⟩⟩,⟨3,0,mt 34 10⟩,⟨4,7,⟨(some 35),.dyn (.t 34) [(cU 1)],none⟩⟩,⟨5,0,mt 36 10⟩,⟨6,31,⟨(some 37),.dyn (.t 36) [(cU 2)],none⟩⟩,⟨0,0,lb 31 1 4⟩,⟨7,63,A1 38 (.bsl 3 3 (.st (.cons zI (.cons zU (.cons .slice .nil)))) [(.i 3 0,3,(.t 33)),(.i 3 1,3,(.t 35)),(.i 3 2,3,(.t 37))])⟩,⟨8,0,mt 39 11⟩,⟨9,447,A1 40 (.slsl 3 (.t 38) none (some (.t 39)))⟩,⟨10,1023,A1 41 (.build (.st (.cons zI (.cons zU (.cons .slice .nil)))) [(.f 0,1,(.t 31)),(.f 2,1,(.t 40))])⟩,⟨11,2047,A1 42 (.build (.st (.cons zI (.cons zI (.cons (.st (.cons zI (.cons zU (.cons .slice .nil)))) (.cons (.st (.cons zI (.cons zU (.cons .slice .nil)))) (.cons .slice (.cons .slice .nil))))))) [(.f 0,1,(cI 5)),(.f 2,3,(.t 41))])⟩,⟨12,4095,A1 43 (.bsl 10 1 (.st (.cons zI (.cons zI (.cons (.st (.cons zI (.cons zU (.cons .slice .nil)))) (.cons (.st (.cons zI (.cons zU (.cons .slice .nil)))) (.cons .slice (.cons .slice .nil))))))) [(.i 10 0,10,(.t 42))])⟩,⟨13,8191,A1 44 (.build (.st (.cons zI (.cons zI (.cons .slice .nil)))) [(.f 0,1,(cI 3)),(.f 1,1,(cI 3)),(.f 2,1,(.t 43))])⟩,⟨14,0,A1 13 (.alloc (.st (.cons zI (.cons zI (.cons .slice .nil)))))⟩,⟨15,32767,sb 3 13 44⟩]) (sr [A1 14 (.mv (.fn 103))] (sr [A1 45 (.mkfn 104 [(.t 4)]),mt 15 45] (sr [mt 46 14,mt 47 9,mt 48 3,⟨(some 49),.dyn (.t 47) [(.t 48)],none⟩,mt 50 9,mt 51 1,⟨(some 52),.dyn (.t 50) [(.t 51)],none⟩,mt 53 9,mt 54 2,⟨(some 55),.dyn (.t 53) [(.t 54)],none⟩,⟨(some 56),.dyn (.t 46) [(.t 49),(.t 52),(.t 55)],none⟩,A1 16 (.alloc (.st (.cons zI (.cons zU (.cons .slice .nil))))),sb 3 16 56] (.seq (.regd [⟨3,0,mt 60 9⟩,⟨4,0,mt 61 1⟩,⟨5,3,⟨(some 62),.dyn (.t 60) [(.t 61)],none⟩⟩,⟨7,0,mt 64 9⟩,⟨8,0,mt 65 3⟩,⟨9,31,⟨(some 66),.dyn (.t 64) [(.t 65)],none⟩⟩,⟨2,0,mt 59 14⟩,⟨6,0,la 63 3 16⟩,⟨10,255,⟨(some 67),.dyn (.t 59) [(.t 62),(.t 63),(.t 66)],none⟩⟩,⟨11,0,mt 68 9⟩,⟨12,0,mt 69 2⟩,⟨13,2047,⟨(some 70),.dyn (.t 68) [(.t 69)],none⟩⟩,⟨0,0,mt 57 14⟩,⟨1,0,la 58 3 16⟩,⟨14,16383,⟨(some 71),.dyn (.t 57) [(.t 58),(.t 67),(.t 70)],none⟩⟩,⟨16,0,mt 73 9⟩,⟨17,0,mt 74 2⟩,⟨18,131071,⟨(some 75),.dyn (.t 73) [(.t 74)],none⟩⟩,⟨19,0,mt 76 9⟩,⟨20,0,mt 77 3⟩,⟨21,1048575,⟨(some 78),.dyn (.t 76) [(.t 77)],none⟩⟩,⟨15,0,mt 72 14⟩,⟨22,0,la 79 3 16⟩,⟨23,8388607,⟨(some 80),.dyn (.t 72) [(.t 75),(.t 78),(.t 79)],none⟩⟩,⟨24,16777215,A1 81 (.bsl 3 2 (.st (.cons zI (.cons zU (.cons .slice .nil)))) [(.i 3 0,3,(.t 71)),(.i 3 1,3,(.t 80))])⟩,⟨25,33554431,A1 82 (.build (.st (.cons zI (.cons zU (.cons .slice .nil)))) [(.f 0,1,(cI 2)),(.f 2,1,(.t 81))])⟩,⟨26,67108863,A1 83 (.build (.st (.cons zI (.cons zI (.cons (.st (.cons zI (.cons zU (.cons .slice .nil)))) (.cons (.st (.cons zI (.cons zU (.cons .slice .nil)))) (.cons .slice (.cons .slice .nil))))))) [(.f 0,1,(cI 5)),(.f 2,3,(.t 82))])⟩,⟨27,134217727,A1 84 (.bsl 10 1 (.st (.cons zI (.cons zI (.cons (.st (.cons zI (.cons zU (.cons .slice .nil)))) (.cons (.st (.cons zI (.cons zU (.cons .slice .nil)))) (.cons .slice (.cons .slice .nil))))))) [(.i 10 0,10,(.t 83))])⟩,⟨28,268435455,A1 85 (.build (.st (.cons zI (.cons zI (.cons .slice .nil)))) [(.f 2,1,(.t 84))])⟩,⟨29,0,la 86 3 13⟩,⟨30,1073741823,A1 87 (.bsl 3 2 (.st (.cons zI (.cons zI (.cons .slice .nil)))) [(.i 3 0,3,(.t 85)),(.i 3 1,3,(.t 86))])⟩,⟨31,2147483647,mt 17 87⟩]) (sr [mt 88 15,mt 89 3,mt 90 1,mt 91 2,⟨(some 92),.dyn (.t 88) [(.t 89),(.t 90),(.t 91)],none⟩,mt 18 92] (sr [mt 94 17,kl 95 105 [(.t 94),(.c .nils)],mt 93 95,ee 96 93 0,ee 97 93 1,mt 19 96,mt 20 97] (sr [kl 98 106 [],mt 99 98,mg 100 99 true 20,
  N6 101 99 100,mt 102 101,mg 103 102 true 19,mg 104 102 true 15,mg 105 102 true 18,mg 106 102 true 15,mg 107 102 true 1,mg 108 102 true 18,mg 109 102 true 3,⟨(some 110),.dyn (.t 106) [(.t 107),(.t 108),(.t 109)],(some (102,true))⟩,mg 111 102 true 2,⟨(some 112),.dyn (.t 104) [(.t 105),(.t 110),(.t 111)],(some (102,true))⟩,mg 113 102 true 15,mg 114 102 true 2,mg 115 102 true 3,mg 116 102 true 18,⟨(some 117),.dyn (.t 113) [(.t 114),(.t 115),(.t 116)],(some (102,true))⟩,A2 118 102 true (.ari .sub (.t 112) (.t 117)),A2 119 102 true (.ari .eql (.t 103) (.t 118)),
  N6 120 102 119,mt 8 120] .ret)))))))))))))
def f24:LF:=⟨c24,4,0,121,[.tmp 8]⟩
end Mv
