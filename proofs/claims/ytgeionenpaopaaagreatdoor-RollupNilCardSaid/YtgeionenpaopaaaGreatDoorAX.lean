/- A part. -/
import Derived.Test.YtgeionenpaopaaaGreatDoorAW
set_option linter.all false
namespace Mv
open Go
theorem RY (n:Nat) (w:Nat):BitVec.ofInt w (n:Int)=BitVec.ofNat w n:=by
 apply BitVec.eq_of_toNat_eq;rw [BitVec.toNat_ofInt,BitVec.toNat_ofNat];have:((2 ^ w:Nat):Int)=(2:Int) ^ w:=by rw [Int.natCast_pow];rfl
 rw [← Int.natCast_emod];rfl
def Dg.put (d:Dg) (k:Nat) (b:BitVec 8):Dg:=Dg.mk' fun j=>if j=k then b else d.at j
theorem Dg.at_out (d:Dg) (j:Nat) (hj:¬ j < 32):d.at j=0:=by
 rw [Dg.at,List.getD_eq_getElem?_getD,List.getElem?_eq_none (by rw [d.h];omega)];rfl
theorem UI (A:List V) (H:Hp) (n:Nat) (zk zv:Z):Ag A H n (.mkmap zk zv)=⟨True,.map n,(n,.mp 0 (fun _=>zk.v 0) (fun _=>zv.v 0)) :: H⟩:=rfl
theorem T6 (A:List V) (H:Hp) (n:Nat) (s:ES) (z:Z) (ok:Bool) (m k:X):Ag A H n (.mlook s z ok m k)=Lw s z ok (m.ev A) (k.ev A) H:=rfl
theorem P5 (A:List V) (H:Hp) (n:Nat) (s:ES) (m k x:X):Ag A H n (.mupd s m k x)=WF s (m.ev A) (k.ev A) (x.ev A) H:=rfl
def MK (s:ES) (z:Z) (ok:Bool) (hh:Bool) (b k:V) (H:Hp):Out:=match b with
 | .mp n ks vs=>⟨hh=true∧k.solid=true∧AQ true s k k∧∀ i,i < n→AQ true s k (ks i),
  (match KD s k ks 0 n with
  | some i=>if ok then .tup (.fcons 0 (vs i) (.fcons 1 (.bool true) .fnil)) else vs i
  | none=>if ok then .tup (.fcons 0 (z.v 0) (.fcons 1 (.bool false) .fnil)) else z.v 0),H⟩
 | _=>bad H
def Mx (s:ES) (hh:Bool) (b k x:V) (id:Nat) (H:Hp):Out:=match b with
 | .mp n ks vs=>⟨hh=true∧k.solid=true∧x.solid=true∧AQ true s k k∧∀ i,i < n→AQ true s k (ks i),.tup .fnil,
  BC H id (.mp (match KD s k ks 0 n with | some _=>n | none=>n + 1) (fun j=>if j=(KD s k ks 0 n).getD n then k else ks j) (fun j=>if j=(KD s k ks 0 n).getD n then x else vs j))⟩
 | _=>bad H
theorem Aeg (s:ES) (z:Z) (ok:Bool) (id:Nat) (k:V) (H:Hp):Lw s z ok (.map id) k H=MK s z ok (Af H id) (hget H id) k H:=by
 simp only [Lw,MK];generalize hget H id=b;cases b <;> rfl
theorem VU (s:ES) (id:Nat) (k x:V) (H:Hp):WF s (.map id) k x H=Mx s (Af H id) (hget H id) k x id H:=by
 simp only [WF,Mx];generalize hget H id=b;cases b <;> rfl
section
variable {α:Type}
def Le (k:Dg):List (Dg × α)→Option Nat
 | []=>none
 | (a,_) :: r=>if k=a then some 0 else (Le k r).map (· + 1)
def lkp (k:Dg):List (Dg × α)→Option α
 | []=>none
 | (a,b) :: r=>if k=a then some b else lkp k r
def Iz (k:Dg) (x:α):List (Dg × α)→List (Dg × α)
 | []=>[(k,x)]
 | (a,b) :: r=>if k=a then (k,x) :: r else (a,b) :: Iz k x r
def G9 (g:α→V) (d:α) (l:List (Dg × α)):V:=.mp l.length (fun j=>dg (l.getD j (Dg.zero,d)).1) (fun j=>g (l.getD j (Dg.zero,d)).2)
theorem RR (k:Dg) (ks:Nat→V) (d:α):∀ (l:List (Dg × α)) (i:Nat),(∀ j,j < l.length→ks (i + j)=dg (l.getD j (Dg.zero,d)).1)→KD (.ar 32 1 false .int) (dg k) ks i l.length=(Le k l).map (i + ·)
 | [],_,_=>rfl
 | (a, b) :: r, i, h => by
   have h0:=h 0 BF;simp only [Nat.add_zero,List.getD_cons_zero] at h0
   have ih:=RR k ks d r (i + 1) (fun j hj=>by
    have:=h (j + 1) (by simpa using hj);simp only [List.getD_cons_succ] at this
    rw [← this];congr 1;omega)
   simp only [List.length_cons,KD,h0,Jh,decide_eq_true_eq,Le];by_cases hk:k=a
   ·simp [hk]
   ·simp only [hk,if_false,ih,Option.map_map]
    congr 1
    funext j;simp only [Function.comp];omega
theorem RD (k:Dg) (d:α) (l:List (Dg × α)):KD (.ar 32 1 false .int) (dg k) (fun j=>dg (l.getD j (Dg.zero,d)).1) 0 l.length=Le k l:=by
 rw [RR k _ d l 0 (fun j _=>by rw [Nat.zero_add])];cases Le k l <;> simp
theorem Sc (k:Dg) (d:α):∀ l:List (Dg × α),lkp k l=(Le k l).map (fun i=>(l.getD i (Dg.zero,d)).2)
 | []=>rfl
 | (a, b) :: r => by
   simp only [lkp,Le];by_cases hk:k=a
   ·simp [hk]
   ·simp only [hk,if_false,Sc k d r,Option.map_map]
    congr 1
def lkR (z:Z) (ok:Bool) (g:α→V):Option α→V
 | some x=>if ok then .tup (.fcons 0 (g x) (.fcons 1 (.bool true) .fnil)) else g x
 | none=>if ok then .tup (.fcons 0 (z.v 0) (.fcons 1 (.bool false) .fnil)) else z.v 0
theorem Aii (z:Z) (g:α→V) (x:α):lkR z true g (some x) = .tup (.fcons 0 (g x) (.fcons 1 (.bool true) .fnil)):=rfl
theorem Ak4 (z:Z) (g:α→V):lkR z true g none = .tup (.fcons 0 (z.v 0) (.fcons 1 (.bool false) .fnil)):=rfl
theorem Ake (z:Z) (g:α→V) (x:α):lkR z false g (some x)=g x:=rfl
theorem Ajy (z:Z) (g:α→V):lkR z false g none=z.v 0:=rfl
theorem TP (z:Z) (ok hh:Bool) (g:α→V) (d:α) (l:List (Dg × α)) (k:Dg) (H:Hp):MK (.ar 32 1 false .int) z ok hh (G9 g d l) (dg k) H=⟨hh=true,lkR z ok g (lkp k l),H⟩:=by
 simp only [MK,G9,RD,Sc k d l,E4,eq_true (HJ true _ _),implies_true,Lav]
 congr 1
 cases Le k l <;> rfl
theorem NQ (k:Dg) (x:α):∀ l:List (Dg × α),(Iz k x l).length=(match Le k l with | some _=>l.length | none=>l.length + 1)
 | []=>rfl
 | (a, b) :: r => by
   simp only [Iz,Le];by_cases hk:k=a
   ·simp [hk]
   ·simp only [hk,if_false,List.length_cons,NQ k x r];cases Le k r <;> rfl
theorem Sw (k:Dg) (x:α) (d:Dg × α):∀ (l:List (Dg × α)) (j:Nat),(Iz k x l).getD j d=if j=(Le k l).getD l.length then (k,x) else l.getD j d
 | [], j => by
   simp only [Iz,Le,Option.getD_none,List.length_nil];cases j <;> simp
 | (a, b) :: r, j => by
   simp only [Iz,Le];by_cases hk:k=a
   ·simp only [hk,if_true,Option.getD_some];cases j <;> simp
   ·simp only [hk,if_false];cases j with
    | zero =>
      simp only [List.getD_cons_zero,List.length_cons];rw [if_neg];cases Le k r <;> simp
    | succ j =>
      simp only [List.getD_cons_succ,Sw k x d r j,List.length_cons];have e:((Le k r).map (· + 1)).getD (r.length + 1)=(Le k r).getD r.length + 1:=by cases Le k r <;> rfl
      rw [e];simp only [Nat.add_right_cancel_iff]
theorem Wz (hh:Bool) (g:α→V) (d:α) (l:List (Dg × α)) (k:Dg) (x:α) (id:Nat) (H:Hp):Mx (.ar 32 1 false .int) hh (G9 g d l) (dg k) (g x) id H=⟨hh=true∧(g x).solid=true,.tup .fnil,BC H id (G9 g d (Iz k x l))⟩:=by
 have e:G9 g d (Iz k x l) = .mp (match Le k l with | some _=>l.length | none=>l.length + 1) (fun j=>if j=(Le k l).getD l.length then dg k else dg (l.getD j (Dg.zero,d)).1) (fun j=>if j=(Le k l).getD l.length then g x else g (l.getD j (Dg.zero,d)).2):=by
  simp only [G9,NQ,Sw]
  congr 1
  ·funext j;split <;> rfl
  ·funext j;split <;> rfl
 rw [e];simp only [Mx,G9,RD,E4,eq_true (HJ true _ _),implies_true,Lav]
theorem SX (m:List Nat) (g:α→V) (hg:∀ x,(g x).ren m=g x) (d:α) (l:List (Dg × α)):(G9 g d l).ren m=G9 g d l:=by
 simp only [G9,V.ren,YB,hg]
end
structure Pr where
 l:List (BitVec 8)
 h:l.length=64
deriving DecidableEq
def Pr.at (d:Pr) (j:Nat):BitVec 8:=d.l.getD j 0
def Pr.mk' (f:Nat→BitVec 8):Pr:=⟨(List.range 64).map f,by simp⟩
theorem Pr.at_mk' (f:Nat→BitVec 8) (j:Nat) (hj:j < 64):(Pr.mk' f).at j=f j:=by
 simp [Pr.at,Pr.mk',List.getD,List.getElem?_map,List.getElem?_range hj]
theorem Pr.ext' {a b:Pr} (h:∀ j,j < 64→a.at j=b.at j):a=b:=by
 obtain ⟨l,hl⟩:=a;obtain ⟨m,hm⟩:=b;have:l=m:=by
  apply List.ext_getElem Aa;intro i h1 h2;have:=h i Aa;simpa [Pr.at,List.getD,h1,h2] using this
 subst this;rfl
def Pr.zero:Pr:=Pr.mk' fun _=>0
theorem Pr.at_out (d:Pr) (j:Nat) (hj:¬ j < 64):d.at j=0:=by
 rw [Pr.at,List.getD_eq_getElem?_getD,List.getElem?_eq_none (by rw [d.h];omega)];rfl
theorem Pr.at_zero (j:Nat):Pr.zero.at j=0:=by
 by_cases hj:j < 64
 ·rw [Pr.zero,Pr.at_mk' _ _ hj]
 ·exact Pr.at_out _ _ hj
def CS (p:Pr):V:=.ar 1 64 (fun j=>B (p.at j))
theorem Ui (p:Pr):(CS p).solid=true:=rfl
theorem Wy (p:Pr):(CS p).size=64:=rfl
theorem Ab6 (p:Pr):(CS p).isAgg=true:=rfl
theorem ZP (m:List Nat) (p:Pr):(CS p).ren m=CS p:=rfl
theorem Adn (k:Nat) (p:Pr):V.get [.i 1 k] (CS p)=B (p.at k):=rfl
theorem Ze (p:Pr):UY 1 64 (CS p)=True:=by simp [CS,UY]
theorem Z4 (c:Bool) (a b:Pr):AQ c (.ar 64 1 false .int) (CS a) (CS b):=by
 simp only [AQ,CS,true_and];intro i _;refine ⟨rfl,rfl,?_⟩;simp only [B]
theorem Yc (a b:Pr):AX (.ar 64 1 false .int) (CS a) (CS b)=decide (a=b):=by
 have h1:AX (.ar 64 1 false .int) (CS a) (CS b)=(List.range 64).all (fun i=>decide (a.at i=b.at i)):=by
  simp only [AX,CS,B,eqB]
 rw [h1,Bool.eq_iff_iff,List.all_eq_true];simp only [decide_eq_true_eq,List.mem_range];constructor
 ·exact fun h=>Pr.ext' h
 ·rintro rfl _ _;rfl
theorem Ac0 (d:Dg):UY 1 32 (dg d)=True:=by simp [dg,UY]
theorem Us (o n sz:Nat) (d:Dg):Iw o n sz (dg d)=some (sz,n,fun i=>B (d.at (o + i))):=rfl
theorem Tn (o n:Nat) (d:Dg):GZ o n 1 (dg d)=(o + n≤32):=by simp [dg,GZ]
theorem PF (o n sz:Nat) (d:Pr):Iw o n sz (CS d)=some (sz,n,fun i=>B (d.at (o + i))):=rfl
theorem PS (o n:Nat) (d:Pr):GZ o n 1 (CS d)=(o + n≤64):=by simp [CS,GZ]
theorem Yu (m:List Nat) (d:Pr) (l:List (Dg × Pr)):(G9 CS d l).ren m=G9 CS d l:=SX m CS (fun _=>rfl) d l
theorem Ael (p:Pr) (i:Nat) (r:V):KK (CS p) i r = .fcons i (CS p) r:=rfl
theorem Acq (p:Pr):HT (CS p)=True:=by simp [HT,CS,V.solid]
end Mv
namespace Mv
open Go
variable {M:Seat}
def LZ:=(aq9 (Ik @LG @LP @LN @c5 @V.ren.eq_2 @V.ren.eq_3 @V.ren.eq_4 @V.ren.eq_5 @V.ren.eq_6 @V.ren.eq_7 @V.ren.eq_8 @V.ren.eq_9 @V.ren.eq_10 @V.ren.eq_11) (Dm @V.ren.eq_12 @V.ren.eq_13 @V.ren.eq_14 @Bf.eq_1 @Bf.eq_2 @AH.eq_1 @AH.eq_2 @AM.eq_1 @AM.eq_2 @AM.eq_3 @AM.eq_4 @Vy.eq_1 @Vy.eq_2 @Gg.eq_1 @Gg.eq_2) (Dm @Mv.hx.eq_1 @Dq.eq_1 @Dq.eq_2 @bs.eq_1 @GD.eq_1 @GD.eq_2 @LK.isW.eq_1 @LK.isW.eq_2 @LK.isW.eq_3 @LK.isW.eq_4 @LK.isW.eq_5 @LK.isW.eq_6 @LK.isW.eq_7 @LK.isW.eq_8 @LK.isA.eq_1) (Dm @LK.isA.eq_2 @LK.isA.eq_3 @LK.isA.eq_4 @LK.isA.eq_5 @LK.isA.eq_6 @LK.isA.eq_7 @b6 @LK.isP.eq_2 @LK.isP.eq_3 @LK.isP.eq_4 @LK.isP.eq_5 @LK.isP.eq_6 @LK.isP.eq_7 @LK.isP.eq_8 @LK.isP.eq_9) (Dm @LK.isP.eq_10 @LK.isP.eq_11 @LK.isP.eq_12 @LK.isP.eq_13 @LK.isP.eq_14 @num.eq_1 @num.eq_2 @X.ev.eq_1 @X.ev.eq_2 @X.ev.eq_3 @X.ev.eq_4 @BY.eq_1 @BY.eq_2 @Bu.eq_1 @Bu.eq_2) (Dm @DN.eq_1 @DN.eq_2 @C5.eq_1 @C5.eq_2 @c7 @c8 @BC.eq_1 @BC.eq_2 @CT.eq_1 @CT.eq_2 @c9 @d7 @CQ.eq_1 @CQ.eq_2 @CQ.eq_3) (Dm @j6 @j7 @j8 @j9 @k6 @f9 @j0 @j3 @j4 @j5 @V.set.eq_1 @V.set.eq_2 @V.set.eq_3 @V.set.eq_4 @d9) (Dm @f5 @f6 @f7 @V.fset.eq_1 @V.fset.eq_2 @H2.eq_1 @H2.eq_2 @H2.eq_3 @c4 @Z.v.eq_2 @Z.v.eq_3 @Z.v.eq_4 @Z.v.eq_5 @Z.v.eq_6 @Z.v.eq_7) (Dm @Z.v.eq_8 @Z.v.eq_9 @Z.v.eq_10 @Z.v.eq_11 @Z.v.eq_12 @Z.sz.eq_1 @Z.sz.eq_2 @Z.sz.eq_3 @Z.sz.eq_4 @Z.sz.eq_5 @Ca.eq_1 @Ca.eq_2 @Ca.eq_3 @forall_const.{0} @forall_const.{1}))
def PG:=(BK @LZ @b9)
def EM:=(BK @LZ @b5)
def LY:=(aq5 (Ik @Dg.at_zero @Yn @Rw @LT @LP @Ls.eq_1 @Ls.eq_2 @Bh.eq_1 @Bh.eq_2 @Bh.eq_3 @a7 @a8 @a9 @d8) (Dm @Aw.eq_5 @Aw.eq_6 @Aw.eq_7 @Aw.eq_8 @Aw.eq_9 @Aw.eq_10 @Aw.eq_11 @Aw.eq_12 @Aw.eq_13 @Aw.eq_14 @Aw.eq_15 @Aw.eq_16 @Aw.eq_17 @Aw.eq_18 @Aw.eq_19) (Ik @Aw.eq_20 @Aw.eq_21 @Aw.eq_22 @Aw.eq_23 @Aw.eq_24 @Aw.eq_25 @Aw.eq_26 @Aw.eq_27 @Aw.eq_28 @Aw.eq_29 @Aw.eq_30 @Aw.eq_31 @Aw.eq_32 @Aw.eq_33) (Dm @Aw.eq_34 @Aw.eq_35 @Aw.eq_36 @Aw.eq_37 @Aw.eq_38 @Aw.eq_40 @B3.eq_1 @B3.eq_2 @c7 @c8 @c9 @d7 @j6 @j7 @j8) (Dm @j9 @k6 @f9 @j0 @j3 @j4 @j5 @d9 @f5 @f6 @f7 @Aqc @Aqk @implies_true.{0} @implies_true.{1}))
def LX:=(BK (De @b5 @k7 @Apn.eq_1 @Aod.eq_1 @b9 @AG.eq_1 @AG.eq_2 @AG.eq_3 @AG.eq_4 @AG.eq_5 @AG.eq_6 @AG.eq_7) (KT @AG.eq_8 @AG.eq_9 @AG.eq_10 @AG.eq_11 @Cw.eq_1 @Cw.eq_2 @ws.eq_1 @P9 @Ai6 @Pc @and_self @implies_true.{0} @implies_true.{1}))
def LV:=(De @EO.eq_1 @EO.eq_2 @Hy.eq_1 @Hy.eq_2 @H9.eq_1 @H9.eq_2 @Ez.eq_1 @Ez.eq_2 @b5 @k7 @a6 @LTP)
def Dz:=(BK @LV @LZ)
def DK:=(BK @LY @Dz)
def LM:=(BK (KT @UI @T6 @P5 @Aeg @VU @TP @Wz @Aii @Ak4 @Ake @Ajy @Ui @Wy) (Ik @Ab6 @ZP @Adn @Ze @Z4 @Yc @Ael @Acq @Ac0 @Us @Tn @PF @PS @Yu))
def Lax:=(BK @LM @EM)
def AW:=(BK @LM @LZ)
theorem Ap {f:Nat} {us us0:List V} {H:Hp} {n:Nat} {K:V→Hp→Prop} {v:V} (hr:As M f us0 [] 0 (Q3 v [] 0)) (hK:K v H) (hus:Bh H [] (ids H) us0 us:=by ((try simp only [LY,seval]) <;> exact q1)) (hv:v.ren (Bo [] n 0)=v:=by first | rfl | (simp only [LN,LP,V.ren,AP,Cz])) (hn:AG v:=by simp only [LX]):Bk M f us H n K:=HD hr hus hv hn hK
theorem Avq {f:Nat} {us us0:List V} {H Hn:Hp} {n kn:Nat} {K:V→Hp→Prop} {v:V} (hr:As M f us0 [] 0 (Q3 v Hn kn)) (hK:K (v.ren (AM [] n kn)) (Bf (AM [] n kn) Hn ++ H)) (hk:decide (kn≤16)=true:=by decide) (hus:Bh H [] (ids H) us0 us:=by ((try simp only [LY,seval]) <;> exact q1)) (hv:AG v:=by simp only [LX]) (hn:Cw Hn:=by simp only [LX]):Bk M f us H n K:=Si hr hk hus hv hn hK
theorem Ai0 {f:Nat} {us us0:List V} {H:Hp} {n:Nat} {K:V→Hp→Prop} {v:V} (hr:As M f us0 [] 0 (Q3 v [] 0)) (hK:K v H) (hus:Bh H [] (ids H) us0 us:=by ((try simp only [LY,seval]) <;> exact q1)) (hv:v.ren (Bo [] n 0)=v:=by first | rfl | (simp only [LN,LP,V.ren,AP,Cz])) (hn:AG v:=by simp only [LX]):IR M f us H n K:=WE hr hus hv hn hK
theorem Aw2 {f:Nat} {us us0:List V} {H Hn:Hp} {n kn:Nat} {K:V→Hp→Prop} {v:V} (hr:As M f us0 [] 0 (Q3 v Hn kn)) (hK:K (v.ren (AM [] n kn)) (Bf (AM [] n kn) Hn ++ H)) (hk:decide (kn≤16)=true:=by decide) (hus:Bh H [] (ids H) us0 us:=by ((try simp only [LY,seval]) <;> exact q1)) (hv:AG v:=by simp only [LX]) (hn:Cw Hn:=by simp only [LX]):IR M f us H n K:=Agp hr hk hus hv hn hK
theorem Aw7 {f:Nat} {us us0:List V} {H H0 Hn:Hp} {n k kn:Nat} {K:V→Hp→Prop} {v:V} (m:List Nat) (hr:As M f us0 H0 k (Q3 v Hn kn)) (hK:K (v.ren (AM m n kn)) (Bf (AM m n kn) Hn ++ AH H m)) (hm:(decide m.Nodup && decide (m.length=k) && decide (k≤kn) && decide (kn≤k + 16))=true:=by decide) (hall:(m.all fun i=>Af H i)=true:=by rfl) (hus:Bh H m (CV H m) us0 us:=by ((try simp only [LY,seval]) <;> exact q1)) (hH:B3 H m (CV H m) H0:=by ((try simp only [LY,seval]) <;> exact q1)) (hv:AG v:=by simp only [LX]) (hn:Cw Hn:=by simp only [LX]):IR M f us H n K:=Air m hr hm hall hus hH hv hn hK
theorem Ay.mkZ {x:Ctx} {rs:List RVr} {Q:V→Hp→Nat→Prop} {A:List V} {H:Hp} {N:Nat} {k:Nat} (hx:x.k=k) (m:List Nat) {v:V} {H':Hp} {N':Nat} (h4:Q v H' N') (hm:(decide m.Nodup && ([]:List Nat).all (fun i=>!m.contains i) && decide (m.length≤N') && decide (k≤N') && (List.range k).all (fun j=>m[j]? == some j))=true:=by decide) (h1:(EO A H rs).1:=by (simp only [Dz,seval])) (h2:B5 H m [] v (EO A H rs).2:=by ((try simp only [DK,seval]) <;> exact q2)) (h3:B3 H m [] H':=by ((try simp only [LY,seval]) <;> exact q2)):Ay M x rs Q A H N:=Ay.mk hx m [] v H' N' hm h1 h2 h3 h4
theorem cpK {f:Nat} {us us0:List V} {H:Hp} {n:Nat} {K:V→Hp→Prop} {v:V} (hr:As M f us0 [] 0 (Q3 v [] 0)) (hus:Bh H [] (ids H) us0 us) (hn:AG v) (hK:K v H) (hv:v.ren (Bo [] n 0)=v:=by first | rfl | (simp only [LN,LP,V.ren,AP,Cz])):Bk M f us H n K:=HD hr hus hv hn hK
theorem cfK {f:Nat} {us us0:List V} {H Hn:Hp} {n kn:Nat} {K:V→Hp→Prop} {v:V} (hr:As M f us0 [] 0 (Q3 v Hn kn)) (hus:Bh H [] (ids H) us0 us) (hn:AG v∧Cw Hn) (hK:K (v.ren (AM [] n kn)) (Bf (AM [] n kn) Hn ++ H)) (hk:decide (kn≤16)=true:=by decide):Bk M f us H n K:=Si hr hk hus hn.1 hn.2 hK
theorem cmK {f:Nat} {us us0:List V} {H H0 Hn:Hp} {n k kn:Nat} {K:V→Hp→Prop} {v:V} (m:List Nat) (hr:As M f us0 H0 k (Q3 v Hn kn)) (hs:Bh H m (CV H m) us0 us∧B3 H m (CV H m) H0) (hn:AG v∧Cw Hn) (hK:K (v.ren (AM m n kn)) (Bf (AM m n kn) Hn ++ AH H m)) (hm:(decide m.Nodup && decide (m.length=k) && decide (k≤kn) && decide (kn≤k + 16))=true:=by decide) (hall:(m.all fun i=>Af H i)=true:=by rfl):Bk M f us H n K:=Sf m hr hm hall hs.1 hs.2 hn.1 hn.2 hK
theorem cbK {f:Nat} {us us0:List V} {H H0 Hn:Hp} {n k kn:Nat} {K:V→Hp→Prop} {v:V} (m m0:List Nat) (hr:As M f us0 H0 k (Q3 v Hn kn)) (hs:Bh H m (CV H m) us0 us∧B3 H m (CV H m) H0) (hn:AG v∧Cw Hn) (hK:K (v.ren (AM m n kn)) (Bf (AM m n kn) Hn ++ AH H m0)) (h0:((ids H0).all fun id=>match m[id]? with | some i=>m0.contains i | none=>true)=true:=by rfl) (h0m:(m0.all fun i=>m.contains i)=true:=by rfl) (hm:(decide m.Nodup && decide (m.length=k) && decide (k≤kn) && decide (kn≤k + 16))=true:=by decide) (hall:(m.all fun i=>Af H i || DV us i)=true:=by rfl) (hall0:(m0.all fun i=>Af H i)=true:=by rfl):Bk M f us H n K:=Adh m m0 hr h0 h0m hm hall hall0 hs.1 hs.2 hn.1 hn.2 hK
theorem cnK {f:Nat} {us us0:List V} {H H0 Hn:Hp} {n k kn:Nat} {K:V→Hp→Prop} {v:V} (m m0:List Nat) (hr:As M f us0 H0 k (Q3 v Hn kn)) (hs:Bh H m [] us0 us∧B3 H m [] H0) (hK:K (v.ren (AM m n kn)) (Bf (AM m n kn) Hn ++ AH H m0)) (h0:((ids H0).all fun id=>match m[id]? with | some i=>m0.contains i | none=>true)=true:=by rfl) (h0m:(m0.all fun i=>m.contains i)=true:=by rfl) (hm:(decide m.Nodup && decide (m.length=k) && decide (k≤kn) && decide (kn≤k + 16))=true:=by decide) (hall:(m.all fun i=>Af H i || (Qq m0 H i || DV us i))=true:=by rfl) (hall0:(m0.all fun i=>Af H i)=true:=by rfl):Bk M f us H n K:=SP m m0 hr h0 h0m hm hall hall0 hs.1 hs.2 hK
theorem opK {f:Nat} {us us0:List V} {H:Hp} {n:Nat} {K:V→Hp→Prop} {v:V} (hr:As M f us0 [] 0 (Q3 v [] 0)) (hus:Bh H [] (ids H) us0 us) (hn:AG v) (hK:K v H) (hv:v.ren (Bo [] n 0)=v:=by first | rfl | (simp only [LN,LP,V.ren,AP,Cz])):IR M f us H n K:=WE hr hus hv hn hK
theorem ofK {f:Nat} {us us0:List V} {H Hn:Hp} {n kn:Nat} {K:V→Hp→Prop} {v:V} (hr:As M f us0 [] 0 (Q3 v Hn kn)) (hus:Bh H [] (ids H) us0 us) (hn:AG v∧Cw Hn) (hK:K (v.ren (AM [] n kn)) (Bf (AM [] n kn) Hn ++ H)) (hk:decide (kn≤16)=true:=by decide):IR M f us H n K:=Agp hr hk hus hn.1 hn.2 hK
theorem onK {f:Nat} {us us0:List V} {H H0 Hn:Hp} {n k kn:Nat} {K:V→Hp→Prop} {v:V} (m m0:List Nat) (hr:As M f us0 H0 k (Q3 v Hn kn)) (hs:Bh H m [] us0 us∧B3 H m [] H0) (hK:K (v.ren (AM m n kn)) (Bf (AM m n kn) Hn ++ AH H m0)) (h0:((ids H0).all fun id=>match m[id]? with | some i=>m0.contains i | none=>true)=true:=by rfl) (h0m:(m0.all fun i=>m.contains i)=true:=by rfl) (hm:(decide m.Nodup && decide (m.length=k) && decide (k≤kn) && decide (kn≤k + 16))=true:=by decide) (hall:(m.all fun i=>Af H i || (Qq m0 H i || DV us i))=true:=by rfl) (hall0:(m0.all fun i=>Af H i)=true:=by rfl):IR M f us H n K:=Awv m m0 hr h0 h0m hm hall hall0 hs.1 hs.2 hK
theorem rqK {x:Ctx} {rs:List RVr} {Q:V→Hp→Nat→Prop} {A:List V} {H:Hp} {N:Nat} {k:Nat} (hx:x.k=k) (m:List Nat) {v:V} {H':Hp} {N':Nat} (h4:Q v H' N') (h1:(EO A H rs).1) (h2:B5 H m [] v (EO A H rs).2) (h3:B3 H m [] H') (hm:(decide m.Nodup && ([]:List Nat).all (fun i=>!m.contains i) && decide (m.length≤N') && decide (k≤N') && (List.range k).all (fun j=>m[j]? == some j))=true:=by decide):Ay M x rs Q A H N:=Ay.mk hx m [] v H' N' hm h1 h2 h3 h4
theorem IQ {f:Nat} {us us0:List V} {H:Hp} {n:Nat} {K:V→Hp→Prop} {v:V} (hr:As M f us0 [] 0 (Q3 v [] 0)) (hK:K v H) (hv:v.ren (Bo [] n 0)=v:=by first | rfl | (simp only [LN,LP,V.ren,AP,Cz])) (hus:Bh H [] (ids H) us0 us:=by (try simp only [zz,LY,seval]) <;> first | exact True.intro | rfl) (hn:AG v:=by simp only [zz,LX]):Bk M f us H n K:=cpK hr hus hn hK hv
theorem cfY {f:Nat} {us us0:List V} {H Hn:Hp} {n kn:Nat} {K:V→Hp→Prop} {v:V} (hr:As M f us0 [] 0 (Q3 v Hn kn)) (hK:K (v.ren (AM [] n kn)) (Bf (AM [] n kn) Hn ++ H)) (hk:decide (kn≤16)=true:=by decide) (hus:Bh H [] (ids H) us0 us:=by (try simp only [zz,LY,seval]) <;> first | exact True.intro | rfl) (hn:AG v∧Cw Hn:=by simp only [zz,LX]):Bk M f us H n K:=cfK hr hus hn hK hk
theorem cmY {f:Nat} {us us0:List V} {H H0 Hn:Hp} {n k kn:Nat} {K:V→Hp→Prop} {v:V} (m:List Nat) (hr:As M f us0 H0 k (Q3 v Hn kn)) (hK:K (v.ren (AM m n kn)) (Bf (AM m n kn) Hn ++ AH H m)) (hm:(decide m.Nodup && decide (m.length=k) && decide (k≤kn) && decide (kn≤k + 16))=true:=by decide) (hall:(m.all fun i=>Af H i)=true:=by rfl) (hs:Bh H m (CV H m) us0 us∧B3 H m (CV H m) H0:=by constructor <;> (try simp only [zz,LY,seval]) <;> first | exact True.intro | rfl) (hn:AG v∧Cw Hn:=by simp only [zz,LX]):Bk M f us H n K:=cmK m hr hs hn hK hm hall
theorem cbY {f:Nat} {us us0:List V} {H H0 Hn:Hp} {n k kn:Nat} {K:V→Hp→Prop} {v:V} (m m0:List Nat) (hr:As M f us0 H0 k (Q3 v Hn kn)) (hK:K (v.ren (AM m n kn)) (Bf (AM m n kn) Hn ++ AH H m0)) (h0:((ids H0).all fun id=>match m[id]? with | some i=>m0.contains i | none=>true)=true:=by rfl) (h0m:(m0.all fun i=>m.contains i)=true:=by rfl) (hm:(decide m.Nodup && decide (m.length=k) && decide (k≤kn) && decide (kn≤k + 16))=true:=by decide) (hall:(m.all fun i=>Af H i || DV us i)=true:=by rfl) (hall0:(m0.all fun i=>Af H i)=true:=by rfl) (hs:Bh H m (CV H m) us0 us∧B3 H m (CV H m) H0:=by constructor <;> (try simp only [zz,LY,seval]) <;> first | exact True.intro | rfl) (hn:AG v∧Cw Hn:=by simp only [zz,LX]):Bk M f us H n K:=cbK m m0 hr hs hn hK h0 h0m hm hall hall0
theorem Hx {f:Nat} {us us0:List V} {H H0 Hn:Hp} {n k kn:Nat} {K:V→Hp→Prop} {v:V} (m m0:List Nat) (hr:As M f us0 H0 k (Q3 v Hn kn)) (hK:K (v.ren (AM m n kn)) (Bf (AM m n kn) Hn ++ AH H m0)) (h0:((ids H0).all fun id=>match m[id]? with | some i=>m0.contains i | none=>true)=true:=by rfl) (h0m:(m0.all fun i=>m.contains i)=true:=by rfl) (hm:(decide m.Nodup && decide (m.length=k) && decide (k≤kn) && decide (kn≤k + 16))=true:=by decide) (hall:(m.all fun i=>Af H i || (Qq m0 H i || DV us i))=true:=by rfl) (hall0:(m0.all fun i=>Af H i)=true:=by rfl) (hs:Bh H m [] us0 us∧B3 H m [] H0:=by constructor <;> (try simp only [zz,LY,seval]) <;> first | exact True.intro | rfl):Bk M f us H n K:=cnK m m0 hr hs hK h0 h0m hm hall hall0
theorem opY {f:Nat} {us us0:List V} {H:Hp} {n:Nat} {K:V→Hp→Prop} {v:V} (hr:As M f us0 [] 0 (Q3 v [] 0)) (hK:K v H) (hv:v.ren (Bo [] n 0)=v:=by first | rfl | (simp only [LN,LP,V.ren,AP,Cz])) (hus:Bh H [] (ids H) us0 us:=by (try simp only [zz,LY,seval]) <;> first | exact True.intro | rfl) (hn:AG v:=by simp only [zz,LX]):IR M f us H n K:=opK hr hus hn hK hv
theorem ofY {f:Nat} {us us0:List V} {H Hn:Hp} {n kn:Nat} {K:V→Hp→Prop} {v:V} (hr:As M f us0 [] 0 (Q3 v Hn kn)) (hK:K (v.ren (AM [] n kn)) (Bf (AM [] n kn) Hn ++ H)) (hk:decide (kn≤16)=true:=by decide) (hus:Bh H [] (ids H) us0 us:=by (try simp only [zz,LY,seval]) <;> first | exact True.intro | rfl) (hn:AG v∧Cw Hn:=by simp only [zz,LX]):IR M f us H n K:=ofK hr hus hn hK hk
theorem onY {f:Nat} {us us0:List V} {H H0 Hn:Hp} {n k kn:Nat} {K:V→Hp→Prop} {v:V} (m m0:List Nat) (hr:As M f us0 H0 k (Q3 v Hn kn)) (hK:K (v.ren (AM m n kn)) (Bf (AM m n kn) Hn ++ AH H m0)) (h0:((ids H0).all fun id=>match m[id]? with | some i=>m0.contains i | none=>true)=true:=by rfl) (h0m:(m0.all fun i=>m.contains i)=true:=by rfl) (hm:(decide m.Nodup && decide (m.length=k) && decide (k≤kn) && decide (kn≤k + 16))=true:=by decide) (hall:(m.all fun i=>Af H i || (Qq m0 H i || DV us i))=true:=by rfl) (hall0:(m0.all fun i=>Af H i)=true:=by rfl) (hs:Bh H m [] us0 us∧B3 H m [] H0:=by constructor <;> (try simp only [zz,LY,seval]) <;> first | exact True.intro | rfl):IR M f us H n K:=onK m m0 hr hs hK h0 h0m hm hall hall0
theorem DD {x:Ctx} {rs:List RVr} {Q:V→Hp→Nat→Prop} {A:List V} {H:Hp} {N:Nat} {k:Nat} (hx:x.k=k) (m:List Nat) {v:V} {H':Hp} {N':Nat} (h4:Q v H' N') (h1:(EO A H rs).1:=by simp only [zz,Dz,seval]) (h2:B5 H m [] v (EO A H rs).2:=by (try simp only [zz,DK,seval]) <;> first | exact True.intro | (intros;rfl)) (h3:B3 H m [] H':=by (try simp only [zz,LY,seval]) <;> first | exact True.intro | (intros;rfl)) (hm:(decide m.Nodup && ([]:List Nat).all (fun i=>!m.contains i) && decide (m.length≤N') && decide (k≤N') && (List.range k).all (fun j=>m[j]? == some j))=true:=by decide):Ay M x rs Q A H N:=rqK hx m h4 h1 h2 h3 hm
theorem Vf {x:Ctx} {rs:List RVr} {Q:V→Hp→Nat→Prop} {A:List V} {H:Hp} {N:Nat} {k:Nat} (hx:x.k=k) (m:List Nat) (v:V) (H':Hp) (N':Nat) (h3:B3 H m [] H') (hm:(decide m.Nodup && ([]:List Nat).all (fun i=>!m.contains i) && decide (m.length≤N') && decide (k≤N') && (List.range k).all (fun j=>m[j]? == some j))=true:=by decide) (h1:(EO A H rs).1:=by simp only [Dz,seval]) (h2:B5 H m [] v (EO A H rs).2:=by (try simp only [DK,seval]) <;> first | exact True.intro | (intros;rfl)) (h4:Q v H' N':=by exact ⟨rfl,rfl,rfl⟩):Ay M x rs Q A H N:=Ay.mk hx m [] v H' N' hm h1 h2 h3 h4
end Mv
