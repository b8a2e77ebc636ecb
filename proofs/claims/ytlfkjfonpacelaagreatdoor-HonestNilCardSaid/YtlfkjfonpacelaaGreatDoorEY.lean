/- A part. -/
import Derived.Test.YtlfkjfonpacelaaGreatDoorEX
set_option linter.all false
namespace Mv
open Go
theorem Acv (k:Nat):(2:Int) ^ k=((2 ^ k:Nat):Int):=by rw [Int.natCast_pow];rfl
def Dg.put (d:Dg) (k:Nat) (b:BitVec 8):Dg:=Dg.mk' fun j=>if j=k then b else d.at j
theorem Dg.at_out (d:Dg) (j:Nat) (hj:¬ j < 32):d.at j=0:=by
 rw [Dg.at,List.getD_eq_getElem?_getD,List.getElem?_eq_none (by rw [d.h];omega)];rfl
theorem Rk (A:List V) (H:Hp) (n:Nat) (zk zv:Z):Ae A H n (.mkmap zk zv)=⟨True,.map n,(n,.mp 0 (fun _=>zk.v 0) (fun _=>zv.v 0)) :: H⟩:=rfl
theorem Su (A:List V) (H:Hp) (n:Nat) (s:ES) (z:Z) (ok:Bool) (m k:X):Ae A H n (.mlook s z ok m k)=KN s z ok (m.ev A) (k.ev A) H:=rfl
theorem TL (A:List V) (H:Hp) (n:Nat) (s:ES) (m k x:X):Ae A H n (.mupd s m k x)=Vo s (m.ev A) (k.ev A) (x.ev A) H:=rfl
def Mw (s:ES) (z:Z) (ok:Bool) (hh:Bool) (b k:V) (H:Hp):Out:=match b with
 | .mp n ks vs=>⟨hh=true∧k.solid=true∧AD true s k k∧∀ i,i < n→AD true s k (ks i),
  (match Kk s k ks 0 n with
  | some i=>if ok then .tup (.fcons 0 (vs i) (.fcons 1 (.bool true) .fnil)) else vs i
  | none=>if ok then .tup (.fcons 0 (z.v 0) (.fcons 1 (.bool false) .fnil)) else z.v 0),H⟩
 | _=>BG H
def Qz (s:ES) (hh:Bool) (b k x:V) (id:Nat) (H:Hp):Out:=match b with
 | .mp n ks vs=>⟨hh=true∧k.solid=true∧x.solid=true∧AD true s k k∧∀ i,i < n→AD true s k (ks i),.tup .fnil,
  BU H id (.mp (match Kk s k ks 0 n with | some _=>n | none=>n + 1) (fun j=>if j=(Kk s k ks 0 n).getD n then k else ks j) (fun j=>if j=(Kk s k ks 0 n).getD n then x else vs j))⟩
 | _=>BG H
theorem YL (s:ES) (z:Z) (ok:Bool) (id:Nat) (k:V) (H:Hp):KN s z ok (.map id) k H=Mw s z ok (Af H id) (hget H id) k H:=by
 simp only [KN,Mw]
 generalize hget H id=b
 cases b <;> rfl
theorem ZH (s:ES) (id:Nat) (k x:V) (H:Hp):Vo s (.map id) k x H=Qz s (Af H id) (hget H id) k x id H:=by
 simp only [Vo,Qz]
 generalize hget H id=b
 cases b <;> rfl
section
variable {α:Type}
def Kl (k:Dg):List (Dg × α)→Option Nat
 | []=>none
 | (a,_) :: r=>if k=a then some 0 else (Kl k r).map (· + 1)
def Q7 (k:Dg):List (Dg × α)→Option α
 | []=>none
 | (a,b) :: r=>if k=a then some b else Q7 k r
def Hm (k:Dg) (x:α):List (Dg × α)→List (Dg × α)
 | []=>[(k,x)]
 | (a,b) :: r=>if k=a then (k,x) :: r else (a,b) :: Hm k x r
def BR (g:α→V) (d:α) (l:List (Dg × α)):V:=.mp l.length (fun j=>dg (l.getD j (Dg.zero,d)).1) (fun j=>g (l.getD j (Dg.zero,d)).2)
theorem QZ (k:Dg) (ks:Nat→V) (d:α):∀ (l:List (Dg × α)) (i:Nat),(∀ j,j < l.length→ks (i + j)=dg (l.getD j (Dg.zero,d)).1)→Kk (.ar 32 1 false .int) (dg k) ks i l.length=(Kl k l).map (i + ·)
 | [],_,_=>rfl
 | (a, b) :: r, i, h => by
   have h0:=h 0 B5
   simp only [Nat.add_zero,List.getD_cons_zero] at h0
   have ih:=QZ k ks d r (i + 1) (fun j hj=>by
    have:=h (j + 1) (by simpa using hj)
    simp only [List.getD_cons_succ] at this
    rw [← this];congr 1;omega)
   simp only [List.length_cons,Kk,h0,Ik,decide_eq_true_eq,Kl]
   by_cases hk:k=a
   ·simp [hk]
   ·simp only [hk,if_false,ih,Option.map_map]
    congr 1
    funext j
    simp only [Function.comp];omega
theorem Qd (k:Dg) (d:α) (l:List (Dg × α)):Kk (.ar 32 1 false .int) (dg k) (fun j=>dg (l.getD j (Dg.zero,d)).1) 0 l.length=Kl k l:=by
 rw [QZ k _ d l 0 (fun j _=>by rw [Nat.zero_add])]
 cases Kl k l <;> simp
theorem Rb (k:Dg) (d:α):∀ l:List (Dg × α),Q7 k l=(Kl k l).map (fun i=>(l.getD i (Dg.zero,d)).2)
 | []=>rfl
 | (a, b) :: r => by
   simp only [Q7,Kl]
   by_cases hk:k=a
   ·simp [hk]
   ·simp only [hk,if_false,Rb k d r,Option.map_map]
    congr 1
def lkR (z:Z) (ok:Bool) (g:α→V):Option α→V
 | some x=>if ok then .tup (.fcons 0 (g x) (.fcons 1 (.bool true) .fnil)) else g x
 | none=>if ok then .tup (.fcons 0 (z.v 0) (.fcons 1 (.bool false) .fnil)) else z.v 0
theorem Ac1 (z:Z) (g:α→V) (x:α):lkR z true g (some x) = .tup (.fcons 0 (g x) (.fcons 1 (.bool true) .fnil)):=rfl
theorem Aav (z:Z) (g:α→V):lkR z true g none = .tup (.fcons 0 (z.v 0) (.fcons 1 (.bool false) .fnil)):=rfl
theorem Aau (z:Z) (g:α→V) (x:α):lkR z false g (some x)=g x:=rfl
theorem Aca (z:Z) (g:α→V):lkR z false g none=z.v 0:=rfl
theorem S6 (z:Z) (ok hh:Bool) (g:α→V) (d:α) (l:List (Dg × α)) (k:Dg) (H:Hp):Mw (.ar 32 1 false .int) z ok hh (BR g d l) (dg k) H=⟨hh=true,lkR z ok g (Q7 k l),H⟩:=by
 simp only [Mw,BR,Qd,Rb k d l,DQ,eq_true (Gk true _ _),implies_true,RF]
 congr 1
 cases Kl k l <;> rfl
theorem MR (k:Dg) (x:α):∀ l:List (Dg × α),(Hm k x l).length=(match Kl k l with | some _=>l.length | none=>l.length + 1)
 | []=>rfl
 | (a, b) :: r => by
   simp only [Hm,Kl]
   by_cases hk:k=a
   ·simp [hk]
   ·simp only [hk,if_false,List.length_cons,MR k x r]
    cases Kl k r <;> rfl
theorem Ra (k:Dg) (x:α) (d:Dg × α):∀ (l:List (Dg × α)) (j:Nat),(Hm k x l).getD j d=if j=(Kl k l).getD l.length then (k,x) else l.getD j d
 | [], j => by
   simp only [Hm,Kl,Option.getD_none,List.length_nil]
   cases j <;> simp
 | (a, b) :: r, j => by
   simp only [Hm,Kl]
   by_cases hk:k=a
   ·simp only [hk,if_true,Option.getD_some]
    cases j <;> simp
   ·simp only [hk,if_false]
    cases j with
    | zero =>
      simp only [List.getD_cons_zero,List.length_cons]
      rw [if_neg]
      cases Kl k r <;> simp
    | succ j =>
      simp only [List.getD_cons_succ,Ra k x d r j,List.length_cons]
      have e:((Kl k r).map (· + 1)).getD (r.length + 1)=(Kl k r).getD r.length + 1:=by cases Kl k r <;> rfl
      rw [e]
      simp only [Nat.add_right_cancel_iff]
theorem Uj (hh:Bool) (g:α→V) (d:α) (l:List (Dg × α)) (k:Dg) (x:α) (id:Nat) (H:Hp):Qz (.ar 32 1 false .int) hh (BR g d l) (dg k) (g x) id H=⟨hh=true∧(g x).solid=true,.tup .fnil,BU H id (BR g d (Hm k x l))⟩:=by
 have e:BR g d (Hm k x l) = .mp (match Kl k l with | some _=>l.length | none=>l.length + 1) (fun j=>if j=(Kl k l).getD l.length then dg k else dg (l.getD j (Dg.zero,d)).1) (fun j=>if j=(Kl k l).getD l.length then g x else g (l.getD j (Dg.zero,d)).2):=by
  simp only [BR,MR,Ra]
  congr 1
  ·funext j;split <;> rfl
  ·funext j;split <;> rfl
 rw [e]
 simp only [Qz,BR,Qd,DQ,eq_true (Gk true _ _),implies_true,RF]
theorem QE (m:List Nat) (g:α→V) (hg:∀ x,(g x).ren m=g x) (d:α) (l:List (Dg × α)):(BR g d l).ren m=BR g d l:=by
 simp only [BR,V.ren,Wb,hg]
theorem NQ (g:α→V) (hg:∀ x,AC (g x)) (d:α) (l:List (Dg × α)):AC (BR g d l):=by
 simp only [BR,AC,Nn,true_and];exact fun i _=>hg _
theorem HW (H:Hp) (m z:List Nat) (g:α→V) (hg:∀ x,Az H m z (g x) (g x)) (d:α) (l:List (Dg × α)):Az H m z (BR g d l) (BR g d l):=by
 simp only [BR,Az,true_and];exact fun i _=>⟨(AU _ _ _ _ _).mpr rfl,hg _⟩
theorem YE (H:Hp) (m z:List Nat) (g:α→V) (d:α) (ks vs:Nat→V):Az H m z (BR g d []) (.mp 0 ks vs):=by
 simp only [BR,Az,List.length_nil,Nat.not_lt_zero,false_implies,implies_true,and_self]
end
structure Pr where
 l:List (BitVec 8)
 h:l.length=64
deriving DecidableEq
def Pr.at (d:Pr) (j:Nat):BitVec 8:=d.l.getD j 0
def Pr.mk' (f:Nat→BitVec 8):Pr:=⟨(List.range 64).map f,by simp⟩
theorem Pr.at_mk' (f:Nat→BitVec 8) (j:Nat) (hj:j < 64):(Pr.mk' f).at j=f j:=by
 simp [Pr.at,Pr.mk',List.getD,List.getElem?_map,List.getElem?_range hj]
theorem Pr.ext' {a b:Pr} (h:∀ j,j < 64→a.at j=b.at j):a=b:=by
 obtain ⟨l,hl⟩:=a
 obtain ⟨m,hm⟩:=b
 have:l=m:=by
  apply List.ext_getElem Aa
  intro i h1 h2
  have:=h i Aa
  simpa [Pr.at,List.getD,h1,h2] using this
 subst this;rfl
def Pr.zero:Pr:=Pr.mk' fun _=>0
theorem Pr.at_out (d:Pr) (j:Nat) (hj:¬ j < 64):d.at j=0:=by
 rw [Pr.at,List.getD_eq_getElem?_getD,List.getElem?_eq_none (by rw [d.h];omega)];rfl
theorem Pr.at_zero (j:Nat):Pr.zero.at j=0:=by
 by_cases hj:j < 64
 ·rw [Pr.zero,Pr.at_mk' _ _ hj]
 ·exact Pr.at_out _ _ hj
def Bk (p:Pr):V:=.ar 1 64 (fun j=>B (p.at j))
def Lc3:=(Bb @Pr.at_zero @Bk.eq_1)
def Lap:=(Bb @dg.eq_1 @Bk.eq_1)
def Lbc:=(Bb @Lap @Pr.at_zero)
theorem Sv (p:Pr):(Bk p).solid=true:=rfl
theorem We (p:Pr):(Bk p).size=64:=rfl
theorem YP (p:Pr):(Bk p).isAgg=true:=rfl
theorem WX (m:List Nat) (p:Pr):(Bk p).ren m=Bk p:=rfl
theorem NF (p:Pr):AC (Bk p)=True:=eq_true (by simp only [AC,Bk,B,implies_true])
theorem Fu (H:Hp) (m z:List Nat) (a b:Pr):Az H m z (Bk a) (Bk b) ↔ b=a:=by
 simp only [Az,Bk,QA,true_and]
 constructor
 ·intro h;exact Pr.ext' (fun j hj=>h j hj)
 ·rintro rfl _ _;rfl
theorem UB (H:Hp) (m z:List Nat) (a:Pr) (u:V):Bi H m z (Bk a) u=Az H m z (Bk a) u:=rfl
theorem XQ (k:Nat) (p:Pr):V.get [.i 1 k] (Bk p)=B (p.at k):=rfl
theorem TY (p:Pr):Rp 1 64 (Bk p)=True:=by simp [Bk,Rp]
theorem UC (c:Bool) (a b:Pr):AD c (.ar 64 1 false .int) (Bk a) (Bk b):=by
 simp only [AD,Bk,true_and]
 intro i _
 refine ⟨rfl,rfl,?_⟩
 simp only [B]
theorem Vy (a b:Pr):AK (.ar 64 1 false .int) (Bk a) (Bk b)=decide (a=b):=by
 have h1:AK (.ar 64 1 false .int) (Bk a) (Bk b)=(List.range 64).all (fun i=>decide (a.at i=b.at i)):=by
  simp only [AK,Bk,B,eqB]
 rw [h1,Bool.eq_iff_iff,List.all_eq_true]
 simp only [decide_eq_true_eq,List.mem_range]
 constructor
 ·exact fun h=>Pr.ext' h
 ·rintro rfl _ _;rfl
theorem Zl:V.ar 1 64 (fun _=>B 0#8)=Bk Pr.zero:=by
 have h:(fun _=>B 0#8)=fun j=>B (Pr.zero.at j):=by funext j;rw [Pr.at_zero];rfl
 simp only [Bk,h]
theorem Xe (d:Dg):Rp 1 32 (dg d)=True:=by simp [dg,Rp]
theorem S7 (o n sz:Nat) (d:Dg):GY o n sz (dg d)=some (sz,n,fun i=>B (d.at (o + i))):=rfl
theorem SB (o n:Nat) (d:Dg):FC o n 1 (dg d)=(o + n≤32):=by simp [dg,FC]
theorem O0 (o n sz:Nat) (d:Pr):GY o n sz (Bk d)=some (sz,n,fun i=>B (d.at (o + i))):=rfl
theorem OI (o n:Nat) (d:Pr):FC o n 1 (Bk d)=(o + n≤64):=by simp [Bk,FC]
theorem Vl (H:Hp) (m z:List Nat) (d:Pr) (l:List (Dg × Pr)):Az H m z (BR Bk d l) (BR Bk d l)=True:=eq_true (HW H m z Bk (fun _=>(Fu _ _ _ _ _).mpr rfl) d l)
theorem RO (d:Pr) (l:List (Dg × Pr)):AC (BR Bk d l)=True:=eq_true (NQ Bk (fun x=>by rw [NF];trivial) d l)
theorem Vr (m:List Nat) (d:Pr) (l:List (Dg × Pr)):(BR Bk d l).ren m=BR Bk d l:=QE m Bk (fun _=>rfl) d l
theorem YW (p:Pr) (i:Nat) (r:V):Io (Bk p) i r = .fcons i (Bk p) r:=rfl
theorem W5 (p:Pr):Gb (Bk p)=True:=by simp [Gb,Bk,V.solid]
variable {M:Seat}
def LZ:=(SN (Er @LG @LP @LN @V.ren.eq_1 @V.ren.eq_2 @V.ren.eq_3 @V.ren.eq_4 @V.ren.eq_5 @V.ren.eq_6 @V.ren.eq_7 @V.ren.eq_8 @V.ren.eq_9 @V.ren.eq_10 @V.ren.eq_11) (Er @V.ren.eq_12 @V.ren.eq_13 @AV.eq_1 @AV.eq_2 @A6.eq_1 @A6.eq_2 @AB.eq_1 @AB.eq_2 @AB.eq_3 @AB.eq_4 @SV.eq_1 @SV.eq_2 @ET.eq_1 @ET.eq_2) (CA @Mv.hx.eq_1 @CX.eq_1 @CX.eq_2 @bs.eq_1 @F5.eq_1 @F5.eq_2 @LK.isW.eq_1 @LK.isW.eq_2 @LK.isW.eq_3 @LK.isW.eq_4 @LK.isW.eq_5 @LK.isW.eq_6 @LK.isW.eq_7 @LK.isA.eq_1 @LK.isA.eq_2) (Er @LK.isA.eq_3 @LK.isA.eq_4 @LK.isA.eq_5 @LK.isA.eq_6 @LK.isA.eq_7 @LK.isP.eq_1 @LK.isP.eq_2 @LK.isP.eq_3 @LK.isP.eq_4 @LK.isP.eq_5 @LK.isP.eq_6 @LK.isP.eq_7 @LK.isP.eq_8 @LK.isP.eq_9) (Er @LK.isP.eq_10 @LK.isP.eq_11 @Wu.eq_1 @Wu.eq_2 @X.ev.eq_1 @X.ev.eq_2 @X.ev.eq_3 @X.ev.eq_4 @BP.eq_1 @BP.eq_2 @Bv.eq_1 @Bv.eq_2 @Dl.eq_1 @Dl.eq_2) (CA @Cp.eq_1 @Cp.eq_2 @hget.eq_1 @hget.eq_2 @BU.eq_1 @BU.eq_2 @BS.eq_1 @BS.eq_2 @Af.eq_1 @Af.eq_2 @LQ.eq_1 @LQ.eq_2 @LQ.eq_3 @V.ok.eq_1 @V.ok.eq_2) (Er @V.ok.eq_3 @V.ok.eq_4 @V.ok.eq_5 @V.get.eq_1 @V.get.eq_2 @V.get.eq_3 @V.get.eq_4 @V.get.eq_5 @V.set.eq_1 @V.set.eq_2 @V.set.eq_3 @V.set.eq_4 @V.fget.eq_1 @V.fget.eq_2) (Er @V.fhas.eq_1 @V.fhas.eq_2 @V.fset.eq_1 @V.fset.eq_2 @Gx.eq_1 @Gx.eq_2 @Gx.eq_3 @Z.v.eq_1 @Z.v.eq_2 @Z.v.eq_3 @Z.v.eq_4 @Z.v.eq_5 @Z.v.eq_6 @Z.v.eq_7) (CA @Z.v.eq_8 @Z.v.eq_9 @Z.v.eq_10 @Z.v.eq_11 @Z.v.eq_12 @Z.sz.eq_1 @Z.sz.eq_2 @Z.sz.eq_3 @Z.sz.eq_4 @Z.sz.eq_5 @BQ.eq_1 @BQ.eq_2 @BQ.eq_3 @forall_const.{0} @forall_const.{1}))
def Lbp:=(Bb @Int.cast_ofNat_Int @LZ)
def Zt:=(Bb @LZ @A3.eq_1)
def AH:=(Bb @LZ @Ah.eq_1)
def LY:=(GM (Er @Dg.at_zero @IW @P2 @LT @LP @Kj.eq_1 @Kj.eq_2 @Bd.eq_1 @Bd.eq_2 @Bd.eq_3 @Az.eq_1 @Az.eq_2 @Az.eq_3 @Az.eq_4) (Er @Az.eq_5 @Az.eq_6 @Az.eq_7 @Az.eq_8 @Az.eq_9 @Az.eq_10 @Az.eq_11 @Az.eq_12 @Az.eq_13 @Az.eq_14 @Az.eq_15 @Az.eq_16 @Az.eq_17 @Az.eq_18) (Er @Az.eq_19 @Az.eq_20 @Az.eq_21 @Az.eq_22 @Az.eq_23 @Az.eq_24 @Az.eq_25 @Az.eq_26 @Az.eq_27 @Az.eq_28 @Az.eq_29 @Az.eq_30 @Az.eq_31 @Az.eq_32) (Er @Az.eq_33 @Az.eq_34 @Az.eq_35 @Az.eq_36 @Az.eq_37 @Br.eq_1 @Br.eq_2 @hget.eq_1 @hget.eq_2 @Af.eq_1 @Af.eq_2 @V.ok.eq_1 @V.ok.eq_2 @V.ok.eq_3) (CA @V.ok.eq_4 @V.ok.eq_5 @V.get.eq_1 @V.get.eq_2 @V.get.eq_3 @V.get.eq_4 @V.get.eq_5 @V.fget.eq_1 @V.fget.eq_2 @V.fhas.eq_1 @V.fhas.eq_2 @Aj1 @Ajc @implies_true.{0} @implies_true.{1}))
def LX:=(Bb (FU @Ah.eq_1 @AS.eq_1 @Af3.eq_1 @Ai4.eq_1 @A3.eq_1 @AC.eq_1 @AC.eq_2 @AC.eq_3 @AC.eq_4 @AC.eq_5 @AC.eq_6 @AC.eq_7) (FU @AC.eq_8 @AC.eq_9 @AC.eq_10 @BK.eq_1 @BK.eq_2 @ws.eq_1 @UL @ZJ @Nn @and_self @implies_true.{0} @implies_true.{1}))
def LV:=(FU @Dz.eq_1 @Dz.eq_2 @F3.eq_1 @F3.eq_2 @Atl.eq_1 @Atl.eq_2 @DC.eq_1 @DC.eq_2 @Ah.eq_1 @AS.eq_1 @dg.eq_1 @LTP)
def CU:=(Bb @LV @LZ)
def OJ:=(Bb @LY @CU)
def LM:=(Bb (Am2 @Rk @Su @TL @YL @ZH @S6 @Uj @Ac1 @Aav @Aau @Aca @Sv @We) (Er @YP @WX @XQ @TY @UC @Vy @YW @W5 @Xe @S7 @SB @O0 @OI @Vr))
def NC:=(Bb @LM @AH)
def EE:=(Bb @LM @LZ)
def J3:=(Db @Fu @UB @Vl @YE @NF @RO)
def Lbv:=(Bb @J3 @Ah.eq_1)
def Fz:=(Bb @J3 @LY)
theorem Ak {f:Nat} {us us0:List V} {H:Hp} {n:Nat} {K:V→Hp→Prop} {v:V} (hr:Ag M f us0 [] 0 (Q3 v [] 0)) (hK:K v H) (hus:Bd H [] (ids H) us0 us:=by ((try simp only [LY,seval]) <;> exact q1)) (hv:v.ren (Bh [] n 0)=v:=by first | rfl | (simp only [LN,LP,V.ren,Ah,AS])) (hn:AC v:=by simp only [LX]):AR M f us H n K:=Im hr hus hv hn hK
theorem QB {f:Nat} {us us0:List V} {H Hn:Hp} {n kn:Nat} {K:V→Hp→Prop} {v:V} (hr:Ag M f us0 [] 0 (Q3 v Hn kn)) (hK:K (v.ren (AB [] n kn)) (AV (AB [] n kn) Hn ++ H)) (hk:decide (kn≤16)=true:=by decide) (hus:Bd H [] (ids H) us0 us:=by ((try simp only [LY,seval]) <;> exact q1)) (hv:AC v:=by simp only [LX]) (hn:BK Hn:=by simp only [LX]):AR M f us H n K:=Qs hr hk hus hv hn hK
theorem HY {f:Nat} {us us0:List V} {H H0 Hn:Hp} {n k kn:Nat} {K:V→Hp→Prop} {v:V} (m:List Nat) (hr:Ag M f us0 H0 k (Q3 v Hn kn)) (hK:K (v.ren (AB m n kn)) (AV (AB m n kn) Hn ++ A6 H m)) (hm:(decide m.Nodup && decide (m.length=k) && decide (k≤kn) && decide (kn≤k + 16))=true:=by decide) (hall:(m.all fun i=>Af H i)=true:=by rfl) (hus:Bd H m (BJ H m) us0 us:=by ((try simp only [LY,seval]) <;> exact q1)) (hH:Br H m (BJ H m) H0:=by ((try simp only [LY,seval]) <;> exact q1)) (hv:AC v:=by simp only [LX]) (hn:BK Hn:=by simp only [LX]):AR M f us H n K:=L5 m hr hm hall hus hH hv hn hK
theorem Bq {f:Nat} {us us0:List V} {H:Hp} {n:Nat} {K:V→Hp→Prop} {v:V} (hr:Ag M f us0 [] 0 (Q3 v [] 0)) (hK:K v H) (hus:Bd H [] (ids H) us0 us:=by ((try simp only [LY,seval]) <;> exact q1)) (hv:v.ren (Bh [] n 0)=v:=by first | rfl | (simp only [LN,LP,V.ren,Ah,AS])) (hn:AC v:=by simp only [LX]):FD M f us H n K:=Wh hr hus hv hn hK
theorem Ab2 {f:Nat} {us us0:List V} {H H0 Hn:Hp} {n k kn:Nat} {K:V→Hp→Prop} {v:V} (m:List Nat) (hr:Ag M f us0 H0 k (Q3 v Hn kn)) (hK:K (v.ren (AB m n kn)) (AV (AB m n kn) Hn ++ A6 H m)) (hm:(decide m.Nodup && decide (m.length=k) && decide (k≤kn) && decide (kn≤k + 16))=true:=by decide) (hall:(m.all fun i=>Af H i)=true:=by rfl) (hus:Bd H m (BJ H m) us0 us:=by ((try simp only [LY,seval]) <;> exact q1)) (hH:Br H m (BJ H m) H0:=by ((try simp only [LY,seval]) <;> exact q1)) (hv:AC v:=by simp only [LX]) (hn:BK Hn:=by simp only [LX]):FD M f us H n K:=UZ m hr hm hall hus hH hv hn hK
theorem Ar.mkZ {x:Ctx} {rs:List RVr} {Q:V→Hp→Nat→Prop} {A:List V} {H:Hp} {N:Nat} {k:Nat} (hx:x.k=k) (m:List Nat) {v:V} {H':Hp} {N':Nat} (h4:Q v H' N') (hm:(decide m.Nodup && ([]:List Nat).all (fun i=>!m.contains i) && decide (m.length≤N') && decide (k≤N') && (List.range k).all (fun j=>m[j]? == some j))=true:=by decide) (h1:(Dz A H rs).1:=by (simp only [CU,seval])) (h2:Bi H m [] v (Dz A H rs).2:=by ((try simp only [OJ,seval]) <;> exact q2)) (h3:Br H m [] H':=by ((try simp only [LY,seval]) <;> exact q2)):Ar M x rs Q A H N:=Ar.mk hx m [] v H' N' hm h1 h2 h3 h4
theorem cpK {f:Nat} {us us0:List V} {H:Hp} {n:Nat} {K:V→Hp→Prop} {v:V} (hr:Ag M f us0 [] 0 (Q3 v [] 0)) (hus:Bd H [] (ids H) us0 us) (hn:AC v) (hK:K v H) (hv:v.ren (Bh [] n 0)=v:=by first | rfl | (simp only [LN,LP,V.ren,Ah,AS])):AR M f us H n K:=Im hr hus hv hn hK
theorem cfK {f:Nat} {us us0:List V} {H Hn:Hp} {n kn:Nat} {K:V→Hp→Prop} {v:V} (hr:Ag M f us0 [] 0 (Q3 v Hn kn)) (hus:Bd H [] (ids H) us0 us) (hn:AC v∧BK Hn) (hK:K (v.ren (AB [] n kn)) (AV (AB [] n kn) Hn ++ H)) (hk:decide (kn≤16)=true:=by decide):AR M f us H n K:=Qs hr hk hus hn.1 hn.2 hK
theorem cmK {f:Nat} {us us0:List V} {H H0 Hn:Hp} {n k kn:Nat} {K:V→Hp→Prop} {v:V} (m:List Nat) (hr:Ag M f us0 H0 k (Q3 v Hn kn)) (hs:Bd H m (BJ H m) us0 us∧Br H m (BJ H m) H0) (hn:AC v∧BK Hn) (hK:K (v.ren (AB m n kn)) (AV (AB m n kn) Hn ++ A6 H m)) (hm:(decide m.Nodup && decide (m.length=k) && decide (k≤kn) && decide (kn≤k + 16))=true:=by decide) (hall:(m.all fun i=>Af H i)=true:=by rfl):AR M f us H n K:=L5 m hr hm hall hs.1 hs.2 hn.1 hn.2 hK
theorem Wx {f:Nat} {us us0:List V} {H H0 Hn:Hp} {n k kn:Nat} {K:V→Hp→Prop} {v:V} (m m0:List Nat) (hr:Ag M f us0 H0 k (Q3 v Hn kn)) (hs:Bd H m (BJ H m) us0 us∧Br H m (BJ H m) H0) (hn:AC v∧BK Hn) (hK:K (v.ren (AB m n kn)) (AV (AB m n kn) Hn ++ A6 H m0)) (h0:((ids H0).all fun id=>match m[id]? with | some i=>m0.contains i | none=>true)=true:=by rfl) (h0m:(m0.all fun i=>m.contains i)=true:=by rfl) (hm:(decide m.Nodup && decide (m.length=k) && decide (k≤kn) && decide (kn≤k + 16))=true:=by decide) (hall:(m.all fun i=>Af H i || Cg us i)=true:=by rfl) (hall0:(m0.all fun i=>Af H i)=true:=by rfl):AR M f us H n K:=QY m m0 hr h0 h0m hm hall hall0 hs.1 hs.2 hn.1 hn.2 hK
theorem cnK {f:Nat} {us us0:List V} {H H0 Hn:Hp} {n k kn:Nat} {K:V→Hp→Prop} {v:V} (m m0:List Nat) (hr:Ag M f us0 H0 k (Q3 v Hn kn)) (hs:Bd H m [] us0 us∧Br H m [] H0) (hK:K (v.ren (AB m n kn)) (AV (AB m n kn) Hn ++ A6 H m0)) (h0:((ids H0).all fun id=>match m[id]? with | some i=>m0.contains i | none=>true)=true:=by rfl) (h0m:(m0.all fun i=>m.contains i)=true:=by rfl) (hm:(decide m.Nodup && decide (m.length=k) && decide (k≤kn) && decide (kn≤k + 16))=true:=by decide) (hall:(m.all fun i=>Af H i || (GJ m0 H i || Cg us i))=true:=by rfl) (hall0:(m0.all fun i=>Af H i)=true:=by rfl):AR M f us H n K:=QC m m0 hr h0 h0m hm hall hall0 hs.1 hs.2 hK
theorem opK {f:Nat} {us us0:List V} {H:Hp} {n:Nat} {K:V→Hp→Prop} {v:V} (hr:Ag M f us0 [] 0 (Q3 v [] 0)) (hus:Bd H [] (ids H) us0 us) (hn:AC v) (hK:K v H) (hv:v.ren (Bh [] n 0)=v:=by first | rfl | (simp only [LN,LP,V.ren,Ah,AS])):FD M f us H n K:=Wh hr hus hv hn hK
theorem ofK {f:Nat} {us us0:List V} {H Hn:Hp} {n kn:Nat} {K:V→Hp→Prop} {v:V} (hr:Ag M f us0 [] 0 (Q3 v Hn kn)) (hus:Bd H [] (ids H) us0 us) (hn:AC v∧BK Hn) (hK:K (v.ren (AB [] n kn)) (AV (AB [] n kn) Hn ++ H)) (hk:decide (kn≤16)=true:=by decide):FD M f us H n K:=Aqx hr hk hus hn.1 hn.2 hK
theorem omK {f:Nat} {us us0:List V} {H H0 Hn:Hp} {n k kn:Nat} {K:V→Hp→Prop} {v:V} (m:List Nat) (hr:Ag M f us0 H0 k (Q3 v Hn kn)) (hs:Bd H m (BJ H m) us0 us∧Br H m (BJ H m) H0) (hn:AC v∧BK Hn) (hK:K (v.ren (AB m n kn)) (AV (AB m n kn) Hn ++ A6 H m)) (hm:(decide m.Nodup && decide (m.length=k) && decide (k≤kn) && decide (kn≤k + 16))=true:=by decide) (hall:(m.all fun i=>Af H i)=true:=by rfl):FD M f us H n K:=UZ m hr hm hall hs.1 hs.2 hn.1 hn.2 hK
theorem onK {f:Nat} {us us0:List V} {H H0 Hn:Hp} {n k kn:Nat} {K:V→Hp→Prop} {v:V} (m m0:List Nat) (hr:Ag M f us0 H0 k (Q3 v Hn kn)) (hs:Bd H m [] us0 us∧Br H m [] H0) (hK:K (v.ren (AB m n kn)) (AV (AB m n kn) Hn ++ A6 H m0)) (h0:((ids H0).all fun id=>match m[id]? with | some i=>m0.contains i | none=>true)=true:=by rfl) (h0m:(m0.all fun i=>m.contains i)=true:=by rfl) (hm:(decide m.Nodup && decide (m.length=k) && decide (k≤kn) && decide (kn≤k + 16))=true:=by decide) (hall:(m.all fun i=>Af H i || (GJ m0 H i || Cg us i))=true:=by rfl) (hall0:(m0.all fun i=>Af H i)=true:=by rfl):FD M f us H n K:=Acp m m0 hr h0 h0m hm hall hall0 hs.1 hs.2 hK
theorem oyK {f:Nat} {v:V} {us us0:List V} {H:Hp} {n:Nat} {C:V→Hp→Prop} {r:V} (hf:EC M f) (hr:Ag M f us0 [] 0 (fun r' H' k'=>r'=r∧H'=[]∧k'=0)) (hus:Bd H [] (ids H) us0 (us ++ [v])) (hn:AC r) (hC:C r H) (hv:(v.solid && !v.isAgg)=true:=by rfl) (hv2:r.ren (Bh [] n 0)=r:=by first | rfl | (simp only [LN,LP,V.ren,Ah,AS])):SI M (.fn f (.st 1 (.fcons 0 v .fnil))) us H n C:=Ahw hf hv hr hus hv2 hn hC
theorem rqK {x:Ctx} {rs:List RVr} {Q:V→Hp→Nat→Prop} {A:List V} {H:Hp} {N:Nat} {k:Nat} (hx:x.k=k) (m:List Nat) {v:V} {H':Hp} {N':Nat} (h4:Q v H' N') (h1:(Dz A H rs).1) (h2:Bi H m [] v (Dz A H rs).2) (h3:Br H m [] H') (hm:(decide m.Nodup && ([]:List Nat).all (fun i=>!m.contains i) && decide (m.length≤N') && decide (k≤N') && (List.range k).all (fun j=>m[j]? == some j))=true:=by decide):Ar M x rs Q A H N:=Ar.mk hx m [] v H' N' hm h1 h2 h3 h4
theorem Ce {f:Nat} {us us0:List V} {H:Hp} {n:Nat} {K:V→Hp→Prop} {v:V} (hr:Ag M f us0 [] 0 (Q3 v [] 0)) (hK:K v H) (hv:v.ren (Bh [] n 0)=v:=by first | rfl | (simp only [LN,LP,V.ren,Ah,AS])) (hus:Bd H [] (ids H) us0 us:=by (try simp only [zz,LY,seval]) <;> first | exact True.intro | rfl) (hn:AC v:=by simp only [zz,LX]):AR M f us H n K:=cpK hr hus hn hK hv
theorem Kb {f:Nat} {us us0:List V} {H Hn:Hp} {n kn:Nat} {K:V→Hp→Prop} {v:V} (hr:Ag M f us0 [] 0 (Q3 v Hn kn)) (hK:K (v.ren (AB [] n kn)) (AV (AB [] n kn) Hn ++ H)) (hk:decide (kn≤16)=true:=by decide) (hus:Bd H [] (ids H) us0 us:=by (try simp only [zz,LY,seval]) <;> first | exact True.intro | rfl) (hn:AC v∧BK Hn:=by simp only [zz,LX]):AR M f us H n K:=cfK hr hus hn hK hk
theorem SM {f:Nat} {us us0:List V} {H H0 Hn:Hp} {n k kn:Nat} {K:V→Hp→Prop} {v:V} (m:List Nat) (hr:Ag M f us0 H0 k (Q3 v Hn kn)) (hK:K (v.ren (AB m n kn)) (AV (AB m n kn) Hn ++ A6 H m)) (hm:(decide m.Nodup && decide (m.length=k) && decide (k≤kn) && decide (kn≤k + 16))=true:=by decide) (hall:(m.all fun i=>Af H i)=true:=by rfl) (hs:Bd H m (BJ H m) us0 us∧Br H m (BJ H m) H0:=by constructor <;> (try simp only [zz,LY,seval]) <;> first | exact True.intro | rfl) (hn:AC v∧BK Hn:=by simp only [zz,LX]):AR M f us H n K:=cmK m hr hs hn hK hm hall
theorem Om {f:Nat} {us us0:List V} {H H0 Hn:Hp} {n k kn:Nat} {K:V→Hp→Prop} {v:V} (m m0:List Nat) (hr:Ag M f us0 H0 k (Q3 v Hn kn)) (hK:K (v.ren (AB m n kn)) (AV (AB m n kn) Hn ++ A6 H m0)) (h0:((ids H0).all fun id=>match m[id]? with | some i=>m0.contains i | none=>true)=true:=by rfl) (h0m:(m0.all fun i=>m.contains i)=true:=by rfl) (hm:(decide m.Nodup && decide (m.length=k) && decide (k≤kn) && decide (kn≤k + 16))=true:=by decide) (hall:(m.all fun i=>Af H i || Cg us i)=true:=by rfl) (hall0:(m0.all fun i=>Af H i)=true:=by rfl) (hs:Bd H m (BJ H m) us0 us∧Br H m (BJ H m) H0:=by constructor <;> (try simp only [zz,LY,seval]) <;> first | exact True.intro | rfl) (hn:AC v∧BK Hn:=by simp only [zz,LX]):AR M f us H n K:=Wx m m0 hr hs hn hK h0 h0m hm hall hall0
theorem Bw {f:Nat} {us us0:List V} {H H0 Hn:Hp} {n k kn:Nat} {K:V→Hp→Prop} {v:V} (m m0:List Nat) (hr:Ag M f us0 H0 k (Q3 v Hn kn)) (hK:K (v.ren (AB m n kn)) (AV (AB m n kn) Hn ++ A6 H m0)) (h0:((ids H0).all fun id=>match m[id]? with | some i=>m0.contains i | none=>true)=true:=by rfl) (h0m:(m0.all fun i=>m.contains i)=true:=by rfl) (hm:(decide m.Nodup && decide (m.length=k) && decide (k≤kn) && decide (kn≤k + 16))=true:=by decide) (hall:(m.all fun i=>Af H i || (GJ m0 H i || Cg us i))=true:=by rfl) (hall0:(m0.all fun i=>Af H i)=true:=by rfl) (hs:Bd H m [] us0 us∧Br H m [] H0:=by constructor <;> (try simp only [zz,LY,seval]) <;> first | exact True.intro | rfl):AR M f us H n K:=cnK m m0 hr hs hK h0 h0m hm hall hall0
theorem G0 {f:Nat} {us us0:List V} {H:Hp} {n:Nat} {K:V→Hp→Prop} {v:V} (hr:Ag M f us0 [] 0 (Q3 v [] 0)) (hK:K v H) (hv:v.ren (Bh [] n 0)=v:=by first | rfl | (simp only [LN,LP,V.ren,Ah,AS])) (hus:Bd H [] (ids H) us0 us:=by (try simp only [zz,LY,seval]) <;> first | exact True.intro | rfl) (hn:AC v:=by simp only [zz,LX]):FD M f us H n K:=opK hr hus hn hK hv
theorem ofY {f:Nat} {us us0:List V} {H Hn:Hp} {n kn:Nat} {K:V→Hp→Prop} {v:V} (hr:Ag M f us0 [] 0 (Q3 v Hn kn)) (hK:K (v.ren (AB [] n kn)) (AV (AB [] n kn) Hn ++ H)) (hk:decide (kn≤16)=true:=by decide) (hus:Bd H [] (ids H) us0 us:=by (try simp only [zz,LY,seval]) <;> first | exact True.intro | rfl) (hn:AC v∧BK Hn:=by simp only [zz,LX]):FD M f us H n K:=ofK hr hus hn hK hk
theorem omY {f:Nat} {us us0:List V} {H H0 Hn:Hp} {n k kn:Nat} {K:V→Hp→Prop} {v:V} (m:List Nat) (hr:Ag M f us0 H0 k (Q3 v Hn kn)) (hK:K (v.ren (AB m n kn)) (AV (AB m n kn) Hn ++ A6 H m)) (hm:(decide m.Nodup && decide (m.length=k) && decide (k≤kn) && decide (kn≤k + 16))=true:=by decide) (hall:(m.all fun i=>Af H i)=true:=by rfl) (hs:Bd H m (BJ H m) us0 us∧Br H m (BJ H m) H0:=by constructor <;> (try simp only [zz,LY,seval]) <;> first | exact True.intro | rfl) (hn:AC v∧BK Hn:=by simp only [zz,LX]):FD M f us H n K:=omK m hr hs hn hK hm hall
theorem L9 {f:Nat} {us us0:List V} {H H0 Hn:Hp} {n k kn:Nat} {K:V→Hp→Prop} {v:V} (m m0:List Nat) (hr:Ag M f us0 H0 k (Q3 v Hn kn)) (hK:K (v.ren (AB m n kn)) (AV (AB m n kn) Hn ++ A6 H m0)) (h0:((ids H0).all fun id=>match m[id]? with | some i=>m0.contains i | none=>true)=true:=by rfl) (h0m:(m0.all fun i=>m.contains i)=true:=by rfl) (hm:(decide m.Nodup && decide (m.length=k) && decide (k≤kn) && decide (kn≤k + 16))=true:=by decide) (hall:(m.all fun i=>Af H i || (GJ m0 H i || Cg us i))=true:=by rfl) (hall0:(m0.all fun i=>Af H i)=true:=by rfl) (hs:Bd H m [] us0 us∧Br H m [] H0:=by constructor <;> (try simp only [zz,LY,seval]) <;> first | exact True.intro | rfl):FD M f us H n K:=onK m m0 hr hs hK h0 h0m hm hall hall0
theorem Bf {x:Ctx} {rs:List RVr} {Q:V→Hp→Nat→Prop} {A:List V} {H:Hp} {N:Nat} {k:Nat} (hx:x.k=k) (m:List Nat) {v:V} {H':Hp} {N':Nat} (h4:Q v H' N') (h1:(Dz A H rs).1:=by simp only [zz,CU,seval]) (h2:Bi H m [] v (Dz A H rs).2:=by (try simp only [zz,OJ,seval]) <;> first | exact True.intro | (intros;rfl)) (h3:Br H m [] H':=by (try simp only [zz,LY,seval]) <;> first | exact True.intro | (intros;rfl)) (hm:(decide m.Nodup && ([]:List Nat).all (fun i=>!m.contains i) && decide (m.length≤N') && decide (k≤N') && (List.range k).all (fun j=>m[j]? == some j))=true:=by decide):Ar M x rs Q A H N:=rqK hx m h4 h1 h2 h3 hm
theorem Rv {x:Ctx} {rs:List RVr} {Q:V→Hp→Nat→Prop} {A:List V} {H:Hp} {N:Nat} {k:Nat} (hx:x.k=k) (m:List Nat) (v:V) (H':Hp) (N':Nat) (h3:Br H m [] H') (hm:(decide m.Nodup && ([]:List Nat).all (fun i=>!m.contains i) && decide (m.length≤N') && decide (k≤N') && (List.range k).all (fun j=>m[j]? == some j))=true:=by decide) (h1:(Dz A H rs).1:=by simp only [CU,seval]) (h2:Bi H m [] v (Dz A H rs).2:=by (try simp only [OJ,seval]) <;> first | exact True.intro | (intros;rfl)) (h4:Q v H' N':=by exact ⟨rfl,rfl,rfl⟩):Ar M x rs Q A H N:=Ar.mk hx m [] v H' N' hm h1 h2 h3 h4
end Mv
