/- A part. -/
import Derived.Test.YtlfkjfonpacelaaGreatDoorIT
set_option linter.all false
namespace Mv
open Go
theorem Anz (k:Nat):(2:Int) ^ k=((2 ^ k:Nat):Int):=by rw [Int.natCast_pow];rfl
def Dg.put (d:Dg) (k:Nat) (b:BitVec 8):Dg:=Dg.mk' fun j=>if j=k then b else d.at j
theorem Dg.at_out (d:Dg) (j:Nat) (hj:¬ j < 32):d.at j=0:=by
 rw [Dg.at,List.getD_eq_getElem?_getD,List.getElem?_eq_none (by rw [d.h];omega)];rfl
theorem Ww (A:List V) (H:Hp) (n:Nat) (zk zv:Z):Af A H n (.mkmap zk zv)=⟨True,.map n,(n,.mp 0 (fun _=>zk.v 0) (fun _=>zv.v 0)) :: H⟩:=rfl
theorem WW (A:List V) (H:Hp) (n:Nat) (s:ES) (z:Z) (ok:Bool) (m k:X):Af A H n (.mlook s z ok m k)=Np s z ok (m.ev A) (k.ev A) H:=rfl
theorem Abg (A:List V) (H:Hp) (n:Nat) (s:ES) (m k x:X):Af A H n (.mupd s m k x)=Aam s (m.ev A) (k.ev A) (x.ev A) H:=rfl
def Df (s:ES) (z:Z) (ok:Bool) (hh:Bool) (b k:V) (H:Hp):Out:=match b with
 | .mp n ks vs=>⟨hh=true∧k.solid=true∧AR true s k k∧∀ i,i < n→AR true s k (ks i),
  (match HS s k ks 0 n with
  | some i=>if ok then .tup (.fcons 0 (vs i) (.fcons 1 (.bool true) .fnil)) else vs i
  | none=>if ok then .tup (.fcons 0 (z.v 0) (.fcons 1 (.bool false) .fnil)) else z.v 0),H⟩
 | _=>Ci H
def Hh (s:ES) (hh:Bool) (b k x:V) (id:Nat) (H:Hp):Out:=match b with
 | .mp n ks vs=>⟨hh=true∧k.solid=true∧x.solid=true∧AR true s k k∧∀ i,i < n→AR true s k (ks i),.tup .fnil,
  CA H id (.mp (match HS s k ks 0 n with | some _=>n | none=>n + 1) (fun j=>if j=(HS s k ks 0 n).getD n then k else ks j) (fun j=>if j=(HS s k ks 0 n).getD n then x else vs j))⟩
 | _=>Ci H
theorem Agq (s:ES) (z:Z) (ok:Bool) (id:Nat) (k:V) (H:Hp):Np s z ok (.map id) k H=Df s z ok (Ag H id) (hget H id) k H:=by
 simp only [Np,Df];generalize hget H id=b;cases b <;> rfl
theorem Ant (s:ES) (id:Nat) (k x:V) (H:Hp):Aam s (.map id) k x H=Hh s (Ag H id) (hget H id) k x id H:=by
 simp only [Aam,Hh];generalize hget H id=b;cases b <;> rfl
section
variable {α:Type}
def MK (k:Dg):List (Dg × α)→Option Nat
 | []=>none
 | (a,_) :: r=>if k=a then some 0 else (MK k r).map (· + 1)
def En (k:Dg):List (Dg × α)→Option α
 | []=>none
 | (a,b) :: r=>if k=a then some b else En k r
def Dx (k:Dg) (x:α):List (Dg × α)→List (Dg × α)
 | []=>[(k,x)]
 | (a,b) :: r=>if k=a then (k,x) :: r else (a,b) :: Dx k x r
def BG (g:α→V) (d:α) (l:List (Dg × α)):V:=.mp l.length (fun j=>dg (l.getD j (Dg.zero,d)).1) (fun j=>g (l.getD j (Dg.zero,d)).2)
theorem Uq (k:Dg) (ks:Nat→V) (d:α):∀ (l:List (Dg × α)) (i:Nat),(∀ j,j < l.length→ks (i + j)=dg (l.getD j (Dg.zero,d)).1)→HS (.ar 32 1 false .int) (dg k) ks i l.length=(MK k l).map (i + ·)
 | [],_,_=>rfl
 | (a, b) :: r, i, h => by
   have h0:=h 0 B9;simp only [Nat.add_zero,List.getD_cons_zero] at h0
   have ih:=Uq k ks d r (i + 1) (fun j hj=>by
    have:=h (j + 1) (by simpa using hj);simp only [List.getD_cons_succ] at this
    rw [← this];congr 1;omega)
   simp only [List.length_cons,HS,h0,K2,decide_eq_true_eq,MK];by_cases hk:k=a
   ·simp [hk]
   ·simp only [hk,if_false,ih,Option.map_map]
    congr 1
    funext j;simp only [Function.comp];omega
theorem V4 (k:Dg) (d:α) (l:List (Dg × α)):HS (.ar 32 1 false .int) (dg k) (fun j=>dg (l.getD j (Dg.zero,d)).1) 0 l.length=MK k l:=by
 rw [Uq k _ d l 0 (fun j _=>by rw [Nat.zero_add])];cases MK k l <;> simp
theorem Vm (k:Dg) (d:α):∀ l:List (Dg × α),En k l=(MK k l).map (fun i=>(l.getD i (Dg.zero,d)).2)
 | []=>rfl
 | (a, b) :: r => by
   simp only [En,MK];by_cases hk:k=a
   ·simp [hk]
   ·simp only [hk,if_false,Vm k d r,Option.map_map]
    congr 1
def lkR (z:Z) (ok:Bool) (g:α→V):Option α→V
 | some x=>if ok then .tup (.fcons 0 (g x) (.fcons 1 (.bool true) .fnil)) else g x
 | none=>if ok then .tup (.fcons 0 (z.v 0) (.fcons 1 (.bool false) .fnil)) else z.v 0
theorem Amy (z:Z) (g:α→V) (x:α):lkR z true g (some x) = .tup (.fcons 0 (g x) (.fcons 1 (.bool true) .fnil)):=rfl
theorem Amb (z:Z) (g:α→V):lkR z true g none = .tup (.fcons 0 (z.v 0) (.fcons 1 (.bool false) .fnil)):=rfl
theorem Aln (z:Z) (g:α→V) (x:α):lkR z false g (some x)=g x:=rfl
theorem Alg (z:Z) (g:α→V):lkR z false g none=z.v 0:=rfl
theorem VC (z:Z) (ok hh:Bool) (g:α→V) (d:α) (l:List (Dg × α)) (k:Dg) (H:Hp):Df (.ar 32 1 false .int) z ok hh (BG g d l) (dg k) H=⟨hh=true,lkR z ok g (En k l),H⟩:=by
 simp only [Df,BG,V4,Vm k d l,D4,eq_true (Im true _ _),implies_true,Jb]
 congr 1
 cases MK k l <;> rfl
theorem Q8 (k:Dg) (x:α):∀ l:List (Dg × α),(Dx k x l).length=(match MK k l with | some _=>l.length | none=>l.length + 1)
 | []=>rfl
 | (a, b) :: r => by
   simp only [Dx,MK];by_cases hk:k=a
   ·simp [hk]
   ·simp only [hk,if_false,List.length_cons,Q8 k x r];cases MK k r <;> rfl
theorem UG (k:Dg) (x:α) (d:Dg × α):∀ (l:List (Dg × α)) (j:Nat),(Dx k x l).getD j d=if j=(MK k l).getD l.length then (k,x) else l.getD j d
 | [], j => by
   simp only [Dx,MK,Option.getD_none,List.length_nil];cases j <;> simp
 | (a, b) :: r, j => by
   simp only [Dx,MK];by_cases hk:k=a
   ·simp only [hk,if_true,Option.getD_some];cases j <;> simp
   ·simp only [hk,if_false];cases j with
    | zero =>
      simp only [List.getD_cons_zero,List.length_cons];rw [if_neg];cases MK k r <;> simp
    | succ j =>
      simp only [List.getD_cons_succ,UG k x d r j,List.length_cons];have e:((MK k r).map (· + 1)).getD (r.length + 1)=(MK k r).getD r.length + 1:=by cases MK k r <;> rfl
      rw [e];simp only [Nat.add_right_cancel_iff]
theorem YO (hh:Bool) (g:α→V) (d:α) (l:List (Dg × α)) (k:Dg) (x:α) (id:Nat) (H:Hp):Hh (.ar 32 1 false .int) hh (BG g d l) (dg k) (g x) id H=⟨hh=true∧(g x).solid=true,.tup .fnil,CA H id (BG g d (Dx k x l))⟩:=by
 have e:BG g d (Dx k x l) = .mp (match MK k l with | some _=>l.length | none=>l.length + 1) (fun j=>if j=(MK k l).getD l.length then dg k else dg (l.getD j (Dg.zero,d)).1) (fun j=>if j=(MK k l).getD l.length then g x else g (l.getD j (Dg.zero,d)).2):=by
  simp only [BG,Q8,UG]
  congr 1
  ·funext j;split <;> rfl
  ·funext j;split <;> rfl
 rw [e];simp only [Hh,BG,V4,D4,eq_true (Im true _ _),implies_true,Jb]
theorem UU (m:List Nat) (g:α→V) (hg:∀ x,(g x).ren m=g x) (d:α) (l:List (Dg × α)):(BG g d l).ren m=BG g d l:=by
 simp only [BG,V.ren,Bt,hg]
theorem Qy (g:α→V) (hg:∀ x,AF (g x)) (d:α) (l:List (Dg × α)):AF (BG g d l):=by
 simp only [BG,AF,Ri,true_and];exact fun i _=>hg _
theorem Ko (H:Hp) (m z:List Nat) (g:α→V) (hg:∀ x,Ay H m z (g x) (g x)) (d:α) (l:List (Dg × α)):Ay H m z (BG g d l) (BG g d l):=by
 simp only [BG,Ay,true_and];exact fun i _=>⟨(AJ _ _ _ _ _).mpr rfl,hg _⟩
theorem Aed (H:Hp) (m z:List Nat) (g:α→V) (d:α) (ks vs:Nat→V):Ay H m z (BG g d []) (.mp 0 ks vs):=by
 simp only [BG,Ay,List.length_nil,Nat.not_lt_zero,false_implies,implies_true,and_self]
end
structure Pr where
 l:List (BitVec 8)
 h:l.length=64
deriving DecidableEq
def Pr.at (d:Pr) (j:Nat):BitVec 8:=d.l.getD j 0
def Pr.mk' (f:Nat→BitVec 8):Pr:=⟨(List.range 64).map f,by simp⟩
theorem Pr.at_mk' (f:Nat→BitVec 8) (j:Nat) (hj:j < 64):(Pr.mk' f).at j=f j:=by
 simp [Pr.at,Pr.mk',List.getD,List.getElem?_map,List.getElem?_range hj]
theorem Pr.ext' {a b:Pr} (h:∀ j,j < 64→a.at j=b.at j):a=b:=by
 obtain ⟨l,hl⟩:=a;obtain ⟨m,hm⟩:=b;have:l=m:=by
  apply List.ext_getElem Aa;intro i h1 h2;have:=h i Aa;simpa [Pr.at,List.getD,h1,h2] using this
 subst this;rfl
def Pr.zero:Pr:=Pr.mk' fun _=>0
theorem Pr.at_out (d:Pr) (j:Nat) (hj:¬ j < 64):d.at j=0:=by
 rw [Pr.at,List.getD_eq_getElem?_getD,List.getElem?_eq_none (by rw [d.h];omega)];rfl
theorem Pr.at_zero (j:Nat):Pr.zero.at j=0:=by
 by_cases hj:j < 64
 ·rw [Pr.zero,Pr.at_mk' _ _ hj]
 ·exact Pr.at_out _ _ hj
def AL (p:Pr):V:=.ar 1 64 (fun j=>B (p.at j))
def Lc3:=(AY @Pr.at_zero @AL.eq_1)
def Lap:=(AY @b7 @AL.eq_1)
def Lbc:=(AY @Lap @Pr.at_zero)
theorem WY (p:Pr):(AL p).solid=true:=rfl
theorem Yd (p:Pr):(AL p).size=64:=rfl
theorem Ad1 (p:Pr):(AL p).isAgg=true:=rfl
theorem Afe (m:List Nat) (p:Pr):(AL p).ren m=AL p:=rfl
theorem QW (p:Pr):AF (AL p)=True:=eq_true (by simp only [AF,AL,B,implies_true])
theorem DX (H:Hp) (m z:List Nat) (a b:Pr):Ay H m z (AL a) (AL b) ↔ b=a:=by
 simp only [Ay,AL,K8,true_and];constructor
 ·intro h;exact Pr.ext' (fun j hj=>h j hj)
 ·rintro rfl _ _;rfl
theorem Ack (H:Hp) (m z:List Nat) (a:Pr) (u:V):Bz H m z (AL a) u=Ay H m z (AL a) u:=rfl
theorem Ahr (k:Nat) (p:Pr):V.get [.i 1 k] (AL p)=B (p.at k):=rfl
theorem Z0 (p:Pr):Xi 1 64 (AL p)=True:=by simp [AL,Xi]
theorem Z6 (c:Bool) (a b:Pr):AR c (.ar 64 1 false .int) (AL a) (AL b):=by
 simp only [AR,AL,true_and];intro i _;refine ⟨rfl,rfl,?_⟩;simp only [B]
theorem XT (a b:Pr):AX (.ar 64 1 false .int) (AL a) (AL b)=decide (a=b):=by
 have h1:AX (.ar 64 1 false .int) (AL a) (AL b)=(List.range 64).all (fun i=>decide (a.at i=b.at i)):=by
  simp only [AX,AL,B,eqB]
 rw [h1,Bool.eq_iff_iff,List.all_eq_true];simp only [decide_eq_true_eq,List.mem_range];constructor
 ·exact fun h=>Pr.ext' h
 ·rintro rfl _ _;rfl
theorem Vu:V.ar 1 64 (fun _=>B 0#8)=AL Pr.zero:=by
 have h:(fun _=>B 0#8)=fun j=>B (Pr.zero.at j):=by funext j;rw [Pr.at_zero];rfl
 simp only [AL,h]
theorem Ae5 (d:Dg):Xi 1 32 (dg d)=True:=by simp [dg,Xi]
theorem Xo (o n sz:Nat) (d:Dg):IV o n sz (dg d)=some (sz,n,fun i=>B (d.at (o + i))):=rfl
theorem VQ (o n:Nat) (d:Dg):HF o n 1 (dg d)=(o + n≤32):=by simp [dg,HF]
theorem Ua (o n sz:Nat) (d:Pr):IV o n sz (AL d)=some (sz,n,fun i=>B (d.at (o + i))):=rfl
theorem Tb (o n:Nat) (d:Pr):HF o n 1 (AL d)=(o + n≤64):=by simp [AL,HF]
theorem YF (H:Hp) (m z:List Nat) (d:Pr) (l:List (Dg × Pr)):Ay H m z (BG AL d l) (BG AL d l)=True:=eq_true (Ko H m z AL (fun _=>(DX _ _ _ _ _).mpr rfl) d l)
theorem Wd (d:Pr) (l:List (Dg × Pr)):AF (BG AL d l)=True:=eq_true (Qy AL (fun x=>by rw [QW];trivial) d l)
theorem Zb (m:List Nat) (d:Pr) (l:List (Dg × Pr)):(BG AL d l).ren m=BG AL d l:=UU m AL (fun _=>rfl) d l
theorem Ah4 (p:Pr) (i:Nat) (r:V):Kf (AL p) i r = .fcons i (AL p) r:=rfl
theorem Afp (p:Pr):Ho (AL p)=True:=by simp [Ho,AL,V.solid]
def l6:=@AL.eq_1
variable {M:Seat}
def LZ:=(aq9 (Jx @LG @LP @LN @u7 @V.ren.eq_2 @V.ren.eq_3 @V.ren.eq_4 @V.ren.eq_5 @V.ren.eq_6 @V.ren.eq_7 @V.ren.eq_8 @V.ren.eq_9 @V.ren.eq_10 @V.ren.eq_11) (Ej @V.ren.eq_12 @V.ren.eq_13 @V.ren.eq_14 @AU.eq_1 @AU.eq_2 @AB.eq_1 @AB.eq_2 @AK.eq_1 @AK.eq_2 @AK.eq_3 @AK.eq_4 @X8.eq_1 @X8.eq_2 @G0.eq_1 @G0.eq_2) (Ej @Mv.hx.eq_1 @Es.eq_1 @Es.eq_2 @bs.eq_1 @Ht.eq_1 @Ht.eq_2 @LK.isW.eq_1 @LK.isW.eq_2 @LK.isW.eq_3 @LK.isW.eq_4 @LK.isW.eq_5 @LK.isW.eq_6 @LK.isW.eq_7 @LK.isW.eq_8 @LK.isA.eq_1) (Ej @LK.isA.eq_2 @LK.isA.eq_3 @LK.isA.eq_4 @LK.isA.eq_5 @LK.isA.eq_6 @LK.isA.eq_7 @j6 @LK.isP.eq_2 @LK.isP.eq_3 @LK.isP.eq_4 @LK.isP.eq_5 @LK.isP.eq_6 @LK.isP.eq_7 @LK.isP.eq_8 @LK.isP.eq_9) (Jx @LK.isP.eq_10 @LK.isP.eq_11 @LK.isP.eq_12 @LK.isP.eq_13 @num.eq_1 @num.eq_2 @X.ev.eq_1 @X.ev.eq_2 @X.ev.eq_3 @X.ev.eq_4 @CK.eq_1 @CK.eq_2 @BT.eq_1 @BT.eq_2) (Ej @EG.eq_1 @EG.eq_2 @Dq.eq_1 @Dq.eq_2 @x5 @x6 @CA.eq_1 @CA.eq_2 @BZ.eq_1 @BZ.eq_2 @x9 @y7 @D9.eq_1 @D9.eq_2 @D9.eq_3) (Ej @V.ok.eq_1 @V.ok.eq_2 @V.ok.eq_3 @V.ok.eq_4 @V.ok.eq_5 @a0e @a0f @a0g @a0h @a0i @V.set.eq_1 @V.set.eq_2 @V.set.eq_3 @V.set.eq_4 @y9) (Ej @z7 @a0a @a0b @V.fset.eq_1 @V.fset.eq_2 @HV.eq_1 @HV.eq_2 @HV.eq_3 @m8 @Z.v.eq_2 @Z.v.eq_3 @Z.v.eq_4 @Z.v.eq_5 @Z.v.eq_6 @Z.v.eq_7) (Ej @Z.v.eq_8 @Z.v.eq_9 @Z.v.eq_10 @Z.v.eq_11 @Z.v.eq_12 @Z.sz.eq_1 @Z.sz.eq_2 @Z.sz.eq_3 @Z.sz.eq_4 @Z.sz.eq_5 @CM.eq_1 @CM.eq_2 @CM.eq_3 @forall_const.{0} @forall_const.{1}))
def Lbp:=(AY @Int.cast_ofNat_Int @LZ)
def CP:=(AY @LZ @c7)
def Bb:=(AY @LZ @d9)
def LY:=(Em (Jx @Dg.at_zero @DA @Sw @LT @LP @Nc.eq_1 @Nc.eq_2 @Bp.eq_1 @Bp.eq_2 @Bp.eq_3 @f9 @g7 @g9 @y8) (Ej @Ay.eq_5 @Ay.eq_6 @Ay.eq_7 @Ay.eq_8 @Ay.eq_9 @Ay.eq_10 @Ay.eq_11 @Ay.eq_12 @Ay.eq_13 @Ay.eq_14 @Ay.eq_15 @Ay.eq_16 @Ay.eq_17 @Ay.eq_18 @Ay.eq_19) (Jx @Ay.eq_20 @Ay.eq_21 @Ay.eq_22 @Ay.eq_23 @Ay.eq_24 @Ay.eq_25 @Ay.eq_26 @Ay.eq_27 @Ay.eq_28 @Ay.eq_29 @Ay.eq_30 @Ay.eq_31 @Ay.eq_32 @Ay.eq_33) (Ej @Ay.eq_34 @Ay.eq_35 @Ay.eq_36 @Ay.eq_37 @Ay.eq_38 @Ay.eq_40 @BC.eq_1 @BC.eq_2 @x5 @x6 @x9 @y7 @V.ok.eq_1 @V.ok.eq_2 @V.ok.eq_3) (Ej @V.ok.eq_4 @V.ok.eq_5 @a0e @a0f @a0g @a0h @a0i @y9 @z7 @a0a @a0b @Au1 @Auo @implies_true.{0} @implies_true.{1}))
def LX:=(AY (EZ @d9 @l5 @Aq2.eq_1 @Atg.eq_1 @c7 @l9 @AF.eq_2 @AF.eq_3 @AF.eq_4 @AF.eq_5 @AF.eq_6 @AF.eq_7) (Jh @AF.eq_8 @AF.eq_9 @AF.eq_10 @AF.eq_11 @C2.eq_1 @C2.eq_2 @ws.eq_1 @Sk @Ans @Ri @and_self @implies_true.{0} @implies_true.{1}))
def LV:=(EZ @EL.eq_1 @EL.eq_2 @Hv.eq_1 @Hv.eq_2 @Ii.eq_1 @Ii.eq_2 @Fe.eq_1 @Fe.eq_2 @d9 @l5 @b7 @Yp)
def Di:=(AY @LV @LZ)
def KR:=(AY @LY @Di)
def LM:=(AY (Jh @Ww @WW @Abg @Agq @Ant @VC @YO @Amy @Amb @Aln @Alg @WY @Yd) (Jx @Ad1 @Afe @Ahr @Z0 @Z6 @XT @Ah4 @Afp @Ae5 @Xo @VQ @Ua @Tb @Zb))
def Cz:=(AY @LM @Bb)
def Bn:=(AY @LM @LZ)
def Cg:=(Gb @DX @Ack @YF @Aed @QW @Wd)
def Qu:=(AY @Cg @d9)
def BI:=(AY @Cg @LY)
theorem Aj {f:Nat} {us us0:List V} {H:Hp} {n:Nat} {K:V→Hp→Prop} {v:V} (hr:Ae M f us0 [] 0 (Q3 v [] 0)) (hK:K v H) (hus:Bp H [] (ids H) us0 us:=by ((try simp only [LY,seval]) <;> exact q1)) (hv:v.ren (B8 [] n 0)=v:=by first | rfl | (simp only [LN,LP,V.ren,Ai,B0])) (hn:AF v:=by simp only [LX]):Bg M f us H n K:=Kv hr hus hv hn hK
theorem DY {f:Nat} {us us0:List V} {H Hn:Hp} {n kn:Nat} {K:V→Hp→Prop} {v:V} (hr:Ae M f us0 [] 0 (Q3 v Hn kn)) (hK:K (v.ren (AK [] n kn)) (AU (AK [] n kn) Hn ++ H)) (hk:decide (kn≤16)=true:=by decide) (hus:Bp H [] (ids H) us0 us:=by ((try simp only [LY,seval]) <;> exact q1)) (hv:AF v:=by simp only [LX]) (hn:C2 Hn:=by simp only [LX]):Bg M f us H n K:=Pb hr hk hus hv hn hK
theorem Vr {f:Nat} {us us0:List V} {H H0 Hn:Hp} {n k kn:Nat} {K:V→Hp→Prop} {v:V} (m:List Nat) (hr:Ae M f us0 H0 k (Q3 v Hn kn)) (hK:K (v.ren (AK m n kn)) (AU (AK m n kn) Hn ++ AB H m)) (hm:(decide m.Nodup && decide (m.length=k) && decide (k≤kn) && decide (kn≤k + 16))=true:=by decide) (hall:(m.all fun i=>Ag H i)=true:=by rfl) (hus:Bp H m (CC H m) us0 us:=by ((try simp only [LY,seval]) <;> exact q1)) (hH:BC H m (CC H m) H0:=by ((try simp only [LY,seval]) <;> exact q1)) (hv:AF v:=by simp only [LX]) (hn:C2 Hn:=by simp only [LX]):Bg M f us H n K:=Of m hr hm hall hus hH hv hn hK
theorem AO {f:Nat} {us us0:List V} {H:Hp} {n:Nat} {K:V→Hp→Prop} {v:V} (hr:Ae M f us0 [] 0 (Q3 v [] 0)) (hK:K v H) (hus:Bp H [] (ids H) us0 us:=by ((try simp only [LY,seval]) <;> exact q1)) (hv:v.ren (B8 [] n 0)=v:=by first | rfl | (simp only [LN,LP,V.ren,Ai,B0])) (hn:AF v:=by simp only [LX]):Gk M f us H n K:=Abj hr hus hv hn hK
theorem Am3 {f:Nat} {us us0:List V} {H H0 Hn:Hp} {n k kn:Nat} {K:V→Hp→Prop} {v:V} (m:List Nat) (hr:Ae M f us0 H0 k (Q3 v Hn kn)) (hK:K (v.ren (AK m n kn)) (AU (AK m n kn) Hn ++ AB H m)) (hm:(decide m.Nodup && decide (m.length=k) && decide (k≤kn) && decide (kn≤k + 16))=true:=by decide) (hall:(m.all fun i=>Ag H i)=true:=by rfl) (hus:Bp H m (CC H m) us0 us:=by ((try simp only [LY,seval]) <;> exact q1)) (hH:BC H m (CC H m) H0:=by ((try simp only [LY,seval]) <;> exact q1)) (hv:AF v:=by simp only [LX]) (hn:C2 Hn:=by simp only [LX]):Gk M f us H n K:=Ye m hr hm hall hus hH hv hn hK
theorem Ap.mkZ {x:Ctx} {rs:List RVr} {Q:V→Hp→Nat→Prop} {A:List V} {H:Hp} {N:Nat} {k:Nat} (hx:x.k=k) (m:List Nat) {v:V} {H':Hp} {N':Nat} (h4:Q v H' N') (hm:(decide m.Nodup && ([]:List Nat).all (fun i=>!m.contains i) && decide (m.length≤N') && decide (k≤N') && (List.range k).all (fun j=>m[j]? == some j))=true:=by decide) (h1:(EL A H rs).1:=by (simp only [Di,seval])) (h2:Bz H m [] v (EL A H rs).2:=by ((try simp only [KR,seval]) <;> exact q2)) (h3:BC H m [] H':=by ((try simp only [LY,seval]) <;> exact q2)):Ap M x rs Q A H N:=Ap.mk hx m [] v H' N' hm h1 h2 h3 h4
theorem cpK {f:Nat} {us us0:List V} {H:Hp} {n:Nat} {K:V→Hp→Prop} {v:V} (hr:Ae M f us0 [] 0 (Q3 v [] 0)) (hus:Bp H [] (ids H) us0 us) (hn:AF v) (hK:K v H) (hv:v.ren (B8 [] n 0)=v:=by first | rfl | (simp only [LN,LP,V.ren,Ai,B0])):Bg M f us H n K:=Kv hr hus hv hn hK
theorem cfK {f:Nat} {us us0:List V} {H Hn:Hp} {n kn:Nat} {K:V→Hp→Prop} {v:V} (hr:Ae M f us0 [] 0 (Q3 v Hn kn)) (hus:Bp H [] (ids H) us0 us) (hn:AF v∧C2 Hn) (hK:K (v.ren (AK [] n kn)) (AU (AK [] n kn) Hn ++ H)) (hk:decide (kn≤16)=true:=by decide):Bg M f us H n K:=Pb hr hk hus hn.1 hn.2 hK
theorem cmK {f:Nat} {us us0:List V} {H H0 Hn:Hp} {n k kn:Nat} {K:V→Hp→Prop} {v:V} (m:List Nat) (hr:Ae M f us0 H0 k (Q3 v Hn kn)) (hs:Bp H m (CC H m) us0 us∧BC H m (CC H m) H0) (hn:AF v∧C2 Hn) (hK:K (v.ren (AK m n kn)) (AU (AK m n kn) Hn ++ AB H m)) (hm:(decide m.Nodup && decide (m.length=k) && decide (k≤kn) && decide (kn≤k + 16))=true:=by decide) (hall:(m.all fun i=>Ag H i)=true:=by rfl):Bg M f us H n K:=Of m hr hm hall hs.1 hs.2 hn.1 hn.2 hK
theorem Nt {f:Nat} {us us0:List V} {H H0 Hn:Hp} {n k kn:Nat} {K:V→Hp→Prop} {v:V} (m m0:List Nat) (hr:Ae M f us0 H0 k (Q3 v Hn kn)) (hs:Bp H m (CC H m) us0 us∧BC H m (CC H m) H0) (hn:AF v∧C2 Hn) (hK:K (v.ren (AK m n kn)) (AU (AK m n kn) Hn ++ AB H m0)) (h0:((ids H0).all fun id=>match m[id]? with | some i=>m0.contains i | none=>true)=true:=by rfl) (h0m:(m0.all fun i=>m.contains i)=true:=by rfl) (hm:(decide m.Nodup && decide (m.length=k) && decide (k≤kn) && decide (kn≤k + 16))=true:=by decide) (hall:(m.all fun i=>Ag H i || De us i)=true:=by rfl) (hall0:(m0.all fun i=>Ag H i)=true:=by rfl):Bg M f us H n K:=UJ m m0 hr h0 h0m hm hall hall0 hs.1 hs.2 hn.1 hn.2 hK
theorem RZ {f:Nat} {us us0:List V} {H H0 Hn:Hp} {n k kn:Nat} {K:V→Hp→Prop} {v:V} (m m0:List Nat) (hr:Ae M f us0 H0 k (Q3 v Hn kn)) (hs:Bp H m [] us0 us∧BC H m [] H0) (hK:K (v.ren (AK m n kn)) (AU (AK m n kn) Hn ++ AB H m0)) (h0:((ids H0).all fun id=>match m[id]? with | some i=>m0.contains i | none=>true)=true:=by rfl) (h0m:(m0.all fun i=>m.contains i)=true:=by rfl) (hm:(decide m.Nodup && decide (m.length=k) && decide (k≤kn) && decide (kn≤k + 16))=true:=by decide) (hall:(m.all fun i=>Ag H i || (HK m0 H i || De us i))=true:=by rfl) (hall0:(m0.all fun i=>Ag H i)=true:=by rfl):Bg M f us H n K:=Uu m m0 hr h0 h0m hm hall hall0 hs.1 hs.2 hK
theorem opK {f:Nat} {us us0:List V} {H:Hp} {n:Nat} {K:V→Hp→Prop} {v:V} (hr:Ae M f us0 [] 0 (Q3 v [] 0)) (hus:Bp H [] (ids H) us0 us) (hn:AF v) (hK:K v H) (hv:v.ren (B8 [] n 0)=v:=by first | rfl | (simp only [LN,LP,V.ren,Ai,B0])):Gk M f us H n K:=Abj hr hus hv hn hK
theorem ofK {f:Nat} {us us0:List V} {H Hn:Hp} {n kn:Nat} {K:V→Hp→Prop} {v:V} (hr:Ae M f us0 [] 0 (Q3 v Hn kn)) (hus:Bp H [] (ids H) us0 us) (hn:AF v∧C2 Hn) (hK:K (v.ren (AK [] n kn)) (AU (AK [] n kn) Hn ++ H)) (hk:decide (kn≤16)=true:=by decide):Gk M f us H n K:=Ajk hr hk hus hn.1 hn.2 hK
theorem omK {f:Nat} {us us0:List V} {H H0 Hn:Hp} {n k kn:Nat} {K:V→Hp→Prop} {v:V} (m:List Nat) (hr:Ae M f us0 H0 k (Q3 v Hn kn)) (hs:Bp H m (CC H m) us0 us∧BC H m (CC H m) H0) (hn:AF v∧C2 Hn) (hK:K (v.ren (AK m n kn)) (AU (AK m n kn) Hn ++ AB H m)) (hm:(decide m.Nodup && decide (m.length=k) && decide (k≤kn) && decide (kn≤k + 16))=true:=by decide) (hall:(m.all fun i=>Ag H i)=true:=by rfl):Gk M f us H n K:=Ye m hr hm hall hs.1 hs.2 hn.1 hn.2 hK
theorem obK {f:Nat} {us us0:List V} {H H0 Hn:Hp} {n k kn:Nat} {K:V→Hp→Prop} {v:V} (m m0:List Nat) (hr:Ae M f us0 H0 k (Q3 v Hn kn)) (hs:Bp H m (CC H m) us0 us∧BC H m (CC H m) H0) (hn:AF v∧C2 Hn) (hK:K (v.ren (AK m n kn)) (AU (AK m n kn) Hn ++ AB H m0)) (h0:((ids H0).all fun id=>match m[id]? with | some i=>m0.contains i | none=>true)=true:=by rfl) (h0m:(m0.all fun i=>m.contains i)=true:=by rfl) (hm:(decide m.Nodup && decide (m.length=k) && decide (k≤kn) && decide (kn≤k + 16))=true:=by decide) (hall:(m.all fun i=>Ag H i || De us i)=true:=by rfl) (hall0:(m0.all fun i=>Ag H i)=true:=by rfl):Gk M f us H n K:=Al7 m m0 hr h0 h0m hm hall hall0 hs.1 hs.2 hn.1 hn.2 hK
theorem onK {f:Nat} {us us0:List V} {H H0 Hn:Hp} {n k kn:Nat} {K:V→Hp→Prop} {v:V} (m m0:List Nat) (hr:Ae M f us0 H0 k (Q3 v Hn kn)) (hs:Bp H m [] us0 us∧BC H m [] H0) (hK:K (v.ren (AK m n kn)) (AU (AK m n kn) Hn ++ AB H m0)) (h0:((ids H0).all fun id=>match m[id]? with | some i=>m0.contains i | none=>true)=true:=by rfl) (h0m:(m0.all fun i=>m.contains i)=true:=by rfl) (hm:(decide m.Nodup && decide (m.length=k) && decide (k≤kn) && decide (kn≤k + 16))=true:=by decide) (hall:(m.all fun i=>Ag H i || (HK m0 H i || De us i))=true:=by rfl) (hall0:(m0.all fun i=>Ag H i)=true:=by rfl):Gk M f us H n K:=Ajw m m0 hr h0 h0m hm hall hall0 hs.1 hs.2 hK
theorem oyK {f:Nat} {v:V} {us us0:List V} {H:Hp} {n:Nat} {C:V→Hp→Prop} {r:V} (hf:Gf M f) (hr:Ae M f us0 [] 0 (fun r' H' k'=>r'=r∧H'=[]∧k'=0)) (hus:Bp H [] (ids H) us0 (us ++ [v])) (hn:AF r) (hC:C r H) (hv:(v.solid && !v.isAgg)=true:=by rfl) (hv2:r.ren (B8 [] n 0)=r:=by first | rfl | (simp only [LN,LP,V.ren,Ai,B0])):VX M (.fn f (.st 1 (.fcons 0 v .fnil))) us H n C:=Aqo hf hv hr hus hv2 hn hC
theorem rqK {x:Ctx} {rs:List RVr} {Q:V→Hp→Nat→Prop} {A:List V} {H:Hp} {N:Nat} {k:Nat} (hx:x.k=k) (m:List Nat) {v:V} {H':Hp} {N':Nat} (h4:Q v H' N') (h1:(EL A H rs).1) (h2:Bz H m [] v (EL A H rs).2) (h3:BC H m [] H') (hm:(decide m.Nodup && ([]:List Nat).all (fun i=>!m.contains i) && decide (m.length≤N') && decide (k≤N') && (List.range k).all (fun j=>m[j]? == some j))=true:=by decide):Ap M x rs Q A H N:=Ap.mk hx m [] v H' N' hm h1 h2 h3 h4
theorem Dh {f:Nat} {us us0:List V} {H:Hp} {n:Nat} {K:V→Hp→Prop} {v:V} (hr:Ae M f us0 [] 0 (Q3 v [] 0)) (hK:K v H) (hv:v.ren (B8 [] n 0)=v:=by first | rfl | (simp only [LN,LP,V.ren,Ai,B0])) (hus:Bp H [] (ids H) us0 us:=by (try simp only [zz,LY,seval]) <;> first | exact True.intro | rfl) (hn:AF v:=by simp only [zz,LX]):Bg M f us H n K:=cpK hr hus hn hK hv
theorem Jp {f:Nat} {us us0:List V} {H Hn:Hp} {n kn:Nat} {K:V→Hp→Prop} {v:V} (hr:Ae M f us0 [] 0 (Q3 v Hn kn)) (hK:K (v.ren (AK [] n kn)) (AU (AK [] n kn) Hn ++ H)) (hk:decide (kn≤16)=true:=by decide) (hus:Bp H [] (ids H) us0 us:=by (try simp only [zz,LY,seval]) <;> first | exact True.intro | rfl) (hn:AF v∧C2 Hn:=by simp only [zz,LX]):Bg M f us H n K:=cfK hr hus hn hK hk
theorem GY {f:Nat} {us us0:List V} {H H0 Hn:Hp} {n k kn:Nat} {K:V→Hp→Prop} {v:V} (m:List Nat) (hr:Ae M f us0 H0 k (Q3 v Hn kn)) (hK:K (v.ren (AK m n kn)) (AU (AK m n kn) Hn ++ AB H m)) (hm:(decide m.Nodup && decide (m.length=k) && decide (k≤kn) && decide (kn≤k + 16))=true:=by decide) (hall:(m.all fun i=>Ag H i)=true:=by rfl) (hs:Bp H m (CC H m) us0 us∧BC H m (CC H m) H0:=by constructor <;> (try simp only [zz,LY,seval]) <;> first | exact True.intro | rfl) (hn:AF v∧C2 Hn:=by simp only [zz,LX]):Bg M f us H n K:=cmK m hr hs hn hK hm hall
theorem Z8 {f:Nat} {us us0:List V} {H H0 Hn:Hp} {n k kn:Nat} {K:V→Hp→Prop} {v:V} (m m0:List Nat) (hr:Ae M f us0 H0 k (Q3 v Hn kn)) (hK:K (v.ren (AK m n kn)) (AU (AK m n kn) Hn ++ AB H m0)) (h0:((ids H0).all fun id=>match m[id]? with | some i=>m0.contains i | none=>true)=true:=by rfl) (h0m:(m0.all fun i=>m.contains i)=true:=by rfl) (hm:(decide m.Nodup && decide (m.length=k) && decide (k≤kn) && decide (kn≤k + 16))=true:=by decide) (hall:(m.all fun i=>Ag H i || De us i)=true:=by rfl) (hall0:(m0.all fun i=>Ag H i)=true:=by rfl) (hs:Bp H m (CC H m) us0 us∧BC H m (CC H m) H0:=by constructor <;> (try simp only [zz,LY,seval]) <;> first | exact True.intro | rfl) (hn:AF v∧C2 Hn:=by simp only [zz,LX]):Bg M f us H n K:=Nt m m0 hr hs hn hK h0 h0m hm hall hall0
theorem By {f:Nat} {us us0:List V} {H H0 Hn:Hp} {n k kn:Nat} {K:V→Hp→Prop} {v:V} (m m0:List Nat) (hr:Ae M f us0 H0 k (Q3 v Hn kn)) (hK:K (v.ren (AK m n kn)) (AU (AK m n kn) Hn ++ AB H m0)) (h0:((ids H0).all fun id=>match m[id]? with | some i=>m0.contains i | none=>true)=true:=by rfl) (h0m:(m0.all fun i=>m.contains i)=true:=by rfl) (hm:(decide m.Nodup && decide (m.length=k) && decide (k≤kn) && decide (kn≤k + 16))=true:=by decide) (hall:(m.all fun i=>Ag H i || (HK m0 H i || De us i))=true:=by rfl) (hall0:(m0.all fun i=>Ag H i)=true:=by rfl) (hs:Bp H m [] us0 us∧BC H m [] H0:=by constructor <;> (try simp only [zz,LY,seval]) <;> first | exact True.intro | rfl):Bg M f us H n K:=RZ m m0 hr hs hK h0 h0m hm hall hall0
theorem Ge {f:Nat} {us us0:List V} {H:Hp} {n:Nat} {K:V→Hp→Prop} {v:V} (hr:Ae M f us0 [] 0 (Q3 v [] 0)) (hK:K v H) (hv:v.ren (B8 [] n 0)=v:=by first | rfl | (simp only [LN,LP,V.ren,Ai,B0])) (hus:Bp H [] (ids H) us0 us:=by (try simp only [zz,LY,seval]) <;> first | exact True.intro | rfl) (hn:AF v:=by simp only [zz,LX]):Gk M f us H n K:=opK hr hus hn hK hv
theorem ofY {f:Nat} {us us0:List V} {H Hn:Hp} {n kn:Nat} {K:V→Hp→Prop} {v:V} (hr:Ae M f us0 [] 0 (Q3 v Hn kn)) (hK:K (v.ren (AK [] n kn)) (AU (AK [] n kn) Hn ++ H)) (hk:decide (kn≤16)=true:=by decide) (hus:Bp H [] (ids H) us0 us:=by (try simp only [zz,LY,seval]) <;> first | exact True.intro | rfl) (hn:AF v∧C2 Hn:=by simp only [zz,LX]):Gk M f us H n K:=ofK hr hus hn hK hk
theorem U2 {f:Nat} {us us0:List V} {H H0 Hn:Hp} {n k kn:Nat} {K:V→Hp→Prop} {v:V} (m:List Nat) (hr:Ae M f us0 H0 k (Q3 v Hn kn)) (hK:K (v.ren (AK m n kn)) (AU (AK m n kn) Hn ++ AB H m)) (hm:(decide m.Nodup && decide (m.length=k) && decide (k≤kn) && decide (kn≤k + 16))=true:=by decide) (hall:(m.all fun i=>Ag H i)=true:=by rfl) (hs:Bp H m (CC H m) us0 us∧BC H m (CC H m) H0:=by constructor <;> (try simp only [zz,LY,seval]) <;> first | exact True.intro | rfl) (hn:AF v∧C2 Hn:=by simp only [zz,LX]):Gk M f us H n K:=omK m hr hs hn hK hm hall
theorem obY {f:Nat} {us us0:List V} {H H0 Hn:Hp} {n k kn:Nat} {K:V→Hp→Prop} {v:V} (m m0:List Nat) (hr:Ae M f us0 H0 k (Q3 v Hn kn)) (hK:K (v.ren (AK m n kn)) (AU (AK m n kn) Hn ++ AB H m0)) (h0:((ids H0).all fun id=>match m[id]? with | some i=>m0.contains i | none=>true)=true:=by rfl) (h0m:(m0.all fun i=>m.contains i)=true:=by rfl) (hm:(decide m.Nodup && decide (m.length=k) && decide (k≤kn) && decide (kn≤k + 16))=true:=by decide) (hall:(m.all fun i=>Ag H i || De us i)=true:=by rfl) (hall0:(m0.all fun i=>Ag H i)=true:=by rfl) (hs:Bp H m (CC H m) us0 us∧BC H m (CC H m) H0:=by constructor <;> (try simp only [zz,LY,seval]) <;> first | exact True.intro | rfl) (hn:AF v∧C2 Hn:=by simp only [zz,LX]):Gk M f us H n K:=obK m m0 hr hs hn hK h0 h0m hm hall hall0
theorem G6 {f:Nat} {us us0:List V} {H H0 Hn:Hp} {n k kn:Nat} {K:V→Hp→Prop} {v:V} (m m0:List Nat) (hr:Ae M f us0 H0 k (Q3 v Hn kn)) (hK:K (v.ren (AK m n kn)) (AU (AK m n kn) Hn ++ AB H m0)) (h0:((ids H0).all fun id=>match m[id]? with | some i=>m0.contains i | none=>true)=true:=by rfl) (h0m:(m0.all fun i=>m.contains i)=true:=by rfl) (hm:(decide m.Nodup && decide (m.length=k) && decide (k≤kn) && decide (kn≤k + 16))=true:=by decide) (hall:(m.all fun i=>Ag H i || (HK m0 H i || De us i))=true:=by rfl) (hall0:(m0.all fun i=>Ag H i)=true:=by rfl) (hs:Bp H m [] us0 us∧BC H m [] H0:=by constructor <;> (try simp only [zz,LY,seval]) <;> first | exact True.intro | rfl):Gk M f us H n K:=onK m m0 hr hs hK h0 h0m hm hall hall0
theorem AI {x:Ctx} {rs:List RVr} {Q:V→Hp→Nat→Prop} {A:List V} {H:Hp} {N:Nat} {k:Nat} (hx:x.k=k) (m:List Nat) {v:V} {H':Hp} {N':Nat} (h4:Q v H' N') (h1:(EL A H rs).1:=by simp only [zz,Di,seval]) (h2:Bz H m [] v (EL A H rs).2:=by (try simp only [zz,KR,seval]) <;> first | exact True.intro | (intros;rfl)) (h3:BC H m [] H':=by (try simp only [zz,LY,seval]) <;> first | exact True.intro | (intros;rfl)) (hm:(decide m.Nodup && ([]:List Nat).all (fun i=>!m.contains i) && decide (m.length≤N') && decide (k≤N') && (List.range k).all (fun j=>m[j]? == some j))=true:=by decide):Ap M x rs Q A H N:=rqK hx m h4 h1 h2 h3 hm
theorem Nb {x:Ctx} {rs:List RVr} {Q:V→Hp→Nat→Prop} {A:List V} {H:Hp} {N:Nat} {k:Nat} (hx:x.k=k) (m:List Nat) (v:V) (H':Hp) (N':Nat) (h3:BC H m [] H') (hm:(decide m.Nodup && ([]:List Nat).all (fun i=>!m.contains i) && decide (m.length≤N') && decide (k≤N') && (List.range k).all (fun j=>m[j]? == some j))=true:=by decide) (h1:(EL A H rs).1:=by simp only [Di,seval]) (h2:Bz H m [] v (EL A H rs).2:=by (try simp only [KR,seval]) <;> first | exact True.intro | (intros;rfl)) (h4:Q v H' N':=by exact ⟨rfl,rfl,rfl⟩):Ap M x rs Q A H N:=Ap.mk hx m [] v H' N' hm h1 h2 h3 h4
end Mv
