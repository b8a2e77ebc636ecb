/- A part. -/
import Derived.Test.YtlfkjfonpacelaaGreatDoorFI
set_option linter.all false
set_option maxRecDepth 20000
set_option maxHeartbeats 4000000
namespace Mv
open Go
structure Pf where
 v:BitVec 64
 p:List Dg
instance:Inhabited Pf:=⟨⟨0#64,[]⟩⟩
def pfV (p:Pf):V:=.st 2 (.fcons 0 (W p.v) (.fcons 1 (.lst 32 p.p.length (IS p.p)) .fnil))
def Dp (l:List Pf) (i:Nat):V:=pfV (l.getD i default)
structure Ck where
 root:Dg
 l:List Pf
 pre:Pr
def Ck.vv (c:Ck):V:=.st 97 (.fcons 0 (dg c.root) (.fcons 32 (.lst 2 c.l.length (Dp c.l)) (.fcons 33 (A9 c.pre) .fnil)))
theorem J7 (H:Hp) (m z:List Nat) (p:Pf):Ar H m z (pfV p) (pfV p):=by simp only [pfV,IS,dg,LY,seval]
theorem AU (H:Hp) (m z:List Nat) (l:List Pf) (i:Nat):Ar H m z (Dp l i) (Dp l i)=True:=eq_true (J7 H m z _)
def To:=(Bc @Ce @AU)
theorem Fk (m:List Nat) (l:List Pf) (i:Nat):(Dp l i).ren m=Dp l i:=rfl
def Ld:=(Bc @Dq @Fk)
structure OkCk (M:Seat):Prop where
 m0:CK M 426 0 599
 m1:CK M 426 1 600
 m2:CK M 426 2 598
theorem up1 {M:Seat} {f:Nat} {us:List V} {v:V} {H Hn:Hp} {k kn:Nat} (h:Af M f us H k (Q3 v Hn kn)):Af M f us H k (Q3 v Hn (kn + 1)):=by
 intro e vs h1 h2 h3
 refine (h e vs h1 h2 h3).mono ?_
 rintro en w' ⟨x,v,e',H',k',a,b,c,d,f,g,rfl,rfl,rfl⟩
 exact ⟨x,v,e',_,_,a,b,c,d,fun id hid=>f id Aa,by omega,rfl,rfl,rfl⟩
def Ac0:LC:=(sr [A1 2 (.mv (.c .nilp))] (.seq (sr [mt 3 0,A1 4 (.eq false true .ptr (.t 3) (.c .nilp))] (.cond (.t 4) (sr [A1 2 (.mv (.c .nilp))] .ret) .skip)) (.seq (.regd [⟨0,0,mt 5 0⟩,⟨1,1,nc 6 5⟩,⟨2,3,fa 7 0 6⟩,⟨3,7,lb 8 1 7⟩,⟨4,15,kl 9 276 [(.t 8)]⟩,⟨5,0,mt 10 0⟩,⟨6,32,nc 11 10⟩,⟨7,96,fa 12 1 11⟩,⟨8,224,lb 13 1 12⟩,⟨9,0,A1 14 (.mkmap (.ar 32 (.int .u8)) .bool)⟩,⟨10,1023,A1 15 (.build (.st (.cons .map (.cons .ptr (.cons .map (.cons .slice .nil))))) [(.f 0,1,(.t 9)),(.f 1,1,(.t 13)),(.f 2,1,(.t 14))])⟩,⟨11,2047,bX 16 15⟩,⟨12,4095,mt 2 16⟩]) .ret)))
def Aa5:LF:=⟨Ac0,1,0,17,[.tmp 2]⟩
def Ai8:LC:=(sr [A1 2 (.mv (.c .nilm))] (.seq (sr [mt 3 0,A1 4 (.eq false true (.nils 1) (.t 3) (.c .nilm))] (.cond (.t 4) (sr [A1 2 (.mv (.c .nilm))] .ret) .skip)) (sr [mt 5 0,A1 6 (.mkif 362 (.t 5)),A1 7 (.mclone (.t 6)),A1 8 (.tas 362 (.t 7)),mt 2 8] .ret)))
def Afl:LF:=⟨Ai8,1,0,9,[.tmp 2]⟩
variable {M:Seat}
structure OkPr (M:Seat):Prop where
 k167:Av M 167 Aa5=true
 k276:Av M 276 Afl=true
 k595:Av M 595 Abi=true
 k596:Av M 596 RZ=true
 k597:Av M 597 Aad=true
 m0:CK M 422 0 596
 m1:CK M 422 1 597
 m2:CK M 422 2 595
def stP (va:V):V:=.st 4 (.fcons 0 (.map 3) (.fcons 1 (.ptr 4 []) (.fcons 2 (.map 5) (.fcons 3 va .fnil))))
def Dx (lv:V) (pre:Pr):V:=.st 67 (.fcons 0 (.ptr 1 []) (.fcons 1 (.ptr 2 []) (.fcons 2 lv (.fcons 3 (A9 pre) .fnil))))
def Qt:=(CC @AP.eq_1 @Dx.eq_1 @stP.eq_1)
def AY (f:Nat→BitVec 64) (a:BitVec 64):Pf:=⟨f a.toNat,pth f a.toNat⟩
theorem ZC (f:Nat→BitVec 64) (i:Nat):(pth f i).length=13:=by simp [pth]
theorem Ac4 (f:Nat→BitVec 64) (i h:Nat) (hh:h < 13):(pth f i).getD h Dg.zero=BP f h ((i / 2 ^ h) ^^^ 1):=by
 simp [pth,List.getD,hh]
theorem Uo {α:Type} (g:α→V) (d:α) (l:List (Dg × α)) (t id n:Nat) (H:Hp):Xf (Bd g d l) t id n H=⟨Ac H id=true,.ifc t (.map n),(n,Bd g d l) :: H⟩:=rfl
theorem Ae5 (c:Bool) (i:Nat):AI c (.nils 1) (.map i) .nilm=True:=by simp [AI]
theorem Afc (i:Nat):AL (.nils 1) (.map i) .nilm=false:=rfl
theorem EM {H:Hp} {m z:List Nat} {id:Nat} (f:Nat→BitVec 64) (a:BitVec 64) (h1:MG H z id=true) (h2:hget H id = .ar 32 13 fun h=>dg (BP f h (a.toNat / 2 ^ h ^^^ 1))):Ar H m z (pfV (AY f a)) (.st 2 (.fcons 0 (W (f a.toNat)) (.fcons 1 (.sl id [] 0 13 32) .fnil))):=by
 simp only [pfV,AY,ZC,Ar,W,Gw]
 refine ⟨h1,trivial,?_⟩
 rw [h2]
 simp only [V.get]
 refine ⟨trivial,by omega,fun i hi=>?_⟩
 have:IS (pth f a.toNat) i=dg (BP f i (a.toNat / 2 ^ i ^^^ 1)):=by rw [IS,Ac4 f _ _ hi]
 rw [this,Nat.zero_add]
 exact (AW _ _ _ _ _).mpr rfl
theorem FX (ok:OkPr M) (l:List (Dg × Pr)) :
 Af M 276 [.map 0] [(0,Bd A9 Pr.zero l)] 1 (Q3 (.map 1) [(0,Bd A9 Pr.zero l),(1,Bd A9 Pr.zero l)] 2):=by
 refine Ab ok.k276 rfl fun x hx=>?_
 refine es 2000 ?_;(simp only [Afl,Ai8,Ae5,Afc,Uo,LZ,seval])
 have zz:=@Ce;exact Bz hx [0,81] ⟨rfl,rfl,rfl⟩
theorem QR (okA:OkM M) (ok:OkPr M) (f g:Nat→BitVec 64) (pc:BitVec 64) (hl:Bool) (xt:BitVec 64) (pre:Pr) (pres:List (Dg × Pr)) (q:Nat) (a:BitVec 64) (ha:¬ 8192#64≤a) :
 Af M 596 [.ptr 0 [],W a] [(0,Dx .nils pre),(1,mach f g pc hl xt),(2,stP (.nils)),(3,Bd A9 Pr.zero pres)] 6
  (Q3 (Ah (W (f a.toNat)) .nili) [(0,Dx (.sl 6 [] 0 1 2) pre),(1,mach f g pc hl xt),(2,stP (.nils)),(3,Bd A9 Pr.zero pres),(6,.ar 2 1 (Dp [AY f a]))] 7):=by
 refine Ab ok.k596 rfl fun x hx=>?_
 refine es 2000 ?_;(simp only [RZ,QS,Dx,LZ,seval])
 have zz:=Bc @W.eq_1 @mach.eq_1;refine Ia (Dz okA f g pc hl xt a.toNat (pfl a ha)) ?_
 (simp only [BV,seval])
 refine Ap.mk hx [0,1,2,3,4,5,502] [118] (Ah (W (f a.toNat)) .nili) [(0,Dx (.sl 6 [] 0 1 2) pre),(1,mach f g pc hl xt),(2,stP (.nils)),(3,Bd A9 Pr.zero pres),(6,.ar 2 1 (Dp [AY f a]))] 7 Aj (by (simp only [DS,seval])) (by (simp only [Oh,seval])) ?_ ⟨rfl,rfl,rfl⟩
 simp only [Dx,stP,Cm,seval,Gw]
 intro i hi
 obtain rfl:i=0:=Aa
 exact EM f a BF rfl
theorem Md (okA:OkM M) (ok:OkPr M) (f g:Nat→BitVec 64) (pc:BitVec 64) (hl:Bool) (xt:BitVec 64) (pre:Pr) (pres:List (Dg × Pr)) (q:Nat) (l:List Pf) (hL:l.length≤100) (a:BitVec 64) (ha:¬ 8192#64≤a) :
 Af M 596 [.ptr 0 [],W a] [(0,Dx (.sl 6 [] 0 l.length 2) pre),(1,mach f g pc hl xt),(2,stP (.nils)),(3,Bd A9 Pr.zero pres),(6,.ar 2 l.length (Dp l))] 7
  (Q3 (Ah (W (f a.toNat)) .nili) [(0,Dx (.sl 7 [] 0 (l ++ [AY f a]).length 2) pre),(1,mach f g pc hl xt),(2,stP (.nils)),(3,Bd A9 Pr.zero pres),(7,.ar 2 (l ++ [AY f a]).length (Dp (l ++ [AY f a])))] (7 + 1)):=by
 refine Ab ok.k596 rfl fun x hx=>?_
 refine es 2000 ?_;(simp only [RZ,QS,Dx,LZ,seval])
 have zz:=CC @W.eq_1 @mach.eq_1 @AU;refine Ia (Dz okA f g pc hl xt a.toNat (pfl a ha)) ?_
 (simp only [BV,seval])
 repeat refine sd ?_
 refine Ap.mk hx [0,1,2,3,4,5,6,503] [119] (Ah (W (f a.toNat)) .nili) [(0,Dx (.sl 7 [] 0 (l ++ [AY f a]).length 2) pre),(1,mach f g pc hl xt),(2,stP (.nils)),(3,Bd A9 Pr.zero pres),(7,.ar 2 (l ++ [AY f a]).length (Dp (l ++ [AY f a])))] 8 Aj (by (simp only [DS,seval])) (by (simp only [Oh,seval])) ?_ ⟨rfl,rfl,rfl⟩
 have e0:(l ++ [AY f a]).length=l.length + 1:=B1
 simp only [e0,Dx,stP,Cm,seval,Gw]
 intro i hi
 by_cases h:i < l.length
 ·rw [if_pos h]
  have:Dp (l ++ [AY f a]) i=Dp l i:=by simp only [Dp,List.getD_eq_getElem?_getD,List.getElem?_append_left h]
  rw [this];exact (AU _ _ _ _ _).mpr trivial
 ·obtain rfl:i=l.length:=Aa
  have:Dp (l ++ [AY f a]) l.length=pfV (AY f a):=by simp only [Dp,List.getD_eq_getElem?_getD,List.getElem?_append_right (Nat.le_refl _),Nat.sub_self];rfl
  rw [if_neg h,Nat.sub_self,if_pos rfl,this]
  exact EM f a BF rfl
theorem UQ (okA:OkM M) (ok:OkPr M) (f g:Nat→BitVec 64) (pc:BitVec 64) (hl:Bool) (xt:BitVec 64) (pre:Pr) (pres:List (Dg × Pr)) (q:Nat) (l:List Pf) (hL:l.length≤100) (a v:BitVec 64) (ha:¬ 8192#64≤a) :
 Af M 597 [.ptr 0 [],W a,W v] [(0,Dx (.sl 6 [] 0 l.length 2) pre),(1,mach f g pc hl xt),(2,stP (.nils)),(3,Bd A9 Pr.zero pres),(6,.ar 2 l.length (Dp l))] 7
  (Q3 .nili [(0,Dx (.sl 7 [] 0 (l ++ [AY f a]).length 2) pre),(1,mach (Ig f a.toNat v) g pc hl xt),(2,stP (.nils)),(3,Bd A9 Pr.zero pres),(7,.ar 2 (l ++ [AY f a]).length (Dp (l ++ [AY f a])))] (7 + 1)):=by
 refine Ab ok.k597 rfl fun x hx=>?_
 have ha':=pfl a ha
 have hR:=Md okA ok f g pc hl xt pre pres q l hL a ha
 generalize l ++ [AY f a]=l' at *
 refine es 2000 ?_;(simp only [Aad,Abk,LZ,seval])
 have zz:=F5 @Dx.eq_1 @stP.eq_1 @mach.eq_1 To;refine Df [0,1,2,3,4,5,6] [0,1,2,3,6] (hR) ?_
 (simp only [Ld,Dx,stP,mach,seval])
 repeat refine sd ?_
 have zz:=Bc Q5 To;exact Bz hx [0,1,2,3,4,5,6,55] ⟨rfl,rfl,rfl⟩
theorem RR (okA:OkM M) (ok:OkPr M) (f g:Nat→BitVec 64) (pc:BitVec 64) (hl:Bool) (xt:BitVec 64) (pre:Pr) (pres:List (Dg × Pr)) (q:Nat) (a:BitVec 64) (ha:¬ 8192#64≤a) :
 Af M 596 [.ptr 0 [],W a] [(0,Dx .nils pre),(1,mach f g pc hl xt),(2,stP (.sl 6 [] 0 q 32)),(3,Bd A9 Pr.zero pres)] 7
  (Q3 (Ah (W (f a.toNat)) .nili) [(0,Dx (.sl 7 [] 0 1 2) pre),(1,mach f g pc hl xt),(2,stP (.sl 6 [] 0 q 32)),(3,Bd A9 Pr.zero pres),(7,.ar 2 1 (Dp [AY f a]))] 8):=by
 refine Ab ok.k596 rfl fun x hx=>?_
 refine es 2000 ?_;(simp only [RZ,QS,Dx,LZ,seval])
 have zz:=Bc @W.eq_1 @mach.eq_1;refine Ia (Dz okA f g pc hl xt a.toNat (pfl a ha)) ?_
 (simp only [BV,seval])
 refine Ap.mk hx [0,1,2,3,4,5,6,503] [119] (Ah (W (f a.toNat)) .nili) [(0,Dx (.sl 7 [] 0 1 2) pre),(1,mach f g pc hl xt),(2,stP (.sl 6 [] 0 q 32)),(3,Bd A9 Pr.zero pres),(7,.ar 2 1 (Dp [AY f a]))] 8 Aj (by (simp only [DS,seval])) (by (simp only [Oh,seval])) ?_ ⟨rfl,rfl,rfl⟩
 simp only [Dx,stP,Cm,seval,Gw]
 intro i hi
 obtain rfl:i=0:=Aa
 exact EM f a BF rfl
theorem MF (okA:OkM M) (ok:OkPr M) (f g:Nat→BitVec 64) (pc:BitVec 64) (hl:Bool) (xt:BitVec 64) (pre:Pr) (pres:List (Dg × Pr)) (q:Nat) (l:List Pf) (hL:l.length≤100) (a:BitVec 64) (ha:¬ 8192#64≤a) :
 Af M 596 [.ptr 0 [],W a] [(0,Dx (.sl 7 [] 0 l.length 2) pre),(1,mach f g pc hl xt),(2,stP (.sl 6 [] 0 q 32)),(3,Bd A9 Pr.zero pres),(7,.ar 2 l.length (Dp l))] 8
  (Q3 (Ah (W (f a.toNat)) .nili) [(0,Dx (.sl 8 [] 0 (l ++ [AY f a]).length 2) pre),(1,mach f g pc hl xt),(2,stP (.sl 6 [] 0 q 32)),(3,Bd A9 Pr.zero pres),(8,.ar 2 (l ++ [AY f a]).length (Dp (l ++ [AY f a])))] (8 + 1)):=by
 refine Ab ok.k596 rfl fun x hx=>?_
 refine es 2000 ?_;(simp only [RZ,QS,Dx,LZ,seval])
 have zz:=CC @W.eq_1 @mach.eq_1 @AU;refine Ia (Dz okA f g pc hl xt a.toNat (pfl a ha)) ?_
 (simp only [BV,seval])
 repeat refine sd ?_
 refine Ap.mk hx [0,1,2,3,4,5,6,7,504] [120] (Ah (W (f a.toNat)) .nili) [(0,Dx (.sl 8 [] 0 (l ++ [AY f a]).length 2) pre),(1,mach f g pc hl xt),(2,stP (.sl 6 [] 0 q 32)),(3,Bd A9 Pr.zero pres),(8,.ar 2 (l ++ [AY f a]).length (Dp (l ++ [AY f a])))] 9 Aj (by (simp only [DS,seval])) (by (simp only [Oh,seval])) ?_ ⟨rfl,rfl,rfl⟩
 have e0:(l ++ [AY f a]).length=l.length + 1:=B1
 simp only [e0,Dx,stP,Cm,seval,Gw]
 intro i hi
 by_cases h:i < l.length
 ·rw [if_pos h]
  have:Dp (l ++ [AY f a]) i=Dp l i:=by simp only [Dp,List.getD_eq_getElem?_getD,List.getElem?_append_left h]
  rw [this];exact (AU _ _ _ _ _).mpr trivial
 ·obtain rfl:i=l.length:=Aa
  have:Dp (l ++ [AY f a]) l.length=pfV (AY f a):=by simp only [Dp,List.getD_eq_getElem?_getD,List.getElem?_append_right (Nat.le_refl _),Nat.sub_self];rfl
  rw [if_neg h,Nat.sub_self,if_pos rfl,this]
  exact EM f a BF rfl
theorem TK (okA:OkM M) (ok:OkPr M) (f g:Nat→BitVec 64) (pc:BitVec 64) (hl:Bool) (xt:BitVec 64) (pre:Pr) (pres:List (Dg × Pr)) (q:Nat) (l:List Pf) (hL:l.length≤100) (a v:BitVec 64) (ha:¬ 8192#64≤a) :
 Af M 597 [.ptr 0 [],W a,W v] [(0,Dx (.sl 7 [] 0 l.length 2) pre),(1,mach f g pc hl xt),(2,stP (.sl 6 [] 0 q 32)),(3,Bd A9 Pr.zero pres),(7,.ar 2 l.length (Dp l))] 8
  (Q3 .nili [(0,Dx (.sl 8 [] 0 (l ++ [AY f a]).length 2) pre),(1,mach (Ig f a.toNat v) g pc hl xt),(2,stP (.sl 6 [] 0 q 32)),(3,Bd A9 Pr.zero pres),(8,.ar 2 (l ++ [AY f a]).length (Dp (l ++ [AY f a])))] (8 + 1)):=by
 refine Ab ok.k597 rfl fun x hx=>?_
 have ha':=pfl a ha
 have hR:=MF okA ok f g pc hl xt pre pres q l hL a ha
 generalize l ++ [AY f a]=l' at *
 refine es 2000 ?_;(simp only [Aad,Abk,LZ,seval])
 have zz:=F5 @Dx.eq_1 @stP.eq_1 @mach.eq_1 To;refine Df [0,1,2,3,4,5,6,7] [0,1,2,3,7] (hR) ?_
 (simp only [Ld,Dx,stP,mach,seval])
 repeat refine sd ?_
 have zz:=Bc Q5 To;exact Bz hx [0,1,2,3,4,5,6,7,56] ⟨rfl,rfl,rfl⟩
theorem D7 (ok:OkPr M) (q:Nat) (pres:List (Dg × Pr)) :
 Af M 167 [.ptr 0 []] [(0,.st 4 (.fcons 0 (.map 1) (.fcons 1 (.ptr 2 []) (.fcons 2 (.map 3) (.fcons 3 (.nils) .fnil))))),(1,Bd A9 Pr.zero pres)] 4
  (Q3 (.ptr 4 []) [(0,.st 4 (.fcons 0 (.map 1) (.fcons 1 (.ptr 2 []) (.fcons 2 (.map 3) (.fcons 3 (.nils) .fnil))))),(1,Bd A9 Pr.zero pres),(4,.st 4 (.fcons 0 (.map 5) (.fcons 1 (.ptr 2 []) (.fcons 2 (.map 6) (.fcons 3 .nils .fnil))))),(5,Bd A9 Pr.zero pres),(6,BD [])] 7):=by
 refine Ab ok.k167 rfl fun x hx=>?_
 refine es 2000 ?_;(simp only [Aa5,Ac0,LZ,seval])
 have zz:=@Ce;refine QN [1] (FX ok pres) ?_
 (simp only [BA,seval])
 have zz:=Bc @BD.eq_1 @Ce;exact Bz hx [0,1,2,3,228,324,196] ⟨rfl,rfl,rfl⟩
theorem Lg (ok:OkPr M) (q:Nat) (pres:List (Dg × Pr)) :
 Af M 167 [.ptr 0 []] [(0,.st 4 (.fcons 0 (.map 1) (.fcons 1 (.ptr 2 []) (.fcons 2 (.map 3) (.fcons 3 (.sl 4 [] 0 q 32) .fnil))))),(1,Bd A9 Pr.zero pres)] 5
  (Q3 (.ptr 5 []) [(0,.st 4 (.fcons 0 (.map 1) (.fcons 1 (.ptr 2 []) (.fcons 2 (.map 3) (.fcons 3 (.sl 4 [] 0 q 32) .fnil))))),(1,Bd A9 Pr.zero pres),(5,.st 4 (.fcons 0 (.map 6) (.fcons 1 (.ptr 2 []) (.fcons 2 (.map 7) (.fcons 3 .nils .fnil))))),(6,Bd A9 Pr.zero pres),(7,BD [])] 8):=by
 refine Ab ok.k167 rfl fun x hx=>?_
 refine es 2000 ?_;(simp only [Aa5,Ac0,LZ,seval])
 have zz:=@Ce;refine QN [1] (FX ok pres) ?_
 (simp only [BA,seval])
 have zz:=Bc @BD.eq_1 @Ce;exact Bz hx [0,1,2,3,4,229,325,197] ⟨rfl,rfl,rfl⟩
theorem Ix (ok:OkO M) (pres:List (Dg × Pr)) (h:Dg) :
 Af M 328 [.ptr 0 [],dg h] [(0,.st 4 (.fcons 0 (.map 1) (.fcons 1 (.ptr 2 []) (.fcons 2 (.map 3) (.fcons 3 .nils .fnil))))),(1,Bd A9 Pr.zero pres),(3,BD [])] 4
  (Q3 (Dh (Dt h pres)) [(1,Bd A9 Pr.zero pres)] 4):=by
 have hsv:∀ l:List (Dg × Bool),Bd V.bool false l=BD l:=fun _=>rfl
 have hn:Dt h ([]:List (Dg × Bool))=none:=rfl
 refine Ab ok.k328 rfl fun x hx=>?_
 generalize ho:Dt h pres=o at *
 cases o
 all_goals refine es 2000 ?_;(simp only [TI,TX,BD,ho,hn,BA,seval])
 all_goals refine Ap.mk hx [0,1,2,3] [] (Dh _) [(1,Bd A9 Pr.zero pres)] 4 Aj (by simp only [SB,Dq,V8,seval]) (by simp only [SB,Dh,Dq,V8,seval];simp only [Vw,Cm,seval];try exact fun _ _=>rfl) ?_ ⟨rfl,rfl,rfl⟩
 all_goals simp only [Cm,seval]
def Ry (o:Option Pr):V:=match o with
 | some p=>Ah (A9 p) .nili
 | none=>Ah (A9 Pr.zero) (.ifc 74 (.int .i64 14))
def Q0 (o:Option Pr):Pr:=match o with
 | some p=>p
 | none=>Pr.zero
theorem UD (ok:OkPr M) (okO:OkO M) (f g:Nat→BitVec 64) (pc:BitVec 64) (hl:Bool) (xt:BitVec 64) (pre:Pr) (pres:List (Dg × Pr)) (q:Nat) (l:List Pf) (h:Dg) :
 Af M 595 [.ptr 0 [],dg h] [(0,Dx (.sl 6 [] 0 l.length 2) pre),(1,mach f g pc hl xt),(2,stP (.nils)),(3,Bd A9 Pr.zero pres),(6,.ar 2 l.length (Dp l))] 7
  (Q3 (Ry (Dt h pres)) [(0,Dx (.sl 6 [] 0 l.length 2) (Q0 (Dt h pres))),(1,mach f g pc hl xt),(2,stP (.nils)),(3,Bd A9 Pr.zero pres),(6,.ar 2 l.length (Dp l))] 7):=by
 refine Ab ok.k595 rfl fun x hx=>?_
 have hC:=D7 ok q pres
 have hG:=Ix okO pres h
 refine es 2000 ?_;(simp only [Abi,Zu,Dx,LZ,seval])
 have zz:=Bc @stP.eq_1 @Ce;refine Qw [2,3,4,5] [2,3] (hC) ?_
 (simp only [stP,Am,BA,seval])
 cases ho:Dt h pres with
 | none =>
   rw [ho] at hG
   simp only [Dh] at hG
   have zz:=Bc @Ay @Ce;refine Qw [327,328,4,329] [327,328,329] (hG) ?_
   (simp only [Dq,N3,seval])
   have zz:=aq9 @Ry.eq_1 @Ry.eq_2 @Q0.eq_1 @Q0.eq_2 @Fk To @stP.eq_1 Vw @LM;exact Bz hx [0,1,2,3,4,5,6] ⟨rfl,rfl,rfl⟩
 | some p =>
   rw [ho] at hG
   simp only [Dh] at hG
   have zz:=Bc @Ay @Ce;refine Qw [327,328,4,329] [327,328,329] (hG) ?_
   (simp only [Dq,N3,seval])
   have zz:=Vy @Ry.eq_1 @Ry.eq_2 @Q0.eq_1 @Q0.eq_2 @Fk To @stP.eq_1 @LM;exact Bz hx [0,1,2,3,4,5,6] ⟨rfl,rfl,rfl⟩
theorem UK (ok:OkPr M) (okO:OkO M) (f g:Nat→BitVec 64) (pc:BitVec 64) (hl:Bool) (xt:BitVec 64) (pre:Pr) (pres:List (Dg × Pr)) (q:Nat) (l:List Pf) (h:Dg) :
 Af M 595 [.ptr 0 [],dg h] [(0,Dx (.sl 7 [] 0 l.length 2) pre),(1,mach f g pc hl xt),(2,stP (.sl 6 [] 0 q 32)),(3,Bd A9 Pr.zero pres),(7,.ar 2 l.length (Dp l))] 8
  (Q3 (Ry (Dt h pres)) [(0,Dx (.sl 7 [] 0 l.length 2) (Q0 (Dt h pres))),(1,mach f g pc hl xt),(2,stP (.sl 6 [] 0 q 32)),(3,Bd A9 Pr.zero pres),(7,.ar 2 l.length (Dp l))] 8):=by
 refine Ab ok.k595 rfl fun x hx=>?_
 have hC:=Lg ok q pres
 have hG:=Ix okO pres h
 refine es 2000 ?_;(simp only [Abi,Zu,Dx,LZ,seval])
 have zz:=Bc @stP.eq_1 @Ce;refine Qw [2,3,4,5,6] [2,3] (hC) ?_
 (simp only [stP,Am,BA,seval])
 cases ho:Dt h pres with
 | none =>
   rw [ho] at hG
   simp only [Dh] at hG
   have zz:=Bc @Ay @Ce;refine Qw [328,329,4,330] [328,329,330] (hG) ?_
   (simp only [Dq,N3,seval])
   have zz:=aq9 @Ry.eq_1 @Ry.eq_2 @Q0.eq_1 @Q0.eq_2 @Fk To @stP.eq_1 Vw @LM;exact Bz hx [0,1,2,3,4,5,6,7] ⟨rfl,rfl,rfl⟩
 | some p =>
   rw [ho] at hG
   simp only [Dh] at hG
   have zz:=Bc @Ay @Ce;refine Qw [328,329,4,330] [328,329,330] (hG) ?_
   (simp only [Dq,N3,seval])
   have zz:=Vy @Ry.eq_1 @Ry.eq_2 @Q0.eq_1 @Q0.eq_2 @Fk To @stP.eq_1 @LM;exact Bz hx [0,1,2,3,4,5,6,7] ⟨rfl,rfl,rfl⟩
structure Ps where
 f:Nat→BitVec 64
 l:List Pf
 pre:Pr
def prR (s:Ps) (a:BitVec 64):BitVec 64 × Option Int × Ps:=(s.f a.toNat,none,⟨s.f,s.l ++ [AY s.f a],s.pre⟩)
def prW (s:Ps) (a v:BitVec 64):Option Int × Ps:=(none,⟨Ig s.f a.toNat v,s.l ++ [AY s.f a],s.pre⟩)
def Ql (pres:List (Dg × Pr)) (s:Ps) (h:Dg):Pr × Option Int × Ps:=match Dt h pres with
 | some p=>(p,none,⟨s.f,s.l,p⟩)
 | none=>(Pr.zero,some 14,⟨s.f,s.l,Pr.zero⟩)
def Hk (pres:List (Dg × Pr)):Mm Ps:=⟨prR,prW,Ql pres⟩
theorem Zz.no {b n i:Nat} {own:Hp} (ho:Zz b n own) (h:i < 17 ∨ i=b ∨ n≤i):Ac own i=false:=by
 cases hh:Ac own i with
 | false=>rfl
 | true=>have:=ho i hh;omega
def KZ (g:Nat→BitVec 64) (pc:BitVec 64) (hl:Bool) (xt:BitVec 64) (pres:List (Dg × Pr)) (q:Nat) (s:Ps) (b:Nat):Hp :=
 [(0,Dx (.sl b [] 0 s.l.length 2) s.pre),(1,mach s.f g pc hl xt),(2,stP (.nils)),(3,Bd A9 Pr.zero pres),(b,.ar 2 s.l.length (Dp s.l))]
def Zj (g:Nat→BitVec 64) (pc:BitVec 64) (hl:Bool) (xt:BitVec 64) (pres:List (Dg × Pr)) (q:Nat) (s:Ps):Hp :=
 [(0,Dx .nils s.pre),(1,mach s.f g pc hl xt),(2,stP (.nils)),(3,Bd A9 Pr.zero pres)]
theorem MZ (g:Nat→BitVec 64) (pc:BitVec 64) (hl:Bool) (xt:BitVec 64) (pres:List (Dg × Pr)) (q:Nat) (s:Ps) (b b':Nat) (H:Hp) (m z:List Nat) (hm:∀ i,i < 6→m[i]?=some i) (hb:m[b']?=some b)
 (hH:∀ i,Ac (KZ g pc hl xt pres q s b) i=true→Ac H i=true∧hget H i=hget (KZ g pc hl xt pres q s b) i) (hk:6≤b):Bq H m z (KZ g pc hl xt pres q s b'):=by
 have n0:¬ 0=b:=Aa
 have n1:¬ 1=b:=Aa
 have n2:¬ 2=b:=Aa
 have n3:¬ 3=b:=Aa
 have h0:=hH 0 rfl
 have h1:=hH 1 rfl
 have h2:=hH 2 rfl
 have h3:=hH 3 rfl
 have h4:=hH b (by simp [KZ,Ac])
 have g4:hget (KZ g pc hl xt pres q s b) b = .ar 2 s.l.length (Dp s.l):=by simp only [KZ,hget,n0,n1,n2,n3,C2]
 rw [g4] at h4
 simp only [KZ,hget,if_true,seval] at h0 h1 h2 h3
 simp only [KZ,Bq,hm 0 Aa,hm 1 Aa,hm 2 Aa,hm 3 Aa,hb,h0,h1,h2,h3,h4,Gw]
 refine ⟨?_,AA ..,?_,?_,?_⟩
 ·simp only [Dx,Ar,hm 1 Aa,hm 2 Aa,hb,Gw,C3]
 ·simp only [stP,Ar,hm 3 Aa,hm 4 Aa,hm 5 Aa,Gw]
  try exact hm 6 Aa
 ·exact Gm H m z A9 (fun x=>(C3 H m z x x).mpr rfl) Pr.zero pres
 ·simp only [Ar,true_and]
  exact fun i _=>(AU H m z s.l i).mpr trivial
theorem SQ (g:Nat→BitVec 64) (pc:BitVec 64) (hl:Bool) (xt:BitVec 64) (pres:List (Dg × Pr)) (q:Nat) (s:Ps) (H:Hp) (m z:List Nat) (hm:∀ i,i < 6→m[i]?=some i)
 (hH:∀ i,Ac (Zj g pc hl xt pres q s) i=true→Ac H i=true∧hget H i=hget (Zj g pc hl xt pres q s) i):Bq H m z (Zj g pc hl xt pres q s):=by
 have h0:=hH 0 rfl
 have h1:=hH 1 rfl
 have h2:=hH 2 rfl
 have h3:=hH 3 rfl
 simp only [Zj,hget,if_true,seval] at h0 h1 h2 h3
 simp only [Zj,Bq,hm 0 Aa,hm 1 Aa,hm 2 Aa,hm 3 Aa,h0,h1,h2,h3,Gw]
 refine ⟨?_,AA ..,?_,?_⟩
 ·simp only [Dx,Ar,hm 1 Aa,hm 2 Aa,Gw,C3]
 ·simp only [stP,Ar,hm 3 Aa,hm 4 Aa,hm 5 Aa,Gw]
  try exact hm 6 Aa
 ·exact Gm H m z A9 (fun x=>(C3 H m z x x).mpr rfl) Pr.zero pres
theorem E3 (g:Nat→BitVec 64) (pc:BitVec 64) (hl:Bool) (xt:BitVec 64) (pres:List (Dg × Pr)) (q:Nat) (s:Ps) (b i:Nat) (h:Ac (KZ g pc hl xt pres q s b) i=true):i < 4 ∨ i=b:=by
 simp only [KZ,Og,beq_iff_eq,Bool.or_false] at h;omega
theorem Nc (g:Nat→BitVec 64) (pc:BitVec 64) (hl:Bool) (xt:BitVec 64) (pres:List (Dg × Pr)) (q:Nat) (s:Ps) (i:Nat) (h:Ac (Zj g pc hl xt pres q s) i=true):i < 4:=by
 simp only [Zj,Og,beq_iff_eq,Bool.or_false] at h;omega
theorem PM (g:Nat→BitVec 64) (pc:BitVec 64) (hl:Bool) (xt:BitVec 64) (pres:List (Dg × Pr)) (q:Nat) (s:Ps) (b:Nat) (hb:6≤b):A5 (KZ g pc hl xt pres q s b) [0,1,2,3,b]=[]:=by
 have n0:¬ b=0:=Aa
 have n1:¬ b=1:=Aa
 have n2:¬ b=2:=Aa
 have n3:¬ b=3:=Aa
 have n0':¬ 0=b:=Aa
 have n1':¬ 1=b:=Aa
 have n2':¬ 2=b:=Aa
 have n3':¬ 3=b:=Aa
 simp only [A5,KZ,BJ,n0,n1,n2,n3,n0',n1',n2',n3',C2,seval]
theorem XJ {b:Nat} (hb:6≤b):([0,1,2,3,4,5,b]:List Nat).Nodup:=by
 rw [show ([0,1,2,3,4,5,b]:List Nat)=[0,1,2,3,4,5] ++ [b] from rfl,List.nodup_append]
 refine ⟨by decide,by simp,fun a ha c hc=>?_⟩
 simp only [Oj] at ha hc
 omega
def Afv {M:Seat} (okA:OkM M) (okO:OkO M) (ok:OkPr M) (g:Nat→BitVec 64) (pc:BitVec 64) (hl:Bool) (xt:BitVec 64) (pres:List (Dg × Pr)) (q:Nat):MemI M where
 σ:=Ps
 t:=422
 ht:=.inl rfl
 k0:=6
 kk:=7
 hk:=Aa
 E s b:=KZ g pc hl xt pres q s b
 E0 s:=Zj g pc hl xt pres q s
 mm:=Hk pres
 Z s:=s.l=[]
 len s:=s.l.length
 lr s a:=by simp [Hk,prR]
 lw s a v:=by simp [Hk,prW]
 lp s h:=Aez
 lz s h:=by simp [h]
 hids s b i h:=by rcases E3 g pc hl xt pres q s b i h with h | h <;> omega
 hids0 s i h:=by have:=Nc g pc hl xt pres q s i h;omega
 sim0 s H m z hm hH:=SQ g pc hl xt pres q s H m z hm hH
 simE s b b' H m z hk hm hb hH:=MZ g pc hl xt pres q s b b' H m z hm hb hH hk
 c0 {f us us' v s s'} own {n K} hr hus hv ho hK:=by
  refine Dm (E':=KZ g pc hl xt pres q s' n) [0,1,2,3,4,5] [0,1,2,3] hr ?_ B1 Aj ⟨rfl,by omega⟩ (fun i hi=>?_) ?_ (hus _ _ _ rfl) (SQ g pc hl xt pres q s _ _ _ (fun i hi=>?_) (Dd fun i hi=>ho.no (by have:=Nc g pc hl xt pres q s i hi;omega))) rfl rfl hv (fun i hi=>?_) hK
  ·intro id i h1 h2
   have h:=Nc g pc hl xt pres q s id h1
   have:id=0 ∨ id=1 ∨ id=2 ∨ id=3:=Aa
   rcases this with rfl | rfl | rfl | rfl <;> (obtain rfl:=Option.some.inj h2;simp)
  ·simp only [Oj] at hi
   rcases hi with rfl | rfl | rfl | rfl <;> exact ⟨rfl,ho.no Aa⟩
  ·exact fun i hi=>by
    have h:([0,1,2,3,4,5]:List Nat).all (fun i=>Ac (Zj g pc hl xt pres q s) i || Gu [0,1,2,3] (Zj g pc hl xt pres q s) i)=true:=BF
    have:=List.all_eq_true.1 h i hi
    simpa using this
  ·have:i=0 ∨ i=1 ∨ i=2 ∨ i=3 ∨ i=4 ∨ i=5 ∨ (i=6∧6=7):=Aa
   rcases this with rfl | rfl | rfl | rfl | rfl | rfl | ⟨rfl,h⟩ <;> first | rfl | omega
  ·rcases E3 g pc hl xt pres q s' n i hi with h | h <;> exact ho.no Aa
 ck {f us us' v s s' b} own {n K} hr hus hv hb ho hK:=by
  have hids:∀ i,i ∈ ([0,1,2,3,b]:List Nat)→Ac (KZ g pc hl xt pres q s b) i=true∧Ac own i=false:=fun i hi=>by
   simp only [Oj] at hi
   rcases hi with rfl | rfl | rfl | rfl | rfl
   ·exact ⟨rfl,ho.no Aa⟩
   ·exact ⟨rfl,ho.no Aa⟩
   ·exact ⟨rfl,ho.no Aa⟩
   ·exact ⟨rfl,ho.no Aa⟩
   ·exact ⟨by simp [KZ,Ac],ho.no Aa⟩
  refine Dm (E':=KZ g pc hl xt pres q s' n) [0,1,2,3,4,5,b] [0,1,2,3,b] hr ?_ B1 (XJ hb) ⟨rfl,by omega⟩ hids ?_ (hus _ _ _ rfl) (MZ g pc hl xt pres q s b 6 _ _ _ (fun i hi=>?_) rfl (Dd fun i hi=>ho.no (by have:=E3 g pc hl xt pres q s b i hi;omega)) hb) rfl (PM g pc hl xt pres q s b hb) hv (fun i hi=>?_) hK
  ·intro id i h1 h2
   have h:=E3 g pc hl xt pres q s 6 id h1
   have:id=0 ∨ id=1 ∨ id=2 ∨ id=3 ∨ id=6:=Aa
   rcases this with rfl | rfl | rfl | rfl | rfl <;> (obtain rfl:=Option.some.inj h2;simp)
  ·intro i hi
   by_cases h5:i ∈ ([0,1,2,3,b]:List Nat)
   ·exact .inl (hids i h5).1
   ·right
    have hj:i=4 ∨ i=5 ∨ (i=6∧6=7):=by
     simp only [Oj] at hi h5
     omega
    refine List.any_eq_true.2 ⟨2,by simp,?_⟩
    rcases hj with rfl | rfl | ⟨rfl,h⟩ <;> first | rfl | omega
  ·have:i=0 ∨ i=1 ∨ i=2 ∨ i=3 ∨ i=4 ∨ i=5 ∨ (i=6∧6=7):=Aa
   rcases this with rfl | rfl | rfl | rfl | rfl | rfl | ⟨rfl,h⟩ <;> first | rfl | omega
  ·rcases E3 g pc hl xt pres q s' n i hi with h | h <;> exact ho.no Aa
 cu {f us us' v s s' b} own {n K} hr hus hv hb ho hK:=by
  have hids:∀ i,i ∈ ([0,1,2,3,b]:List Nat)→Ac (KZ g pc hl xt pres q s b) i=true∧Ac own i=false:=fun i hi=>by
   simp only [Oj] at hi
   rcases hi with rfl | rfl | rfl | rfl | rfl
   ·exact ⟨rfl,ho.no Aa⟩
   ·exact ⟨rfl,ho.no Aa⟩
   ·exact ⟨rfl,ho.no Aa⟩
   ·exact ⟨rfl,ho.no Aa⟩
   ·exact ⟨by simp [KZ,Ac],ho.no Aa⟩
  refine Dm (E':=KZ g pc hl xt pres q s' b) [0,1,2,3,4,5,b] [0,1,2,3,b] hr ?_ B1 (XJ hb) ⟨rfl,by omega⟩ hids ?_ (hus _ _ _ rfl) (MZ g pc hl xt pres q s b 6 _ _ _ (fun i hi=>?_) rfl (Dd fun i hi=>ho.no (by have:=E3 g pc hl xt pres q s b i hi;omega)) hb) rfl (PM g pc hl xt pres q s b hb) hv (fun i hi=>?_) hK
  ·intro id i h1 h2
   have h:=E3 g pc hl xt pres q s 6 id h1
   have:id=0 ∨ id=1 ∨ id=2 ∨ id=3 ∨ id=6:=Aa
   rcases this with rfl | rfl | rfl | rfl | rfl <;> (obtain rfl:=Option.some.inj h2;simp)
  ·intro i hi
   by_cases h5:i ∈ ([0,1,2,3,b]:List Nat)
   ·exact .inl (hids i h5).1
   ·right
    have hj:i=4 ∨ i=5 ∨ (i=6∧6=7):=by
     simp only [Oj] at hi h5
     omega
    refine List.any_eq_true.2 ⟨2,by simp,?_⟩
    rcases hj with rfl | rfl | ⟨rfl,h⟩ <;> first | rfl | omega
  ·have:i=0 ∨ i=1 ∨ i=2 ∨ i=3 ∨ i=4 ∨ i=5 ∨ (i=6∧6=7):=Aa
   rcases this with rfl | rfl | rfl | rfl | rfl | rfl | ⟨rfl,h⟩ <;> first | rfl | omega
  ·rcases E3 g pc hl xt pres q s' b i hi with h | h <;> exact ho.no Aa
 fr:=596
 fw:=597
 fp:=595
 mr:=ok.m0
 mw:=ok.m1
 mp:=ok.m2
 rr0 s a hz ha:=by
  obtain ⟨f,l,pre⟩:=s
  have hz:l=[]:=hz
  subst hz
  exact QR okA ok f g pc hl xt pre pres q a ha
 rr s a hL ha:=Md okA ok s.f g pc hl xt s.pre pres q s.l hL a ha
 rw s a v hL ha:=UQ okA ok s.f g pc hl xt s.pre pres q s.l hL a v ha
 rp s h:=by
  have hP:=UD ok okO s.f g pc hl xt s.pre pres q s.l h
  show Af M 595 _ _ _ (Q3 (Ah (A9 (Ql pres s h).1) (Cr (Ql pres s h).2.1)) (KZ g pc hl xt pres q (Ql pres s h).2.2 6) (7 + 1))
  refine up1 ?_
  unfold Ql
  cases hk:Dt h pres with
  | none=>rw [hk] at hP;exact hP
  | some p=>rw [hk] at hP;exact hP
def L5 (g:Nat→BitVec 64) (pc:BitVec 64) (hl:Bool) (xt:BitVec 64) (pres:List (Dg × Pr)) (q:Nat) (s:Ps) (b:Nat):Hp :=
 [(0,Dx (.sl b [] 0 s.l.length 2) s.pre),(1,mach s.f g pc hl xt),(2,stP (.sl 6 [] 0 q 32)),(3,Bd A9 Pr.zero pres),(b,.ar 2 s.l.length (Dp s.l))]
def Zd (g:Nat→BitVec 64) (pc:BitVec 64) (hl:Bool) (xt:BitVec 64) (pres:List (Dg × Pr)) (q:Nat) (s:Ps):Hp :=
 [(0,Dx .nils s.pre),(1,mach s.f g pc hl xt),(2,stP (.sl 6 [] 0 q 32)),(3,Bd A9 Pr.zero pres)]
theorem MH (g:Nat→BitVec 64) (pc:BitVec 64) (hl:Bool) (xt:BitVec 64) (pres:List (Dg × Pr)) (q:Nat) (s:Ps) (b b':Nat) (H:Hp) (m z:List Nat) (hm:∀ i,i < 7→m[i]?=some i) (hb:m[b']?=some b)
 (hH:∀ i,Ac (L5 g pc hl xt pres q s b) i=true→Ac H i=true∧hget H i=hget (L5 g pc hl xt pres q s b) i) (hk:7≤b):Bq H m z (L5 g pc hl xt pres q s b'):=by
 have n0:¬ 0=b:=Aa
 have n1:¬ 1=b:=Aa
 have n2:¬ 2=b:=Aa
 have n3:¬ 3=b:=Aa
 have h0:=hH 0 rfl
 have h1:=hH 1 rfl
 have h2:=hH 2 rfl
 have h3:=hH 3 rfl
 have h4:=hH b (by simp [L5,Ac])
 have g4:hget (L5 g pc hl xt pres q s b) b = .ar 2 s.l.length (Dp s.l):=by simp only [L5,hget,n0,n1,n2,n3,C2]
 rw [g4] at h4
 simp only [L5,hget,if_true,seval] at h0 h1 h2 h3
 simp only [L5,Bq,hm 0 Aa,hm 1 Aa,hm 2 Aa,hm 3 Aa,hb,h0,h1,h2,h3,h4,Gw]
 refine ⟨?_,AA ..,?_,?_,?_⟩
 ·simp only [Dx,Ar,hm 1 Aa,hm 2 Aa,hb,Gw,C3]
 ·simp only [stP,Ar,hm 3 Aa,hm 4 Aa,hm 5 Aa,Gw]
  try exact hm 6 Aa
 ·exact Gm H m z A9 (fun x=>(C3 H m z x x).mpr rfl) Pr.zero pres
 ·simp only [Ar,true_and]
  exact fun i _=>(AU H m z s.l i).mpr trivial
theorem Ty (g:Nat→BitVec 64) (pc:BitVec 64) (hl:Bool) (xt:BitVec 64) (pres:List (Dg × Pr)) (q:Nat) (s:Ps) (H:Hp) (m z:List Nat) (hm:∀ i,i < 7→m[i]?=some i)
 (hH:∀ i,Ac (Zd g pc hl xt pres q s) i=true→Ac H i=true∧hget H i=hget (Zd g pc hl xt pres q s) i):Bq H m z (Zd g pc hl xt pres q s):=by
 have h0:=hH 0 rfl
 have h1:=hH 1 rfl
 have h2:=hH 2 rfl
 have h3:=hH 3 rfl
 simp only [Zd,hget,if_true,seval] at h0 h1 h2 h3
 simp only [Zd,Bq,hm 0 Aa,hm 1 Aa,hm 2 Aa,hm 3 Aa,h0,h1,h2,h3,Gw]
 refine ⟨?_,AA ..,?_,?_⟩
 ·simp only [Dx,Ar,hm 1 Aa,hm 2 Aa,Gw,C3]
 ·simp only [stP,Ar,hm 3 Aa,hm 4 Aa,hm 5 Aa,Gw]
  try exact hm 6 Aa
 ·exact Gm H m z A9 (fun x=>(C3 H m z x x).mpr rfl) Pr.zero pres
theorem Et (g:Nat→BitVec 64) (pc:BitVec 64) (hl:Bool) (xt:BitVec 64) (pres:List (Dg × Pr)) (q:Nat) (s:Ps) (b i:Nat) (h:Ac (L5 g pc hl xt pres q s b) i=true):i < 4 ∨ i=b:=by
 simp only [L5,Og,beq_iff_eq,Bool.or_false] at h;omega
theorem MX (g:Nat→BitVec 64) (pc:BitVec 64) (hl:Bool) (xt:BitVec 64) (pres:List (Dg × Pr)) (q:Nat) (s:Ps) (i:Nat) (h:Ac (Zd g pc hl xt pres q s) i=true):i < 4:=by
 simp only [Zd,Og,beq_iff_eq,Bool.or_false] at h;omega
theorem Pg (g:Nat→BitVec 64) (pc:BitVec 64) (hl:Bool) (xt:BitVec 64) (pres:List (Dg × Pr)) (q:Nat) (s:Ps) (b:Nat) (hb:7≤b):A5 (L5 g pc hl xt pres q s b) [0,1,2,3,b]=[]:=by
 have n0:¬ b=0:=Aa
 have n1:¬ b=1:=Aa
 have n2:¬ b=2:=Aa
 have n3:¬ b=3:=Aa
 have n0':¬ 0=b:=Aa
 have n1':¬ 1=b:=Aa
 have n2':¬ 2=b:=Aa
 have n3':¬ 3=b:=Aa
 simp only [A5,L5,BJ,n0,n1,n2,n3,n0',n1',n2',n3',C2,seval]
theorem Wp {b:Nat} (hb:7≤b):([0,1,2,3,4,5,6,b]:List Nat).Nodup:=by
 rw [show ([0,1,2,3,4,5,6,b]:List Nat)=[0,1,2,3,4,5,6] ++ [b] from rfl,List.nodup_append]
 refine ⟨by decide,by simp,fun a ha c hc=>?_⟩
 simp only [Oj] at ha hc
 omega
def Ajb {M:Seat} (okA:OkM M) (okO:OkO M) (ok:OkPr M) (g:Nat→BitVec 64) (pc:BitVec 64) (hl:Bool) (xt:BitVec 64) (pres:List (Dg × Pr)) (q:Nat):MemI M where
 σ:=Ps
 t:=422
 ht:=.inl rfl
 k0:=7
 kk:=8
 hk:=Aa
 E s b:=L5 g pc hl xt pres q s b
 E0 s:=Zd g pc hl xt pres q s
 mm:=Hk pres
 Z s:=s.l=[]
 len s:=s.l.length
 lr s a:=by simp [Hk,prR]
 lw s a v:=by simp [Hk,prW]
 lp s h:=Aez
 lz s h:=by simp [h]
 hids s b i h:=by rcases Et g pc hl xt pres q s b i h with h | h <;> omega
 hids0 s i h:=by have:=MX g pc hl xt pres q s i h;omega
 sim0 s H m z hm hH:=Ty g pc hl xt pres q s H m z hm hH
 simE s b b' H m z hk hm hb hH:=MH g pc hl xt pres q s b b' H m z hm hb hH hk
 c0 {f us us' v s s'} own {n K} hr hus hv ho hK:=by
  refine Dm (E':=L5 g pc hl xt pres q s' n) [0,1,2,3,4,5,6] [0,1,2,3] hr ?_ B1 Aj ⟨rfl,by omega⟩ (fun i hi=>?_) ?_ (hus _ _ _ rfl) (Ty g pc hl xt pres q s _ _ _ (fun i hi=>?_) (Dd fun i hi=>ho.no (by have:=MX g pc hl xt pres q s i hi;omega))) rfl rfl hv (fun i hi=>?_) hK
  ·intro id i h1 h2
   have h:=MX g pc hl xt pres q s id h1
   have:id=0 ∨ id=1 ∨ id=2 ∨ id=3:=Aa
   rcases this with rfl | rfl | rfl | rfl <;> (obtain rfl:=Option.some.inj h2;simp)
  ·simp only [Oj] at hi
   rcases hi with rfl | rfl | rfl | rfl <;> exact ⟨rfl,ho.no Aa⟩
  ·exact fun i hi=>by
    have h:([0,1,2,3,4,5,6]:List Nat).all (fun i=>Ac (Zd g pc hl xt pres q s) i || Gu [0,1,2,3] (Zd g pc hl xt pres q s) i)=true:=BF
    have:=List.all_eq_true.1 h i hi
    simpa using this
  ·have:i=0 ∨ i=1 ∨ i=2 ∨ i=3 ∨ i=4 ∨ i=5 ∨ (i=6∧7=7):=Aa
   rcases this with rfl | rfl | rfl | rfl | rfl | rfl | ⟨rfl,h⟩ <;> first | rfl | omega
  ·rcases Et g pc hl xt pres q s' n i hi with h | h <;> exact ho.no Aa
 ck {f us us' v s s' b} own {n K} hr hus hv hb ho hK:=by
  have hids:∀ i,i ∈ ([0,1,2,3,b]:List Nat)→Ac (L5 g pc hl xt pres q s b) i=true∧Ac own i=false:=fun i hi=>by
   simp only [Oj] at hi
   rcases hi with rfl | rfl | rfl | rfl | rfl
   ·exact ⟨rfl,ho.no Aa⟩
   ·exact ⟨rfl,ho.no Aa⟩
   ·exact ⟨rfl,ho.no Aa⟩
   ·exact ⟨rfl,ho.no Aa⟩
   ·exact ⟨by simp [L5,Ac],ho.no Aa⟩
  refine Dm (E':=L5 g pc hl xt pres q s' n) [0,1,2,3,4,5,6,b] [0,1,2,3,b] hr ?_ B1 (Wp hb) ⟨rfl,by omega⟩ hids ?_ (hus _ _ _ rfl) (MH g pc hl xt pres q s b 7 _ _ _ (fun i hi=>?_) rfl (Dd fun i hi=>ho.no (by have:=Et g pc hl xt pres q s b i hi;omega)) hb) rfl (Pg g pc hl xt pres q s b hb) hv (fun i hi=>?_) hK
  ·intro id i h1 h2
   have h:=Et g pc hl xt pres q s 7 id h1
   have:id=0 ∨ id=1 ∨ id=2 ∨ id=3 ∨ id=7:=Aa
   rcases this with rfl | rfl | rfl | rfl | rfl <;> (obtain rfl:=Option.some.inj h2;simp)
  ·intro i hi
   by_cases h5:i ∈ ([0,1,2,3,b]:List Nat)
   ·exact .inl (hids i h5).1
   ·right
    have hj:i=4 ∨ i=5 ∨ (i=6∧7=7):=by
     simp only [Oj] at hi h5
     omega
    refine List.any_eq_true.2 ⟨2,by simp,?_⟩
    rcases hj with rfl | rfl | ⟨rfl,h⟩ <;> first | rfl | omega
  ·have:i=0 ∨ i=1 ∨ i=2 ∨ i=3 ∨ i=4 ∨ i=5 ∨ (i=6∧7=7):=Aa
   rcases this with rfl | rfl | rfl | rfl | rfl | rfl | ⟨rfl,h⟩ <;> first | rfl | omega
  ·rcases Et g pc hl xt pres q s' n i hi with h | h <;> exact ho.no Aa
 cu {f us us' v s s' b} own {n K} hr hus hv hb ho hK:=by
  have hids:∀ i,i ∈ ([0,1,2,3,b]:List Nat)→Ac (L5 g pc hl xt pres q s b) i=true∧Ac own i=false:=fun i hi=>by
   simp only [Oj] at hi
   rcases hi with rfl | rfl | rfl | rfl | rfl
   ·exact ⟨rfl,ho.no Aa⟩
   ·exact ⟨rfl,ho.no Aa⟩
   ·exact ⟨rfl,ho.no Aa⟩
   ·exact ⟨rfl,ho.no Aa⟩
   ·exact ⟨by simp [L5,Ac],ho.no Aa⟩
  refine Dm (E':=L5 g pc hl xt pres q s' b) [0,1,2,3,4,5,6,b] [0,1,2,3,b] hr ?_ B1 (Wp hb) ⟨rfl,by omega⟩ hids ?_ (hus _ _ _ rfl) (MH g pc hl xt pres q s b 7 _ _ _ (fun i hi=>?_) rfl (Dd fun i hi=>ho.no (by have:=Et g pc hl xt pres q s b i hi;omega)) hb) rfl (Pg g pc hl xt pres q s b hb) hv (fun i hi=>?_) hK
  ·intro id i h1 h2
   have h:=Et g pc hl xt pres q s 7 id h1
   have:id=0 ∨ id=1 ∨ id=2 ∨ id=3 ∨ id=7:=Aa
   rcases this with rfl | rfl | rfl | rfl | rfl <;> (obtain rfl:=Option.some.inj h2;simp)
  ·intro i hi
   by_cases h5:i ∈ ([0,1,2,3,b]:List Nat)
   ·exact .inl (hids i h5).1
   ·right
    have hj:i=4 ∨ i=5 ∨ (i=6∧7=7):=by
     simp only [Oj] at hi h5
     omega
    refine List.any_eq_true.2 ⟨2,by simp,?_⟩
    rcases hj with rfl | rfl | ⟨rfl,h⟩ <;> first | rfl | omega
  ·have:i=0 ∨ i=1 ∨ i=2 ∨ i=3 ∨ i=4 ∨ i=5 ∨ (i=6∧7=7):=Aa
   rcases this with rfl | rfl | rfl | rfl | rfl | rfl | ⟨rfl,h⟩ <;> first | rfl | omega
  ·rcases Et g pc hl xt pres q s' b i hi with h | h <;> exact ho.no Aa
 fr:=596
 fw:=597
 fp:=595
 mr:=ok.m0
 mw:=ok.m1
 mp:=ok.m2
 rr0 s a hz ha:=by
  obtain ⟨f,l,pre⟩:=s
  have hz:l=[]:=hz
  subst hz
  exact RR okA ok f g pc hl xt pre pres q a ha
 rr s a hL ha:=MF okA ok s.f g pc hl xt s.pre pres q s.l hL a ha
 rw s a v hL ha:=TK okA ok s.f g pc hl xt s.pre pres q s.l hL a v ha
 rp s h:=by
  have hP:=UK ok okO s.f g pc hl xt s.pre pres q s.l h
  show Af M 595 _ _ _ (Q3 (Ah (A9 (Ql pres s h).1) (Cr (Ql pres s h).2.1)) (L5 g pc hl xt pres q (Ql pres s h).2.2 7) (8 + 1))
  refine up1 ?_
  unfold Ql
  cases hk:Dt h pres with
  | none=>rw [hk] at hP;exact hP
  | some p=>rw [hk] at hP;exact hP
end Mv
