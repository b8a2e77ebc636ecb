/- A part. -/
import Derived.Test.YtlfkjfonpacelaaGreatDoorHI
set_option linter.all false
set_option maxRecDepth 20000
set_option maxHeartbeats 4000000
namespace Mv
open Go
structure Pf where
 v:BitVec 64
 p:List Dg
instance:Inhabited Pf:=⟨⟨0#64,[]⟩⟩
def pfV (p:Pf):V:=.st 2 (.fcons 0 (W p.v) (.fcons 1 (.lst 32 p.p.length (Iu p.p)) .fnil))
def J1 (l:List Pf) (i:Nat):V:=pfV (l.getD i default)
structure Ck where
 root:Dg
 l:List Pf
 pre:Pr
def Ck.vv (c:Ck):V:=.st 97 (.fcons 0 (dg c.root) (.fcons 32 (.lst 2 c.l.length (J1 c.l)) (.fcons 33 (AF c.pre) .fnil)))
theorem Sg (H:Hp) (m z:List Nat) (p:Pf):At H m z (pfV p) (pfV p):=by simp only [pfV,Iu,dg,LY,seval]
theorem Em (H:Hp) (m z:List Nat) (l:List Pf) (i:Nat):At H m z (J1 l i) (J1 l i)=True:=eq_true (Sg H m z _)
def Lbi:=(Bo @Cn @Em)
theorem MY (m:List Nat) (l:List Pf) (i:Nat):(J1 l i).ren m=J1 l i:=rfl
def Lbj:=(Bo @Cj @MY)
structure OkCk (M:Seat):Prop where
 m0:CI M 426 0 599
 m1:CI M 426 1 600
 m2:CI M 426 2 598
theorem up1 {M:Seat} {f:Nat} {us:List V} {v:V} {H Hn:Hp} {k kn:Nat} (h:Ae M f us H k (Q3 v Hn kn)):Ae M f us H k (Q3 v Hn (kn + 1)):=by
 intro e vs h1 h2 h3
 refine (h e vs h1 h2 h3).mono ?_
 rintro en w' ⟨x,v,e',H',k',a,b,c,d,f,g,rfl,rfl,rfl⟩
 exact ⟨x,v,e',_,_,a,b,c,d,fun id hid=>f id Aa,by omega,rfl,rfl,rfl⟩
def Ahc:LC:=(sr [A1 2 (.mv (.c .nilp))] (.seq (sr [mt 3 0,A1 4 (.eq false true .ptr (.t 3) (.c .nilp))] (.cond (.t 4) (sr [A1 2 (.mv (.c .nilp))] .ret) .skip)) (.seq (.regd [⟨0,0,mt 5 0⟩,⟨1,1,nc 6 5⟩,⟨2,3,fa 7 0 6⟩,⟨3,7,lb 8 1 7⟩,⟨4,15,kl 9 276 [(.t 8)]⟩,⟨5,0,mt 10 0⟩,⟨6,32,nc 11 10⟩,⟨7,96,fa 12 1 11⟩,⟨8,224,lb 13 1 12⟩,⟨9,0,A1 14 (.mkmap (.ar 32 (.int .u8)) .bool)⟩,⟨10,1023,A1 15 (.build (.st (.cons .map (.cons .ptr (.cons .map (.cons .slice .nil))))) [(.f 0,1,(.t 9)),(.f 1,1,(.t 13)),(.f 2,1,(.t 14))])⟩,⟨11,2047,bX 16 15⟩,⟨12,4095,mt 2 16⟩]) .ret)))
def Afu:LF:=⟨Ahc,1,0,17,[.tmp 2]⟩
def Aii:LC:=(sr [A1 2 (.mv (.c .nilm))] (.seq (sr [mt 3 0,A1 4 (.eq false true (.nils 1) (.t 3) (.c .nilm))] (.cond (.t 4) (sr [A1 2 (.mv (.c .nilm))] .ret) .skip)) (sr [mt 5 0,A1 6 (.mkif 362 (.t 5)),A1 7 (.mclone (.t 6)),A1 8 (.tas 362 (.t 7)),mt 2 8] .ret)))
def Ae5:LF:=⟨Aii,1,0,9,[.tmp 2]⟩
variable {M:Seat}
structure OkPr (M:Seat):Prop where
 k167:Ar M 167 Afu=true
 k276:Ar M 276 Ae5=true
 k595:Ar M 595 Am4=true
 k596:Ar M 596 Adr=true
 k597:Ar M 597 Am9=true
 m0:CI M 422 0 596
 m1:CI M 422 1 597
 m2:CI M 422 2 595
def stP (va:V):V:=.st 4 (.fcons 0 (.map 3) (.fcons 1 (.ptr 4 []) (.fcons 2 (.map 5) (.fcons 3 va .fnil))))
def HM (lv:V) (pre:Pr):V:=.st 67 (.fcons 0 (.ptr 1 []) (.fcons 1 (.ptr 2 []) (.fcons 2 lv (.fcons 3 (AF pre) .fnil))))
def Lby:=(CX @By.eq_1 @HM.eq_1 @stP.eq_1)
def Cg (f:Nat→BitVec 64) (a:BitVec 64):Pf:=⟨f a.toNat,pth f a.toNat⟩
theorem Ace (f:Nat→BitVec 64) (i:Nat):(pth f i).length=13:=by simp [pth]
theorem Abb (f:Nat→BitVec 64) (i h:Nat) (hh:h < 13):(pth f i).getD h Dg.zero=BV f h ((i / 2 ^ h) ^^^ 1):=by
 simp [pth,List.getD,hh]
theorem Tu {α:Type} (g:α→V) (d:α) (l:List (Dg × α)) (t id n:Nat) (H:Hp):Yi (Bv g d l) t id n H=⟨Af H id=true,.ifc t (.map n),(n,Bv g d l) :: H⟩:=rfl
theorem Adj (c:Bool) (i:Nat):AL c (.nils 1) (.map i) .nilm=True:=by simp [AL]
theorem Afh (i:Nat):AP (.nils 1) (.map i) .nilm=false:=rfl
theorem Ol {H:Hp} {m z:List Nat} {id:Nat} (f:Nat→BitVec 64) (a:BitVec 64) (h1:Lw H z id=true) (h2:hget H id = .ar 32 13 fun h=>dg (BV f h (a.toNat / 2 ^ h ^^^ 1))):At H m z (pfV (Cg f a)) (.st 2 (.fcons 0 (W (f a.toNat)) (.fcons 1 (.sl id [] 0 13 32) .fnil))):=by
 simp only [pfV,Cg,Ace,At,W,N9]
 refine ⟨h1,trivial,?_⟩
 rw [h2]
 simp only [V.get]
 refine ⟨trivial,by omega,fun i hi=>?_⟩
 have:Iu (pth f a.toNat) i=dg (BV f i (a.toNat / 2 ^ i ^^^ 1)):=by rw [Iu,Abb f _ _ hi]
 rw [this,Nat.zero_add]
 exact (AN _ _ _ _ _).mpr rfl
theorem JW (ok:OkPr M) (l:List (Dg × Pr)) :
 Ae M 276 [.map 0] [(0,Bv AF Pr.zero l)] 1 (Q3 (.map 1) [(0,Bv AF Pr.zero l),(1,Bv AF Pr.zero l)] 2):=by
 refine Ab ok.k276 rfl fun x hx=>?_
 refine es 2000 ?_;(simp only [Ae5,Aii,Adj,Afh,Tu,LZ,seval])
 have zz:=@Cn;exact Bu hx [0,81] ⟨rfl,rfl,rfl⟩
theorem QK (okA:OkM M) (ok:OkPr M) (f g:Nat→BitVec 64) (pc:BitVec 64) (hl:Bool) (xt:BitVec 64) (pre:Pr) (pres:List (Dg × Pr)) (q:Nat) (a:BitVec 64) (ha:¬ 8192#64≤a) :
 Ae M 596 [.ptr 0 [],W a] [(0,HM .nils pre),(1,mach f g pc hl xt),(2,stP (.nils)),(3,Bv AF Pr.zero pres)] 6
  (Q3 (Ag (W (f a.toNat)) .nili) [(0,HM (.sl 6 [] 0 1 2) pre),(1,mach f g pc hl xt),(2,stP (.nils)),(3,Bv AF Pr.zero pres),(6,.ar 2 1 (J1 [Cg f a]))] 7):=by
 refine Ab ok.k596 rfl fun x hx=>?_
 refine es 2000 ?_;(simp only [Adr,Ae1,HM,LZ,seval])
 have zz:=Bo @W.eq_1 @mach.eq_1;refine PW (Ki okA f g pc hl xt a.toNat (pfl a ha)) ?_
 (simp only [BU,seval])
 refine Aq.mk hx [0,1,2,3,4,5,502] [118] (Ag (W (f a.toNat)) .nili) [(0,HM (.sl 6 [] 0 1 2) pre),(1,mach f g pc hl xt),(2,stP (.nils)),(3,Bv AF Pr.zero pres),(6,.ar 2 1 (J1 [Cg f a]))] 7 Am (by (simp only [Db,seval])) (by (simp only [PH,seval])) ?_ ⟨rfl,rfl,rfl⟩
 simp only [HM,stP,CB,seval,N9]
 intro i hi
 obtain rfl:i=0:=Aa
 exact Ol f a BS rfl
theorem LQ (okA:OkM M) (ok:OkPr M) (f g:Nat→BitVec 64) (pc:BitVec 64) (hl:Bool) (xt:BitVec 64) (pre:Pr) (pres:List (Dg × Pr)) (q:Nat) (l:List Pf) (hL:l.length≤100) (a:BitVec 64) (ha:¬ 8192#64≤a) :
 Ae M 596 [.ptr 0 [],W a] [(0,HM (.sl 6 [] 0 l.length 2) pre),(1,mach f g pc hl xt),(2,stP (.nils)),(3,Bv AF Pr.zero pres),(6,.ar 2 l.length (J1 l))] 7
  (Q3 (Ag (W (f a.toNat)) .nili) [(0,HM (.sl 7 [] 0 (l ++ [Cg f a]).length 2) pre),(1,mach f g pc hl xt),(2,stP (.nils)),(3,Bv AF Pr.zero pres),(7,.ar 2 (l ++ [Cg f a]).length (J1 (l ++ [Cg f a])))] (7 + 1)):=by
 refine Ab ok.k596 rfl fun x hx=>?_
 refine es 2000 ?_;(simp only [Adr,Ae1,HM,LZ,seval])
 have zz:=CX @W.eq_1 @mach.eq_1 @Em;refine PW (Ki okA f g pc hl xt a.toNat (pfl a ha)) ?_
 (simp only [BU,seval])
 repeat refine sd ?_
 refine Aq.mk hx [0,1,2,3,4,5,6,503] [119] (Ag (W (f a.toNat)) .nili) [(0,HM (.sl 7 [] 0 (l ++ [Cg f a]).length 2) pre),(1,mach f g pc hl xt),(2,stP (.nils)),(3,Bv AF Pr.zero pres),(7,.ar 2 (l ++ [Cg f a]).length (J1 (l ++ [Cg f a])))] 8 Am (by (simp only [Db,seval])) (by (simp only [PH,seval])) ?_ ⟨rfl,rfl,rfl⟩
 have e0:(l ++ [Cg f a]).length=l.length + 1:=BD
 simp only [e0,HM,stP,CB,seval,N9]
 intro i hi
 by_cases h:i < l.length
 ·rw [if_pos h]
  have:J1 (l ++ [Cg f a]) i=J1 l i:=by simp only [J1,List.getD_eq_getElem?_getD,List.getElem?_append_left h]
  rw [this];exact (Em _ _ _ _ _).mpr trivial
 ·obtain rfl:i=l.length:=Aa
  have:J1 (l ++ [Cg f a]) l.length=pfV (Cg f a):=by simp only [J1,List.getD_eq_getElem?_getD,List.getElem?_append_right (Nat.le_refl _),Nat.sub_self];rfl
  rw [if_neg h,Nat.sub_self,if_pos rfl,this]
  exact Ol f a BS rfl
theorem Um (okA:OkM M) (ok:OkPr M) (f g:Nat→BitVec 64) (pc:BitVec 64) (hl:Bool) (xt:BitVec 64) (pre:Pr) (pres:List (Dg × Pr)) (q:Nat) (l:List Pf) (hL:l.length≤100) (a v:BitVec 64) (ha:¬ 8192#64≤a) :
 Ae M 597 [.ptr 0 [],W a,W v] [(0,HM (.sl 6 [] 0 l.length 2) pre),(1,mach f g pc hl xt),(2,stP (.nils)),(3,Bv AF Pr.zero pres),(6,.ar 2 l.length (J1 l))] 7
  (Q3 .nili [(0,HM (.sl 7 [] 0 (l ++ [Cg f a]).length 2) pre),(1,mach (IS f a.toNat v) g pc hl xt),(2,stP (.nils)),(3,Bv AF Pr.zero pres),(7,.ar 2 (l ++ [Cg f a]).length (J1 (l ++ [Cg f a])))] (7 + 1)):=by
 refine Ab ok.k597 rfl fun x hx=>?_
 have ha':=pfl a ha
 have hR:=LQ okA ok f g pc hl xt pre pres q l hL a ha
 generalize l ++ [Cg f a]=l' at *
 refine es 2000 ?_;(simp only [Am9,Aki,LZ,seval])
 have zz:=EH @HM.eq_1 @stP.eq_1 @mach.eq_1 Lbi;refine Co [0,1,2,3,4,5,6] [0,1,2,3,6] (hR) ?_
 (simp only [Lbj,HM,stP,mach,seval])
 repeat refine sd ?_
 have zz:=Bo Tx Lbi;exact Bu hx [0,1,2,3,4,5,6,55] ⟨rfl,rfl,rfl⟩
theorem Ey (ok:OkPr M) (q:Nat) (pres:List (Dg × Pr)) :
 Ae M 167 [.ptr 0 []] [(0,.st 4 (.fcons 0 (.map 1) (.fcons 1 (.ptr 2 []) (.fcons 2 (.map 3) (.fcons 3 (.nils) .fnil))))),(1,Bv AF Pr.zero pres)] 4
  (Q3 (.ptr 4 []) [(0,.st 4 (.fcons 0 (.map 1) (.fcons 1 (.ptr 2 []) (.fcons 2 (.map 3) (.fcons 3 (.nils) .fnil))))),(1,Bv AF Pr.zero pres),(4,.st 4 (.fcons 0 (.map 5) (.fcons 1 (.ptr 2 []) (.fcons 2 (.map 6) (.fcons 3 .nils .fnil))))),(5,Bv AF Pr.zero pres),(6,BW [])] 7):=by
 refine Ab ok.k167 rfl fun x hx=>?_
 refine es 2000 ?_;(simp only [Afu,Ahc,LZ,seval])
 have zz:=@Cn;refine SI [1] (JW ok pres) ?_
 (simp only [B7,seval])
 have zz:=Bo @BW.eq_1 @Cn;exact Bu hx [0,1,2,3,228,324,196] ⟨rfl,rfl,rfl⟩
theorem T4 (ok:OkO M) (pres:List (Dg × Pr)) (h:Dg) :
 Ae M 328 [.ptr 0 [],dg h] [(0,.st 4 (.fcons 0 (.map 1) (.fcons 1 (.ptr 2 []) (.fcons 2 (.map 3) (.fcons 3 .nils .fnil))))),(1,Bv AF Pr.zero pres),(3,BW [])] 4
  (Q3 (D9 (DM h pres)) [(1,Bv AF Pr.zero pres)] 4):=by
 have hsv:∀ l:List (Dg × Bool),Bv V.bool false l=BW l:=fun _=>rfl
 have hn:DM h ([]:List (Dg × Bool))=none:=rfl
 refine Ab ok.k328 rfl fun x hx=>?_
 generalize ho:DM h pres=o at *
 cases o
 all_goals refine es 2000 ?_;(simp only [UN,Ui,BW,ho,hn,B7,seval])
 all_goals refine Aq.mk hx [0,1,2,3] [] (D9 _) [(1,Bv AF Pr.zero pres)] 4 Am (by simp only [Sn,Cj,WM,seval]) (by simp only [Sn,D9,Cj,WM,seval];simp only [YA,CB,seval];try exact fun _ _=>rfl) ?_ ⟨rfl,rfl,rfl⟩
 all_goals simp only [CB,seval]
def pgR (o:Option Pr):V:=match o with
 | some p=>Ag (AF p) .nili
 | none=>Ag (AF Pr.zero) (.ifc 74 (.int .i64 14))
def pgP (o:Option Pr):Pr:=match o with
 | some p=>p
 | none=>Pr.zero
theorem U4 (ok:OkPr M) (okO:OkO M) (f g:Nat→BitVec 64) (pc:BitVec 64) (hl:Bool) (xt:BitVec 64) (pre:Pr) (pres:List (Dg × Pr)) (q:Nat) (l:List Pf) (h:Dg) :
 Ae M 595 [.ptr 0 [],dg h] [(0,HM (.sl 6 [] 0 l.length 2) pre),(1,mach f g pc hl xt),(2,stP (.nils)),(3,Bv AF Pr.zero pres),(6,.ar 2 l.length (J1 l))] 7
  (Q3 (pgR (DM h pres)) [(0,HM (.sl 6 [] 0 l.length 2) (pgP (DM h pres))),(1,mach f g pc hl xt),(2,stP (.nils)),(3,Bv AF Pr.zero pres),(6,.ar 2 l.length (J1 l))] 7):=by
 refine Ab ok.k595 rfl fun x hx=>?_
 have hC:=Ey ok q pres
 have hG:=T4 okO pres h
 refine es 2000 ?_;(simp only [Am4,Ai1,HM,LZ,seval])
 have zz:=Bo @stP.eq_1 @Cn;refine KI [2,3,4,5] [2,3] (hC) ?_
 (simp only [stP,A3,B7,seval])
 cases ho:DM h pres with
 | none =>
   rw [ho] at hG
   simp only [D9] at hG
   have zz:=Bo @Ba @Cn;refine KI [327,328,4,329] [327,328,329] (hG) ?_
   (simp only [Cj,pr0,seval])
   have zz:=aq9 @pgR.eq_1 @pgR.eq_2 @pgP.eq_1 @pgP.eq_2 @MY Lbi @stP.eq_1 YA @LM;exact Bu hx [0,1,2,3,4,5,6] ⟨rfl,rfl,rfl⟩
 | some p =>
   rw [ho] at hG
   simp only [D9] at hG
   have zz:=Bo @Ba @Cn;refine KI [327,328,4,329] [327,328,329] (hG) ?_
   (simp only [Cj,pr0,seval])
   have zz:=W7 @pgR.eq_1 @pgR.eq_2 @pgP.eq_1 @pgP.eq_2 @MY Lbi @stP.eq_1 @LM;exact Bu hx [0,1,2,3,4,5,6] ⟨rfl,rfl,rfl⟩
structure Ps where
 f:Nat→BitVec 64
 l:List Pf
 pre:Pr
def prR (s:Ps) (a:BitVec 64):BitVec 64 × Option Int × Ps:=(s.f a.toNat,none,⟨s.f,s.l ++ [Cg s.f a],s.pre⟩)
def prW (s:Ps) (a v:BitVec 64):Option Int × Ps:=(none,⟨IS s.f a.toNat v,s.l ++ [Cg s.f a],s.pre⟩)
def prP (pres:List (Dg × Pr)) (s:Ps) (h:Dg):Pr × Option Int × Ps:=match DM h pres with
 | some p=>(p,none,⟨s.f,s.l,p⟩)
 | none=>(Pr.zero,some 14,⟨s.f,s.l,Pr.zero⟩)
def Ns (pres:List (Dg × Pr)):Mm Ps:=⟨prR,prW,prP pres⟩
theorem Z9.no {b n i:Nat} {own:Hp} (ho:Z9 b n own) (h:i < 17 ∨ i=b ∨ n≤i):Af own i=false:=by
 cases hh:Af own i with
 | false=>rfl
 | true=>have:=ho i hh;omega
def KT (g:Nat→BitVec 64) (pc:BitVec 64) (hl:Bool) (xt:BitVec 64) (pres:List (Dg × Pr)) (q:Nat) (s:Ps) (b:Nat):Hp :=
 [(0,HM (.sl b [] 0 s.l.length 2) s.pre),(1,mach s.f g pc hl xt),(2,stP (.nils)),(3,Bv AF Pr.zero pres),(b,.ar 2 s.l.length (J1 s.l))]
def YI (g:Nat→BitVec 64) (pc:BitVec 64) (hl:Bool) (xt:BitVec 64) (pres:List (Dg × Pr)) (q:Nat) (s:Ps):Hp :=
 [(0,HM .nils s.pre),(1,mach s.f g pc hl xt),(2,stP (.nils)),(3,Bv AF Pr.zero pres)]
theorem Nw (g:Nat→BitVec 64) (pc:BitVec 64) (hl:Bool) (xt:BitVec 64) (pres:List (Dg × Pr)) (q:Nat) (s:Ps) (b b':Nat) (H:Hp) (m z:List Nat) (hm:∀ i,i < 6→m[i]?=some i) (hb:m[b']?=some b)
 (hH:∀ i,Af (KT g pc hl xt pres q s b) i=true→Af H i=true∧hget H i=hget (KT g pc hl xt pres q s b) i) (hk:6≤b):B8 H m z (KT g pc hl xt pres q s b'):=by
 have n0:¬ 0=b:=Aa
 have n1:¬ 1=b:=Aa
 have n2:¬ 2=b:=Aa
 have n3:¬ 3=b:=Aa
 have h0:=hH 0 rfl
 have h1:=hH 1 rfl
 have h2:=hH 2 rfl
 have h3:=hH 3 rfl
 have h4:=hH b (by simp [KT,Af])
 have g4:hget (KT g pc hl xt pres q s b) b = .ar 2 s.l.length (J1 s.l):=by simp only [KT,hget,n0,n1,n2,n3,C8]
 rw [g4] at h4
 simp only [KT,hget,if_true,seval] at h0 h1 h2 h3
 simp only [KT,B8,hm 0 Aa,hm 1 Aa,hm 2 Aa,hm 3 Aa,hb,h0,h1,h2,h3,h4,N9]
 refine ⟨?_,FC ..,?_,?_,?_⟩
 ·simp only [HM,At,hm 1 Aa,hm 2 Aa,hb,N9,Er]
 ·simp only [stP,At,hm 3 Aa,hm 4 Aa,hm 5 Aa,N9]
  try exact hm 6 Aa
 ·exact Jp H m z AF (fun x=>(Er H m z x x).mpr rfl) Pr.zero pres
 ·simp only [At,true_and]
  exact fun i _=>(Em H m z s.l i).mpr trivial
theorem Sm (g:Nat→BitVec 64) (pc:BitVec 64) (hl:Bool) (xt:BitVec 64) (pres:List (Dg × Pr)) (q:Nat) (s:Ps) (H:Hp) (m z:List Nat) (hm:∀ i,i < 6→m[i]?=some i)
 (hH:∀ i,Af (YI g pc hl xt pres q s) i=true→Af H i=true∧hget H i=hget (YI g pc hl xt pres q s) i):B8 H m z (YI g pc hl xt pres q s):=by
 have h0:=hH 0 rfl
 have h1:=hH 1 rfl
 have h2:=hH 2 rfl
 have h3:=hH 3 rfl
 simp only [YI,hget,if_true,seval] at h0 h1 h2 h3
 simp only [YI,B8,hm 0 Aa,hm 1 Aa,hm 2 Aa,hm 3 Aa,h0,h1,h2,h3,N9]
 refine ⟨?_,FC ..,?_,?_⟩
 ·simp only [HM,At,hm 1 Aa,hm 2 Aa,N9,Er]
 ·simp only [stP,At,hm 3 Aa,hm 4 Aa,hm 5 Aa,N9]
  try exact hm 6 Aa
 ·exact Jp H m z AF (fun x=>(Er H m z x x).mpr rfl) Pr.zero pres
theorem Ei (g:Nat→BitVec 64) (pc:BitVec 64) (hl:Bool) (xt:BitVec 64) (pres:List (Dg × Pr)) (q:Nat) (s:Ps) (b i:Nat) (h:Af (KT g pc hl xt pres q s b) i=true):i < 4 ∨ i=b:=by
 simp only [KT,R1,beq_iff_eq,Bool.or_false] at h;omega
theorem Nl (g:Nat→BitVec 64) (pc:BitVec 64) (hl:Bool) (xt:BitVec 64) (pres:List (Dg × Pr)) (q:Nat) (s:Ps) (i:Nat) (h:Af (YI g pc hl xt pres q s) i=true):i < 4:=by
 simp only [YI,R1,beq_iff_eq,Bool.or_false] at h;omega
theorem Px (g:Nat→BitVec 64) (pc:BitVec 64) (hl:Bool) (xt:BitVec 64) (pres:List (Dg × Pr)) (q:Nat) (s:Ps) (b:Nat) (hb:6≤b):A4 (KT g pc hl xt pres q s b) [0,1,2,3,b]=[]:=by
 have n0:¬ b=0:=Aa
 have n1:¬ b=1:=Aa
 have n2:¬ b=2:=Aa
 have n3:¬ b=3:=Aa
 have n0':¬ 0=b:=Aa
 have n1':¬ 1=b:=Aa
 have n2':¬ 2=b:=Aa
 have n3':¬ 3=b:=Aa
 simp only [A4,KT,BL,n0,n1,n2,n3,n0',n1',n2',n3',C8,seval]
theorem Wk {b:Nat} (hb:6≤b):([0,1,2,3,4,5,b]:List Nat).Nodup:=by
 rw [show ([0,1,2,3,4,5,b]:List Nat)=[0,1,2,3,4,5] ++ [b] from rfl,List.nodup_append]
 refine ⟨by decide,by simp,fun a ha c hc=>?_⟩
 simp only [Laq] at ha hc
 omega
def Ahd {M:Seat} (okA:OkM M) (okO:OkO M) (ok:OkPr M) (g:Nat→BitVec 64) (pc:BitVec 64) (hl:Bool) (xt:BitVec 64) (pres:List (Dg × Pr)) (q:Nat):MemI M where
 σ:=Ps
 t:=422
 ht:=.inl rfl
 k0:=6
 kk:=7
 hk:=Aa
 E s b:=KT g pc hl xt pres q s b
 E0 s:=YI g pc hl xt pres q s
 mm:=Ns pres
 Z s:=s.l=[]
 len s:=s.l.length
 lr s a:=by simp [Ns,prR]
 lw s a v:=by simp [Ns,prW]
 lp s h:=by show (prP pres s h).2.2.l.length≤_;unfold prP;split <;> exact Nat.le_refl _
 lz s h:=by simp [h]
 hids s b i h:=by rcases Ei g pc hl xt pres q s b i h with h | h <;> omega
 hids0 s i h:=by have:=Nl g pc hl xt pres q s i h;omega
 sim0 s H m z hm hH:=Sm g pc hl xt pres q s H m z hm hH
 simE s b b' H m z hk hm hb hH:=Nw g pc hl xt pres q s b b' H m z hm hb hH hk
 c0 {f us us' v s s'} own {n K} hr hus hv ho hK:=by
  refine Jv (E':=KT g pc hl xt pres q s' n) [0,1,2,3,4,5] [0,1,2,3] hr ?_ BD Am ⟨rfl,by omega⟩ (fun i hi=>?_) ?_ (hus _ _ _ rfl) (Sm g pc hl xt pres q s _ _ _ (fun i hi=>?_) (JK fun i hi=>ho.no (by have:=Nl g pc hl xt pres q s i hi;omega))) rfl rfl hv (fun i hi=>?_) hK
  ·intro id i h1 h2
   have h:=Nl g pc hl xt pres q s id h1
   have:id=0 ∨ id=1 ∨ id=2 ∨ id=3:=Aa
   rcases this with rfl | rfl | rfl | rfl <;> (obtain rfl:=Option.some.inj h2;simp)
  ·simp only [Laq] at hi
   rcases hi with rfl | rfl | rfl | rfl <;> exact ⟨rfl,ho.no Aa⟩
  ·exact fun i hi=>by
    have h:([0,1,2,3,4,5]:List Nat).all (fun i=>Af (YI g pc hl xt pres q s) i || Hx [0,1,2,3] (YI g pc hl xt pres q s) i)=true:=BS
    have:=List.all_eq_true.1 h i hi
    simpa using this
  ·have:i=0 ∨ i=1 ∨ i=2 ∨ i=3 ∨ i=4 ∨ i=5 ∨ (i=6∧6=7):=Aa
   rcases this with rfl | rfl | rfl | rfl | rfl | rfl | ⟨rfl,h⟩ <;> first | rfl | omega
  ·rcases Ei g pc hl xt pres q s' n i hi with h | h <;> exact ho.no Aa
 ck {f us us' v s s' b} own {n K} hr hus hv hb ho hK:=by
  have hids:∀ i,i ∈ ([0,1,2,3,b]:List Nat)→Af (KT g pc hl xt pres q s b) i=true∧Af own i=false:=fun i hi=>by
   simp only [Laq] at hi
   rcases hi with rfl | rfl | rfl | rfl | rfl
   ·exact ⟨rfl,ho.no Aa⟩
   ·exact ⟨rfl,ho.no Aa⟩
   ·exact ⟨rfl,ho.no Aa⟩
   ·exact ⟨rfl,ho.no Aa⟩
   ·exact ⟨by simp [KT,Af],ho.no Aa⟩
  refine Jv (E':=KT g pc hl xt pres q s' n) [0,1,2,3,4,5,b] [0,1,2,3,b] hr ?_ BD (Wk hb) ⟨rfl,by omega⟩ hids ?_ (hus _ _ _ rfl) (Nw g pc hl xt pres q s b 6 _ _ _ (fun i hi=>?_) rfl (JK fun i hi=>ho.no (by have:=Ei g pc hl xt pres q s b i hi;omega)) hb) rfl (Px g pc hl xt pres q s b hb) hv (fun i hi=>?_) hK
  ·intro id i h1 h2
   have h:=Ei g pc hl xt pres q s 6 id h1
   have:id=0 ∨ id=1 ∨ id=2 ∨ id=3 ∨ id=6:=Aa
   rcases this with rfl | rfl | rfl | rfl | rfl <;> (obtain rfl:=Option.some.inj h2;simp)
  ·intro i hi
   by_cases h5:i ∈ ([0,1,2,3,b]:List Nat)
   ·exact .inl (hids i h5).1
   ·right
    have hj:i=4 ∨ i=5 ∨ (i=6∧6=7):=by
     simp only [Laq] at hi h5
     omega
    refine List.any_eq_true.2 ⟨2,by simp,?_⟩
    rcases hj with rfl | rfl | ⟨rfl,h⟩ <;> first | rfl | omega
  ·have:i=0 ∨ i=1 ∨ i=2 ∨ i=3 ∨ i=4 ∨ i=5 ∨ (i=6∧6=7):=Aa
   rcases this with rfl | rfl | rfl | rfl | rfl | rfl | ⟨rfl,h⟩ <;> first | rfl | omega
  ·rcases Ei g pc hl xt pres q s' n i hi with h | h <;> exact ho.no Aa
 cu {f us us' v s s' b} own {n K} hr hus hv hb ho hK:=by
  have hids:∀ i,i ∈ ([0,1,2,3,b]:List Nat)→Af (KT g pc hl xt pres q s b) i=true∧Af own i=false:=fun i hi=>by
   simp only [Laq] at hi
   rcases hi with rfl | rfl | rfl | rfl | rfl
   ·exact ⟨rfl,ho.no Aa⟩
   ·exact ⟨rfl,ho.no Aa⟩
   ·exact ⟨rfl,ho.no Aa⟩
   ·exact ⟨rfl,ho.no Aa⟩
   ·exact ⟨by simp [KT,Af],ho.no Aa⟩
  refine Jv (E':=KT g pc hl xt pres q s' b) [0,1,2,3,4,5,b] [0,1,2,3,b] hr ?_ BD (Wk hb) ⟨rfl,by omega⟩ hids ?_ (hus _ _ _ rfl) (Nw g pc hl xt pres q s b 6 _ _ _ (fun i hi=>?_) rfl (JK fun i hi=>ho.no (by have:=Ei g pc hl xt pres q s b i hi;omega)) hb) rfl (Px g pc hl xt pres q s b hb) hv (fun i hi=>?_) hK
  ·intro id i h1 h2
   have h:=Ei g pc hl xt pres q s 6 id h1
   have:id=0 ∨ id=1 ∨ id=2 ∨ id=3 ∨ id=6:=Aa
   rcases this with rfl | rfl | rfl | rfl | rfl <;> (obtain rfl:=Option.some.inj h2;simp)
  ·intro i hi
   by_cases h5:i ∈ ([0,1,2,3,b]:List Nat)
   ·exact .inl (hids i h5).1
   ·right
    have hj:i=4 ∨ i=5 ∨ (i=6∧6=7):=by
     simp only [Laq] at hi h5
     omega
    refine List.any_eq_true.2 ⟨2,by simp,?_⟩
    rcases hj with rfl | rfl | ⟨rfl,h⟩ <;> first | rfl | omega
  ·have:i=0 ∨ i=1 ∨ i=2 ∨ i=3 ∨ i=4 ∨ i=5 ∨ (i=6∧6=7):=Aa
   rcases this with rfl | rfl | rfl | rfl | rfl | rfl | ⟨rfl,h⟩ <;> first | rfl | omega
  ·rcases Ei g pc hl xt pres q s' b i hi with h | h <;> exact ho.no Aa
 fr:=596
 fw:=597
 fp:=595
 mr:=ok.m0
 mw:=ok.m1
 mp:=ok.m2
 rr0 s a hz ha:=by
  obtain ⟨f,l,pre⟩:=s
  have hz:l=[]:=hz
  subst hz
  exact QK okA ok f g pc hl xt pre pres q a ha
 rr s a hL ha:=LQ okA ok s.f g pc hl xt s.pre pres q s.l hL a ha
 rw s a v hL ha:=Um okA ok s.f g pc hl xt s.pre pres q s.l hL a v ha
 rp s h:=by
  have hP:=U4 ok okO s.f g pc hl xt s.pre pres q s.l h
  show Ae M 595 _ _ _ (Q3 (Ag (AF (prP pres s h).1) (Da (prP pres s h).2.1)) (KT g pc hl xt pres q (prP pres s h).2.2 6) (7 + 1))
  refine up1 ?_
  unfold prP
  cases hk:DM h pres with
  | none=>rw [hk] at hP;exact hP
  | some p=>rw [hk] at hP;exact hP
theorem FX (w:BitVec 64):isI w=true ↔ (BP w≤35∧w >>> 32 &&& 255#64=0#64):=by simp [isI]
theorem TV {M:Seat} (ok:OkQ M) (I:MemI M) (h:Hd) (s:I.σ) (hz:I.Z s) (hl:h.hl=false) (hpc:¬ 8192#64≤h.pc) (q:Hd × Option Int × I.σ) (hq:nx I.mm h s=q) :
 Ae M 241 [h.v,.ifc I.t (.ptr 0 [])] (I.E0 s) I.k0 (Q3 (Ag q.1.v (Da q.2.1)) (I.E q.2.2 I.k0) (I.k0 + 1)):=by
 obtain ⟨g,pc,hl',xt⟩:=h
 dsimp only at hl hpc
 subst hl
 rw [nx] at hq
 cases he:(I.mm.rd s pc).2.1 with
 | some e =>
   have h0:=QP ok I g pc xt s hz hpc e he
   dsimp only at hq
   rw [he] at hq
   subst hq
   exact h0
 | none =>
   dsimp only at hq
   rw [he] at hq
   dsimp only at hq
   generalize hw:(I.mm.rd s pc).1=w at hq
   generalize hs:(I.mm.rd s pc).2.2=s1 at hq
   unfold M5 at hq
   by_cases q0:isI w=false
   ·rw [if_pos q0] at hq;subst hq
    exact TX ok I g pc xt s hz hpc w hw he s1 hs (fun h=>by rw [(FX w).2 h] at q0;cases q0)
   rw [if_neg q0] at hq
   obtain ⟨h35,h2⟩:=(FX w).1 (by simpa using q0)
   by_cases q1:BP w=0
   ·rw [if_pos q1] at hq;subst hq
    exact OV ok I g pc xt s hz hpc w hw he s1 hs q1 h2
   rw [if_neg q1] at hq
   by_cases q2:BP w < 26
   ·rw [if_pos q2] at hq;subst hq
    exact N7 ok I g pc xt s hz hpc w hw he s1 hs (BP w) Aa Aa rfl h2
   rw [if_neg q2] at hq
   by_cases q3:BP w=26
   ·rw [if_pos q3] at hq;subst hq
    exact TZ ok I g pc xt s hz hpc w hw he s1 hs q3 h2
   rw [if_neg q3] at hq
   by_cases q4:BP w=27 ∨ BP w=28
   ·rw [if_pos q4] at hq
    by_cases q5:8192#64≤g (pF w 48) + BitVec.ofInt 64 (pN w)
    ·rw [if_pos q5] at hq;subst hq
     rcases q4 with q4 | q4
     ·exact RH ok I g pc xt s hz hpc w hw he s1 hs q4 h2 _ rfl q5
     ·exact R9 ok I g pc xt s hz hpc w hw he s1 hs q4 h2 _ rfl q5
    rw [if_neg q5] at hq
    by_cases q6:BP w=27
    ·rw [if_pos q6] at hq;subst hq
     dsimp only
     cases he2:(I.mm.rd s1 (g (pF w 48) + BitVec.ofInt 64 (pN w))).2.1 with
     | none=>exact TE ok I g pc xt s hz hpc w hw he s1 hs q6 h2 _ rfl q5 he2
     | some e=>exact QV ok I g pc xt s hz hpc w hw he s1 hs q6 h2 _ rfl q5 e he2
    ·rw [if_neg q6] at hq;subst hq
     dsimp only
     have q6:BP w=28:=q4.resolve_left q6
     cases he2:(I.mm.wr s1 (g (pF w 48) + BitVec.ofInt 64 (pN w)) (g (pF w 44))).1 with
     | none=>exact Tk ok I g pc xt s hz hpc w hw he s1 hs q6 h2 _ rfl q5 he2
     | some e=>exact QT ok I g pc xt s hz hpc w hw he s1 hs q6 h2 _ rfl q5 e he2
   rw [if_neg q4] at hq
   by_cases q7:BP w < 34
   ·rw [if_pos q7] at hq;subst hq
    exact P5 ok I g pc xt s hz hpc w hw he s1 hs (BP w) Aa rfl h2
   rw [if_neg q7] at hq
   by_cases q8:BP w=34
   ·dsimp only at hq
    rw [q8] at hq
    by_cases q9:(wi (g (pF w 48)) 8#64 && wi (g (pF w 44)) 4#64)=false
    ·have:Qp I.mm 34 ⟨g,pc,false,xt⟩ s1 (g (pF w 48)) (g (pF w 44))=((⟨g,pc,false,xt⟩:Hd).stop A9,none,s1):=by rw [Qp,if_pos];exact q9
     rw [this] at hq;subst hq
     exact Lj ok I g pc xt s hz hpc w hw he s1 hs q8 h2 q9
    ·simp only [Bool.not_eq_false,Bool.and_eq_true] at q9
     exact Nv ok I g pc xt s hz hpc w hw he s1 hs q8 h2 q9.1 q9.2 q hq
   ·have q8:BP w=35:=Aa
    dsimp only at hq
    rw [q8] at hq
    by_cases q9:(wi (g (pF w 48)) 4#64 && wi (g (pF w 44)) 8#64)=false
    ·have:Qp I.mm 35 ⟨g,pc,false,xt⟩ s1 (g (pF w 48)) (g (pF w 44))=((⟨g,pc,false,xt⟩:Hd).stop A9,none,s1):=by rw [Qp,if_pos];exact q9
     rw [this] at hq;subst hq
     exact KR ok I g pc xt s hz hpc w hw he s1 hs q8 h2 q9
    ·simp only [Bool.not_eq_false,Bool.and_eq_true] at q9
     exact M1 ok I g pc xt s hz hpc w hw he s1 hs q8 h2 q9.1 q9.2 q hq
theorem Oq {α:Type} (k:Dg) (x:α):∀ l:List (Dg × α),DM k (CV k x l)=some x
 | []=>by simp [CV,DM]
 | (h, y) :: r => by
   by_cases e:k=h
   ·simp [CV,DM,e]
   ·have:=Oq k x r
    simp [CV,DM,e,this]
def Y9 (f:Nat→BitVec 64) (a:BitVec 64):Nat→Nat→List (BitVec 64)
 | 0,_=>[]
 | n + 1,i=>f (a + BitVec.ofNat 64 i).toNat :: Y9 f a n (i + 1)
def rdP (f:Nat→BitVec 64) (a:BitVec 64):Nat→Nat→List Pf
 | 0,_=>[]
 | n + 1,i=>Cg f (a + BitVec.ofNat 64 i) :: rdP f a n (i + 1)
def wrF (a:BitVec 64) (v:Nat→BitVec 64):Nat→Nat→(Nat→BitVec 64)→Nat→BitVec 64
 | 0,_,f=>f
 | n + 1,i,f=>wrF a v n (i + 1) (IS f (a + BitVec.ofNat 64 i).toNat (v i))
def wrP (a:BitVec 64) (v:Nat→BitVec 64):Nat→Nat→(Nat→BitVec 64)→List Pf
 | 0,_,_=>[]
 | n + 1,i,f=>Cg f (a + BitVec.ofNat 64 i) :: wrP a v n (i + 1) (IS f (a + BitVec.ofNat 64 i).toNat (v i))
theorem QR (pres:List (Dg × Pr)) (a:BitVec 64):∀ (n i:Nat) (s:Ps) (l:List (BitVec 64)),PV (Ns pres) a n i s l=(none,⟨s.f,s.l ++ rdP s.f a n i,s.pre⟩,l ++ Y9 s.f a n i)
 | 0,i,s,l=>by simp [PV,rdP,Y9]
 | n + 1, i, s, l => by
   rw [PV]
   show PV (Ns pres) a n (i + 1) ⟨s.f,s.l ++ [Cg s.f (a + BitVec.ofNat 64 i)],s.pre⟩ (l ++ [s.f (a + BitVec.ofNat 64 i).toNat])=_
   rw [QR pres a n (i + 1)]
   simp [rdP,Y9]
theorem Qc (pres:List (Dg × Pr)) (a:BitVec 64) (v:Nat→BitVec 64):∀ (n i:Nat) (s:Ps),YD (Ns pres) a v n i s=(none,⟨wrF a v n i s.f,s.l ++ wrP a v n i s.f,s.pre⟩)
 | 0,i,s=>by simp [YD,wrF,wrP]
 | n + 1, i, s => by
   rw [YD]
   show YD (Ns pres) a v n (i + 1) ⟨IS s.f (a + BitVec.ofNat 64 i).toNat (v i),s.l ++ [Cg s.f (a + BitVec.ofNat 64 i)],s.pre⟩=_
   rw [Qc pres a v n (i + 1)]
   simp [wrF,wrP]
theorem Yk (f:Nat→BitVec 64) (a:BitVec 64):∀ n i j,a.toNat + (i + n)≤8192→j < n→(Y9 f a n i).getD j 0#64=f (a.toNat + i + j)
 | n + 1, i, 0, h, _ => by
   have:(a + BitVec.ofNat 64 i).toNat=a.toNat + i:=by rw [BitVec.toNat_add,DS i Aa];omega
   simp [Y9,this]
 | n + 1, i, j + 1, h, hj => by
   have:=Yk f a n (i + 1) j Aa Aa
   simp only [Y9,List.getD_cons_succ,this]
   congr 1;omega
theorem RC (a:BitVec 64) (v:Nat→BitVec 64):∀ n i f j,a.toNat + (i + n)≤8192→wrF a v n i f j=if a.toNat + i≤j∧j < a.toNat + i + n then v (j - a.toNat) else f j
 | 0,i,f,j,_=>by simp only [wrF];rw [if_neg Aa]
 | n + 1, i, f, j, h => by
   have e:(a + BitVec.ofNat 64 i).toNat=a.toNat + i:=by rw [BitVec.toNat_add,DS i Aa];omega
   rw [wrF,RC a v n (i + 1) _ j Aa,IS,e]
   by_cases h1:j=a.toNat + i
   ·subst h1
    rw [if_neg Aa,if_pos rfl,if_pos Aa]
    congr 1;omega
   ·rw [if_neg h1]
    by_cases h2:a.toNat + (i + 1)≤j∧j < a.toNat + (i + 1) + n
    ·rw [if_pos h2,if_pos Aa]
    ·rw [if_neg h2,if_neg Aa]
def C3 (pres:List (Dg × Pr)):Prop:=∀ h p,DM h pres=some p→Cf p.at=h
end Mv
