/- A part. -/
import Derived.Test.YtlfkjfonpacelaaGreatDoorFH
set_option linter.all false
set_option maxRecDepth 20000
set_option maxHeartbeats 4000000
namespace Mv
open Go
variable {M:Seat}
theorem Mh (e:Option Int):Gb (B7 e)=True:=by cases e <;> simp [Gb,B7,V.solid]
theorem L4 (e:Option Int) (i:Nat) (r:V):Io (B7 e) i r = .fcons i (B7 e) r:=by cases e <;> rfl
theorem Qj {g:Nat→BitVec 64} {pc xt:BitVec 64} {hl:Bool} {t:Nat} {op:Int} {a b:BitVec 64}:Ja [AM g pc hl xt,.ifc t (.ptr 0 []),.int .i64 op,W a,W b] [AM g pc hl xt,.ifc t (.ptr 0 []),.int .i64 op,W a,W b]:=fun H m z h=>by
 simp only [Bd,Bi,Az,AM,W,h,and_self,implies_true]
theorem ZA (g:Nat→BitVec 64) (pc xt:BitVec 64) (hl:Bool) (e:Option Int):JN (Ah (AM g pc hl xt) (B7 e)):=fun m=>by simp only [Ah,V.ren,AM,W,HZ]
theorem Kg (ok:OkQ M) (I:MemI M) (g:Nat→BitVec 64) (pc:BitVec 64) (xt:BitVec 64) (s:I.σ) (hz:I.Z s) (hpc:¬ 8192#64≤pc) (w:BitVec 64) (hw:(I.mm.rd s pc).1=w) (he:(I.mm.rd s pc).2.1=none) (s1:I.σ) (hs:(I.mm.rd s pc).2.2=s1) (hop:CP w=34) (h2:w >>> 32 &&& 255#64=0#64) (h:(wi (g (pF w 48)) 8#64 && wi (g (pF w 44)) 4#64)=false) :
 Ag M 241 [AM g pc false xt,.ifc I.t (.ptr 0 [])] (I.E0 s) I.k0 (Q3 (Ah (AM g pc true Bn) (B7 (none))) (I.E (s1) I.k0) (I.k0 + 1)):=by
 refine Ab ok.okN.k241 rfl fun x hx=>?_
 refine Bm.up (N':=32) F9 ?_
 have a1:=A5 w 52
 have a2:=A5 w 48
 have a3:=A5 w 44
 have a4:=A5 w 40
 have hL:I.len s1≤100:=EY
 refine es 2000 ?_;(simp only [M3,I.hdel0,hpc,seval])
 refine I.dynR0 [_,_] hz hpc B4 ?_
 rw [hw,he,hs]
 (simp only [Ij,seval])
 have zz:=@BB.eq_1;refine Ce (AO ok.ok.toOkV w Aa h2) ?_
 (simp only [Mx,hop,I.idsE,seval])
 repeat refine sd ?_
 refine ⟨_,_,I.cu [_,_] (Nb ok I g pc xt _ _ s1 h) Qj (fun m=>rfl) F9 (Ek B4) ⟨rfl,rfl⟩,?_⟩
 (simp only [Z0,I.idsE,seval])
 exact I.ret [_,_] (q:=I.k0) ⟨Nat.le_refl _,by have:=I.hk;omega⟩ hx Am B4 ⟨rfl,rfl,rfl⟩ (by (simp only [E9,seval])) (by (simp only [PJ,seval]))
theorem LD (ok:OkQ M) (I:MemI M) (g:Nat→BitVec 64) (pc:BitVec 64) (xt:BitVec 64) (s:I.σ) (hz:I.Z s) (hpc:¬ 8192#64≤pc) (w:BitVec 64) (hw:(I.mm.rd s pc).1=w) (he:(I.mm.rd s pc).2.1=none) (s1:I.σ) (hs:(I.mm.rd s pc).2.2=s1) (hop:CP w=34) (h2:w >>> 32 &&& 255#64=0#64) (h3:wi (g (pF w 48)) 8#64=true) (h4:wi (g (pF w 44)) 4#64=true) (q:Hd × Option Int × I.σ) (hq:Tp I.mm 34 ⟨g,pc,false,xt⟩ s1 (g (pF w 48)) (g (pF w 44))=q) :
 Ag M 241 [AM g pc false xt,.ifc I.t (.ptr 0 [])] (I.E0 s) I.k0 (Q3 (Ah (q.1.v) (B7 (q.2.1))) (I.E (q.2.2) I.k0) (I.k0 + 1)):=by
 refine Ab ok.okN.k241 rfl fun x hx=>?_
 refine Bm.up (N':=32) F9 ?_
 have a1:=A5 w 52
 have a2:=A5 w 48
 have a3:=A5 w 44
 have a4:=A5 w 40
 have hL:I.len s1≤100:=EY
 obtain ⟨⟨g1,pc1,hl1,xt1⟩,e1,s2⟩:=q
 have hL1:I.len s1≤1:=EY
 refine es 2000 ?_;(simp only [M3,I.hdel0,hpc,seval])
 refine I.dynR0 [_,_] hz hpc B4 ?_
 rw [hw,he,hs]
 (simp only [Ij,seval])
 have zz:=@BB.eq_1;refine Ce (AO ok.ok.toOkV w Aa h2) ?_
 (simp only [Mx,hop,I.idsE,seval])
 repeat refine sd ?_
 refine ⟨_,_,I.ck [_,_] (Pd ok I g pc xt _ _ s1 hL1 h3 h4 _ hq) Qj (ZA _ _ _ _ _) F9 (Ek B4) ⟨rfl,rfl⟩,?_⟩
 (simp only [Z0,Hd.v,I.idsE,seval])
 repeat refine sd ?_
 have hE:∀ H m z,Az H m z (B7 e1) (B7 e1):=fun H m z=>UW e1 H m z
 exact I.ret [_,_] (q:=I.k0) ⟨Nat.le_refl _,by have:=I.hk;omega⟩ hx Am B4 ⟨rfl,rfl,rfl⟩ (by (simp only [E9,hE,Mh,L4,seval])) (by (simp only [PJ,hE,Mh,L4,seval]))
theorem Kw (ok:OkQ M) (I:MemI M) (g:Nat→BitVec 64) (pc:BitVec 64) (xt:BitVec 64) (s:I.σ) (hz:I.Z s) (hpc:¬ 8192#64≤pc) (w:BitVec 64) (hw:(I.mm.rd s pc).1=w) (he:(I.mm.rd s pc).2.1=none) (s1:I.σ) (hs:(I.mm.rd s pc).2.2=s1) (hop:CP w=35) (h2:w >>> 32 &&& 255#64=0#64) (h:(wi (g (pF w 48)) 4#64 && wi (g (pF w 44)) 8#64)=false) :
 Ag M 241 [AM g pc false xt,.ifc I.t (.ptr 0 [])] (I.E0 s) I.k0 (Q3 (Ah (AM g pc true Bn) (B7 (none))) (I.E (s1) I.k0) (I.k0 + 1)):=by
 refine Ab ok.okN.k241 rfl fun x hx=>?_
 refine Bm.up (N':=32) F9 ?_
 have a1:=A5 w 52
 have a2:=A5 w 48
 have a3:=A5 w 44
 have a4:=A5 w 40
 have hL:I.len s1≤100:=EY
 refine es 2000 ?_;(simp only [M3,I.hdel0,hpc,seval])
 refine I.dynR0 [_,_] hz hpc B4 ?_
 rw [hw,he,hs]
 (simp only [Ij,seval])
 have zz:=@BB.eq_1;refine Ce (AO ok.ok.toOkV w Aa h2) ?_
 (simp only [Mx,hop,I.idsE,seval])
 repeat refine sd ?_
 refine ⟨_,_,I.cu [_,_] (MY ok I g pc xt _ _ s1 h) Qj (fun m=>rfl) F9 (Ek B4) ⟨rfl,rfl⟩,?_⟩
 (simp only [Z0,I.idsE,seval])
 exact I.ret [_,_] (q:=I.k0) ⟨Nat.le_refl _,by have:=I.hk;omega⟩ hx Am B4 ⟨rfl,rfl,rfl⟩ (by (simp only [E9,seval])) (by (simp only [PJ,seval]))
theorem Lz (ok:OkQ M) (I:MemI M) (g:Nat→BitVec 64) (pc:BitVec 64) (xt:BitVec 64) (s:I.σ) (hz:I.Z s) (hpc:¬ 8192#64≤pc) (w:BitVec 64) (hw:(I.mm.rd s pc).1=w) (he:(I.mm.rd s pc).2.1=none) (s1:I.σ) (hs:(I.mm.rd s pc).2.2=s1) (hop:CP w=35) (h2:w >>> 32 &&& 255#64=0#64) (h3:wi (g (pF w 48)) 4#64=true) (h4:wi (g (pF w 44)) 8#64=true) (q:Hd × Option Int × I.σ) (hq:Tp I.mm 35 ⟨g,pc,false,xt⟩ s1 (g (pF w 48)) (g (pF w 44))=q) :
 Ag M 241 [AM g pc false xt,.ifc I.t (.ptr 0 [])] (I.E0 s) I.k0 (Q3 (Ah (q.1.v) (B7 (q.2.1))) (I.E (q.2.2) I.k0) (I.k0 + 1)):=by
 refine Ab ok.okN.k241 rfl fun x hx=>?_
 refine Bm.up (N':=32) F9 ?_
 have a1:=A5 w 52
 have a2:=A5 w 48
 have a3:=A5 w 44
 have a4:=A5 w 40
 have hL:I.len s1≤100:=EY
 obtain ⟨⟨g1,pc1,hl1,xt1⟩,e1,s2⟩:=q
 have hL1:I.len s1≤1:=EY
 refine es 2000 ?_;(simp only [M3,I.hdel0,hpc,seval])
 refine I.dynR0 [_,_] hz hpc B4 ?_
 rw [hw,he,hs]
 (simp only [Ij,seval])
 have zz:=@BB.eq_1;refine Ce (AO ok.ok.toOkV w Aa h2) ?_
 (simp only [Mx,hop,I.idsE,seval])
 repeat refine sd ?_
 refine ⟨_,_,I.ck [_,_] (OX ok I g pc xt _ _ s1 hL1 h3 h4 _ hq) Qj (ZA _ _ _ _ _) F9 (Ek B4) ⟨rfl,rfl⟩,?_⟩
 (simp only [Z0,Hd.v,I.idsE,seval])
 repeat refine sd ?_
 have hE:∀ H m z,Az H m z (B7 e1) (B7 e1):=fun H m z=>UW e1 H m z
 exact I.ret [_,_] (q:=I.k0) ⟨Nat.le_refl _,by have:=I.hk;omega⟩ hx Am B4 ⟨rfl,rfl,rfl⟩ (by (simp only [E9,hE,Mh,L4,seval])) (by (simp only [PJ,hE,Mh,L4,seval]))
structure Pf where
 v:BitVec 64
 p:List Dg
instance:Inhabited Pf:=⟨⟨0#64,[]⟩⟩
def Il (p:Pf):V:=.st 2 (.fcons 0 (W p.v) (.fcons 1 (.lst 32 p.p.length (Fk p.p)) .fnil))
def HC (l:List Pf) (i:Nat):V:=Il (l.getD i default)
structure Ck where
 root:Dg
 l:List Pf
 pre:Pr
def Ck.vv (c:Ck):V:=.st 97 (.fcons 0 (dg c.root) (.fcons 32 (.lst 2 c.l.length (HC c.l)) (.fcons 33 (Bk c.pre) .fnil)))
theorem Q5 (H:Hp) (m z:List Nat) (p:Pf):Az H m z (Il p) (Il p):=by simp only [Il,Fk,dg,LY,seval]
theorem Be (H:Hp) (m z:List Nat) (l:List Pf) (i:Nat):Az H m z (HC l i) (HC l i)=True:=eq_true (Q5 H m z _)
def Fs:=(Bb @J3 @Be)
theorem Ake (m:List Nat) (l:List Pf) (i:Nat):(HC l i).ren m=HC l i:=rfl
def Oh:=(Bb @NC @Ake)
structure OkCk (M:Seat):Prop where
 m0:AG M 426 0 599
 m1:AG M 426 1 600
 m2:AG M 426 2 598
theorem up1 {M:Seat} {f:Nat} {us:List V} {v:V} {H Hn:Hp} {k kn:Nat} (h:Ag M f us H k (Q3 v Hn kn)):Ag M f us H k (Q3 v Hn (kn + 1)):=by
 intro e vs h1 h2 h3
 refine (h e vs h1 h2 h3).mono ?_
 rintro en w' ⟨x,v,e',H',k',a,b,c,d,f,g,rfl,rfl,rfl⟩
 exact ⟨x,v,e',_,_,a,b,c,d,fun id hid=>f id Aa,by omega,rfl,rfl,rfl⟩
def Ag8:LC:=(sr [A1 2 (.mv (.c .nilp))] (.seq (sr [mt 3 0,A1 4 (.eq false true .ptr (.t 3) (.c .nilp))] (.cond (.t 4) (sr [A1 2 (.mv (.c .nilp))] .ret) .skip)) (.seq (.regd [⟨0,0,mt 5 0⟩,⟨1,1,nc 6 5⟩,⟨2,3,fa 7 0 6⟩,⟨3,7,lb 8 1 7⟩,⟨4,15,kl 9 276 [(.t 8)]⟩,⟨5,0,mt 10 0⟩,⟨6,32,nc 11 10⟩,⟨7,96,fa 12 1 11⟩,⟨8,224,lb 13 1 12⟩,⟨9,0,A1 14 (.mkmap (.ar 32 (.int .u8)) .bool)⟩,⟨10,1023,A1 15 (.build (.st (.cons .map (.cons .ptr (.cons .map (.cons .slice .nil))))) [(.f 0,1,(.t 9)),(.f 1,1,(.t 13)),(.f 2,1,(.t 14))])⟩,⟨11,2047,bX 16 15⟩,⟨12,4095,mt 2 16⟩]) .ret)))
def Ags:LF:=⟨Ag8,1,0,17,[.tmp 2]⟩
def Afn:LC:=(sr [A1 2 (.mv (.c .nilm))] (.seq (sr [mt 3 0,A1 4 (.eq false true (.nils 1) (.t 3) (.c .nilm))] (.cond (.t 4) (sr [A1 2 (.mv (.c .nilm))] .ret) .skip)) (sr [mt 5 0,A1 6 (.mkif 362 (.t 5)),A1 7 (.mclone (.t 6)),A1 8 (.tas 362 (.t 7)),mt 2 8] .ret)))
def Aey:LF:=⟨Afn,1,0,9,[.tmp 2]⟩
variable {M:Seat}
structure OkPr (M:Seat):Prop where
 k167:Au M 167 Ags=true
 k276:Au M 276 Aey=true
 k595:Au M 595 Ah5=true
 k596:Au M 596 ZT=true
 k597:Au M 597 Aff=true
 m0:AG M 422 0 596
 m1:AG M 422 1 597
 m2:AG M 422 2 595
def stP (va:V):V:=.st 4 (.fcons 0 (.map 3) (.fcons 1 (.ptr 4 []) (.fcons 2 (.map 5) (.fcons 3 va .fnil))))
def GL (lv:V) (pre:Pr):V:=.st 67 (.fcons 0 (.ptr 1 []) (.fcons 1 (.ptr 2 []) (.fcons 2 lv (.fcons 3 (Bk pre) .fnil))))
def Zz:=(C4 @AM.eq_1 @GL.eq_1 @stP.eq_1)
def Da (f:Nat→BitVec 64) (a:BitVec 64):Pf:=⟨f a.toNat,pth f a.toNat⟩
theorem Yk (f:Nat→BitVec 64) (i:Nat):(pth f i).length=13:=by simp [pth]
theorem YQ (f:Nat→BitVec 64) (i h:Nat) (hh:h < 13):(pth f i).getD h Dg.zero=Dp f h ((i / 2 ^ h) ^^^ 1):=by
 simp [pth,List.getD,hh]
theorem SF {α:Type} (g:α→V) (d:α) (l:List (Dg × α)) (t id n:Nat) (H:Hp):Te (BR g d l) t id n H=⟨Af H id=true,.ifc t (.map n),(n,BR g d l) :: H⟩:=rfl
theorem Aah (c:Bool) (i:Nat):AD c (.nils 1) (.map i) .nilm=True:=by simp [AD]
theorem Ac0 (i:Nat):AK (.nils 1) (.map i) .nilm=false:=rfl
theorem MH {H:Hp} {m z:List Nat} {id:Nat} (f:Nat→BitVec 64) (a:BitVec 64) (h1:Sj H z id=true) (h2:hget H id = .ar 32 13 fun h=>dg (Dp f h (a.toNat / 2 ^ h ^^^ 1))):Az H m z (Il (Da f a)) (.st 2 (.fcons 0 (W (f a.toNat)) (.fcons 1 (.sl id [] 0 13 32) .fnil))):=by
 simp only [Il,Da,Yk,Az,W,RF]
 refine ⟨h1,trivial,?_⟩
 rw [h2]
 simp only [V.get]
 refine ⟨trivial,by omega,fun i hi=>?_⟩
 have:Fk (pth f a.toNat) i=dg (Dp f i (a.toNat / 2 ^ i ^^^ 1)):=by rw [Fk,YQ f _ _ hi]
 rw [this,Nat.zero_add]
 exact (AU _ _ _ _ _).mpr rfl
theorem IG (ok:OkPr M) (l:List (Dg × Pr)) :
 Ag M 276 [.map 0] [(0,BR Bk Pr.zero l)] 1 (Q3 (.map 1) [(0,BR Bk Pr.zero l),(1,BR Bk Pr.zero l)] 2):=by
 refine Ab ok.k276 rfl fun x hx=>?_
 refine es 2000 ?_;(simp only [Aey,Afn,Aah,Ac0,SF,LZ,seval])
 have zz:=@J3;exact Bf hx [0,81] ⟨rfl,rfl,rfl⟩
theorem On (okA:OkM M) (ok:OkPr M) (f g:Nat→BitVec 64) (pc:BitVec 64) (hl:Bool) (xt:BitVec 64) (pre:Pr) (pres:List (Dg × Pr)) (q:Nat) (a:BitVec 64) (ha:¬ 8192#64≤a) :
 Ag M 596 [.ptr 0 [],W a] [(0,GL .nils pre),(1,A3 f g pc hl xt),(2,stP (.nils)),(3,BR Bk Pr.zero pres)] 6
  (Q3 (Ah (W (f a.toNat)) .nili) [(0,GL (.sl 6 [] 0 1 2) pre),(1,A3 f g pc hl xt),(2,stP (.nils)),(3,BR Bk Pr.zero pres),(6,.ar 2 1 (HC [Da f a]))] 7):=by
 refine Ab ok.k596 rfl fun x hx=>?_
 refine es 2000 ?_;(simp only [ZT,Acn,GL,LZ,seval])
 have zz:=Bb @W.eq_1 @A3.eq_1;refine Kb (Jz okA f g pc hl xt a.toNat (pfl a ha)) ?_
 (simp only [AH,seval])
 refine Ar.mk hx [0,1,2,3,4,5,502] [118] (Ah (W (f a.toNat)) .nili) [(0,GL (.sl 6 [] 0 1 2) pre),(1,A3 f g pc hl xt),(2,stP (.nils)),(3,BR Bk Pr.zero pres),(6,.ar 2 1 (HC [Da f a]))] 7 Am (by (simp only [CU,seval])) (by (simp only [OJ,seval])) ?_ ⟨rfl,rfl,rfl⟩
 simp only [GL,stP,Fz,seval,RF]
 intro i hi
 obtain rfl:i=0:=Aa
 exact MH f a B4 rfl
theorem KZ (okA:OkM M) (ok:OkPr M) (f g:Nat→BitVec 64) (pc:BitVec 64) (hl:Bool) (xt:BitVec 64) (pre:Pr) (pres:List (Dg × Pr)) (q:Nat) (l:List Pf) (hL:l.length≤100) (a:BitVec 64) (ha:¬ 8192#64≤a) :
 Ag M 596 [.ptr 0 [],W a] [(0,GL (.sl 6 [] 0 l.length 2) pre),(1,A3 f g pc hl xt),(2,stP (.nils)),(3,BR Bk Pr.zero pres),(6,.ar 2 l.length (HC l))] 7
  (Q3 (Ah (W (f a.toNat)) .nili) [(0,GL (.sl 7 [] 0 (l ++ [Da f a]).length 2) pre),(1,A3 f g pc hl xt),(2,stP (.nils)),(3,BR Bk Pr.zero pres),(7,.ar 2 (l ++ [Da f a]).length (HC (l ++ [Da f a])))] (7 + 1)):=by
 refine Ab ok.k596 rfl fun x hx=>?_
 refine es 2000 ?_;(simp only [ZT,Acn,GL,LZ,seval])
 have zz:=C4 @W.eq_1 @A3.eq_1 @Be;refine Kb (Jz okA f g pc hl xt a.toNat (pfl a ha)) ?_
 (simp only [AH,seval])
 repeat refine sd ?_
 refine Ar.mk hx [0,1,2,3,4,5,6,503] [119] (Ah (W (f a.toNat)) .nili) [(0,GL (.sl 7 [] 0 (l ++ [Da f a]).length 2) pre),(1,A3 f g pc hl xt),(2,stP (.nils)),(3,BR Bk Pr.zero pres),(7,.ar 2 (l ++ [Da f a]).length (HC (l ++ [Da f a])))] 8 Am (by (simp only [CU,seval])) (by (simp only [OJ,seval])) ?_ ⟨rfl,rfl,rfl⟩
 have e0:(l ++ [Da f a]).length=l.length + 1:=B5
 simp only [e0,GL,stP,Fz,seval,RF]
 intro i hi
 by_cases h:i < l.length
 ·rw [if_pos h]
  have:HC (l ++ [Da f a]) i=HC l i:=by simp only [HC,List.getD_eq_getElem?_getD,List.getElem?_append_left h]
  rw [this];exact (Be _ _ _ _ _).mpr trivial
 ·obtain rfl:i=l.length:=Aa
  have:HC (l ++ [Da f a]) l.length=Il (Da f a):=by simp only [HC,List.getD_eq_getElem?_getD,List.getElem?_append_right (Nat.le_refl _),Nat.sub_self];rfl
  rw [if_neg h,Nat.sub_self,if_pos rfl,this]
  exact MH f a B4 rfl
theorem Sz (okA:OkM M) (ok:OkPr M) (f g:Nat→BitVec 64) (pc:BitVec 64) (hl:Bool) (xt:BitVec 64) (pre:Pr) (pres:List (Dg × Pr)) (q:Nat) (l:List Pf) (hL:l.length≤100) (a v:BitVec 64) (ha:¬ 8192#64≤a) :
 Ag M 597 [.ptr 0 [],W a,W v] [(0,GL (.sl 6 [] 0 l.length 2) pre),(1,A3 f g pc hl xt),(2,stP (.nils)),(3,BR Bk Pr.zero pres),(6,.ar 2 l.length (HC l))] 7
  (Q3 .nili [(0,GL (.sl 7 [] 0 (l ++ [Da f a]).length 2) pre),(1,A3 (FI f a.toNat v) g pc hl xt),(2,stP (.nils)),(3,BR Bk Pr.zero pres),(7,.ar 2 (l ++ [Da f a]).length (HC (l ++ [Da f a])))] (7 + 1)):=by
 refine Ab ok.k597 rfl fun x hx=>?_
 have ha':=pfl a ha
 have hR:=KZ okA ok f g pc hl xt pre pres q l hL a ha
 generalize l ++ [Da f a]=l' at *
 refine es 2000 ?_;(simp only [Aff,Agb,LZ,seval])
 have zz:=Ka @GL.eq_1 @stP.eq_1 @A3.eq_1 Fs;refine Bw [0,1,2,3,4,5,6] [0,1,2,3,6] (hR) ?_
 (simp only [Oh,GL,stP,A3,seval])
 repeat refine sd ?_
 have zz:=Bb Zh Fs;exact Bf hx [0,1,2,3,4,5,6,55] ⟨rfl,rfl,rfl⟩
theorem Kd (ok:OkPr M) (q:Nat) (pres:List (Dg × Pr)) :
 Ag M 167 [.ptr 0 []] [(0,.st 4 (.fcons 0 (.map 1) (.fcons 1 (.ptr 2 []) (.fcons 2 (.map 3) (.fcons 3 (.nils) .fnil))))),(1,BR Bk Pr.zero pres)] 4
  (Q3 (.ptr 4 []) [(0,.st 4 (.fcons 0 (.map 1) (.fcons 1 (.ptr 2 []) (.fcons 2 (.map 3) (.fcons 3 (.nils) .fnil))))),(1,BR Bk Pr.zero pres),(4,.st 4 (.fcons 0 (.map 5) (.fcons 1 (.ptr 2 []) (.fcons 2 (.map 6) (.fcons 3 .nils .fnil))))),(5,BR Bk Pr.zero pres),(6,E8 [])] 7):=by
 refine Ab ok.k167 rfl fun x hx=>?_
 refine es 2000 ?_;(simp only [Ags,Ag8,LZ,seval])
 have zz:=@J3;refine omY [1] (IG ok pres) ?_
 (simp only [EE,seval])
 have zz:=Bb @E8.eq_1 @J3;exact Bf hx [0,1,2,3,228,324,196] ⟨rfl,rfl,rfl⟩
theorem Sd (ok:OkO M) (pres:List (Dg × Pr)) (h:Dg) :
 Ag M 328 [.ptr 0 [],dg h] [(0,.st 4 (.fcons 0 (.map 1) (.fcons 1 (.ptr 2 []) (.fcons 2 (.map 3) (.fcons 3 .nils .fnil))))),(1,BR Bk Pr.zero pres),(3,E8 [])] 4
  (Q3 (TS (Q7 h pres)) [(1,BR Bk Pr.zero pres)] 4):=by
 have hsv:∀ l:List (Dg × Bool),BR V.bool false l=E8 l:=fun _=>rfl
 have hn:Q7 h ([]:List (Dg × Bool))=none:=rfl
 refine Ab ok.k328 rfl fun x hx=>?_
 generalize ho:Q7 h pres=o at *
 cases o
 all_goals refine es 2000 ?_;(simp only [Aha,Agh,E8,ho,hn,EE,seval])
 all_goals refine Ar.mk hx [0,1,2,3] [] (TS _) [(1,BR Bk Pr.zero pres)] 4 Am (by simp only [Laj,NC,LTP,seval]) (by simp only [Laj,TS,NC,LTP,seval];simp only [Lc3,Fz,seval];try exact fun _ _=>rfl) ?_ ⟨rfl,rfl,rfl⟩
 all_goals simp only [Fz,seval]
def pgR (o:Option Pr):V:=match o with
 | some p=>Ah (Bk p) .nili
 | none=>Ah (Bk Pr.zero) (.ifc 74 (.int .i64 14))
def pgP (o:Option Pr):Pr:=match o with
 | some p=>p
 | none=>Pr.zero
theorem RN (ok:OkPr M) (okO:OkO M) (f g:Nat→BitVec 64) (pc:BitVec 64) (hl:Bool) (xt:BitVec 64) (pre:Pr) (pres:List (Dg × Pr)) (q:Nat) (l:List Pf) (h:Dg) :
 Ag M 595 [.ptr 0 [],dg h] [(0,GL (.sl 6 [] 0 l.length 2) pre),(1,A3 f g pc hl xt),(2,stP (.nils)),(3,BR Bk Pr.zero pres),(6,.ar 2 l.length (HC l))] 7
  (Q3 (pgR (Q7 h pres)) [(0,GL (.sl 6 [] 0 l.length 2) (pgP (Q7 h pres))),(1,A3 f g pc hl xt),(2,stP (.nils)),(3,BR Bk Pr.zero pres),(6,.ar 2 l.length (HC l))] 7):=by
 refine Ab ok.k595 rfl fun x hx=>?_
 have hC:=Kd ok q pres
 have hG:=Sd okO pres h
 refine es 2000 ?_;(simp only [Ah5,Ai0,GL,LZ,seval])
 have zz:=Bb @stP.eq_1 @J3;refine L9 [2,3,4,5] [2,3] (hC) ?_
 (simp only [stP,Iu,EE,seval])
 cases ho:Q7 h pres with
 | none =>
   rw [ho] at hG
   simp only [TS] at hG
   have zz:=Bb @Du @J3;refine L9 [327,328,4,329] [327,328,329] (hG) ?_
   (simp only [NC,Zl,seval])
   have zz:=SN @pgR.eq_1 @pgR.eq_2 @pgP.eq_1 @pgP.eq_2 @Ake Fs @stP.eq_1 Lc3 @LM;exact Bf hx [0,1,2,3,4,5,6] ⟨rfl,rfl,rfl⟩
 | some p =>
   rw [ho] at hG
   simp only [TS] at hG
   have zz:=Bb @Du @J3;refine L9 [327,328,4,329] [327,328,329] (hG) ?_
   (simp only [NC,Zl,seval])
   have zz:=XK @pgR.eq_1 @pgR.eq_2 @pgP.eq_1 @pgP.eq_2 @Ake Fs @stP.eq_1 @LM;exact Bf hx [0,1,2,3,4,5,6] ⟨rfl,rfl,rfl⟩
structure Ps where
 f:Nat→BitVec 64
 l:List Pf
 pre:Pr
def prR (s:Ps) (a:BitVec 64):BitVec 64 × Option Int × Ps:=(s.f a.toNat,none,⟨s.f,s.l ++ [Da s.f a],s.pre⟩)
def prW (s:Ps) (a v:BitVec 64):Option Int × Ps:=(none,⟨FI s.f a.toNat v,s.l ++ [Da s.f a],s.pre⟩)
def prP (pres:List (Dg × Pr)) (s:Ps) (h:Dg):Pr × Option Int × Ps:=match Q7 h pres with
 | some p=>(p,none,⟨s.f,s.l,p⟩)
 | none=>(Pr.zero,some 14,⟨s.f,s.l,Pr.zero⟩)
def SP (pres:List (Dg × Pr)):Mm Ps:=⟨prR,prW,prP pres⟩
theorem XY.no {b n i:Nat} {own:Hp} (ho:XY b n own) (h:i < 17 ∨ i=b ∨ n≤i):Af own i=false:=by
 cases hh:Af own i with
 | false=>rfl
 | true=>have:=ho i hh;omega
def Kp (g:Nat→BitVec 64) (pc:BitVec 64) (hl:Bool) (xt:BitVec 64) (pres:List (Dg × Pr)) (q:Nat) (s:Ps) (b:Nat):Hp :=
 [(0,GL (.sl b [] 0 s.l.length 2) s.pre),(1,A3 s.f g pc hl xt),(2,stP (.nils)),(3,BR Bk Pr.zero pres),(b,.ar 2 s.l.length (HC s.l))]
def Wr (g:Nat→BitVec 64) (pc:BitVec 64) (hl:Bool) (xt:BitVec 64) (pres:List (Dg × Pr)) (q:Nat) (s:Ps):Hp :=
 [(0,GL .nils s.pre),(1,A3 s.f g pc hl xt),(2,stP (.nils)),(3,BR Bk Pr.zero pres)]
theorem My (g:Nat→BitVec 64) (pc:BitVec 64) (hl:Bool) (xt:BitVec 64) (pres:List (Dg × Pr)) (q:Nat) (s:Ps) (b b':Nat) (H:Hp) (m z:List Nat) (hm:∀ i,i < 6→m[i]?=some i) (hb:m[b']?=some b)
 (hH:∀ i,Af (Kp g pc hl xt pres q s b) i=true→Af H i=true∧hget H i=hget (Kp g pc hl xt pres q s b) i) (hk:6≤b):Br H m z (Kp g pc hl xt pres q s b'):=by
 have n0:¬ 0=b:=Aa
 have n1:¬ 1=b:=Aa
 have n2:¬ 2=b:=Aa
 have n3:¬ 3=b:=Aa
 have h0:=hH 0 rfl
 have h1:=hH 1 rfl
 have h2:=hH 2 rfl
 have h3:=hH 3 rfl
 have h4:=hH b (by simp [Kp,Af])
 have g4:hget (Kp g pc hl xt pres q s b) b = .ar 2 s.l.length (HC s.l):=by simp only [Kp,hget,n0,n1,n2,n3,CL]
 rw [g4] at h4
 simp only [Kp,hget,if_true,seval] at h0 h1 h2 h3
 simp only [Kp,Br,hm 0 Aa,hm 1 Aa,hm 2 Aa,hm 3 Aa,hb,h0,h1,h2,h3,h4,RF]
 refine ⟨?_,IW ..,?_,?_,?_⟩
 ·simp only [GL,Az,hm 1 Aa,hm 2 Aa,hb,RF,Fu]
 ·simp only [stP,Az,hm 3 Aa,hm 4 Aa,hm 5 Aa,RF]
  try exact hm 6 Aa
 ·exact HW H m z Bk (fun x=>(Fu H m z x x).mpr rfl) Pr.zero pres
 ·simp only [Az,true_and]
  exact fun i _=>(Be H m z s.l i).mpr trivial
theorem Qt (g:Nat→BitVec 64) (pc:BitVec 64) (hl:Bool) (xt:BitVec 64) (pres:List (Dg × Pr)) (q:Nat) (s:Ps) (H:Hp) (m z:List Nat) (hm:∀ i,i < 6→m[i]?=some i)
 (hH:∀ i,Af (Wr g pc hl xt pres q s) i=true→Af H i=true∧hget H i=hget (Wr g pc hl xt pres q s) i):Br H m z (Wr g pc hl xt pres q s):=by
 have h0:=hH 0 rfl
 have h1:=hH 1 rfl
 have h2:=hH 2 rfl
 have h3:=hH 3 rfl
 simp only [Wr,hget,if_true,seval] at h0 h1 h2 h3
 simp only [Wr,Br,hm 0 Aa,hm 1 Aa,hm 2 Aa,hm 3 Aa,h0,h1,h2,h3,RF]
 refine ⟨?_,IW ..,?_,?_⟩
 ·simp only [GL,Az,hm 1 Aa,hm 2 Aa,RF,Fu]
 ·simp only [stP,Az,hm 3 Aa,hm 4 Aa,hm 5 Aa,RF]
  try exact hm 6 Aa
 ·exact HW H m z Bk (fun x=>(Fu H m z x x).mpr rfl) Pr.zero pres
theorem D3 (g:Nat→BitVec 64) (pc:BitVec 64) (hl:Bool) (xt:BitVec 64) (pres:List (Dg × Pr)) (q:Nat) (s:Ps) (b i:Nat) (h:Af (Kp g pc hl xt pres q s b) i=true):i < 4 ∨ i=b:=by
 simp only [Kp,Pi,beq_iff_eq,Bool.or_false] at h;omega
theorem Mr (g:Nat→BitVec 64) (pc:BitVec 64) (hl:Bool) (xt:BitVec 64) (pres:List (Dg × Pr)) (q:Nat) (s:Ps) (i:Nat) (h:Af (Wr g pc hl xt pres q s) i=true):i < 4:=by
 simp only [Wr,Pi,beq_iff_eq,Bool.or_false] at h;omega
theorem MX (g:Nat→BitVec 64) (pc:BitVec 64) (hl:Bool) (xt:BitVec 64) (pres:List (Dg × Pr)) (q:Nat) (s:Ps) (b:Nat) (hb:6≤b):A6 (Kp g pc hl xt pres q s b) [0,1,2,3,b]=[]:=by
 have n0:¬ b=0:=Aa
 have n1:¬ b=1:=Aa
 have n2:¬ b=2:=Aa
 have n3:¬ b=3:=Aa
 have n0':¬ 0=b:=Aa
 have n1':¬ 1=b:=Aa
 have n2':¬ 2=b:=Aa
 have n3':¬ 3=b:=Aa
 simp only [A6,Kp,BS,n0,n1,n2,n3,n0',n1',n2',n3',CL,seval]
theorem Uk {b:Nat} (hb:6≤b):([0,1,2,3,4,5,b]:List Nat).Nodup:=by
 rw [show ([0,1,2,3,4,5,b]:List Nat)=[0,1,2,3,4,5] ++ [b] from rfl,List.nodup_append]
 refine ⟨by decide,by simp,fun a ha c hc=>?_⟩
 simp only [Laq] at ha hc
 omega
def Acq {M:Seat} (okA:OkM M) (okO:OkO M) (ok:OkPr M) (g:Nat→BitVec 64) (pc:BitVec 64) (hl:Bool) (xt:BitVec 64) (pres:List (Dg × Pr)) (q:Nat):MemI M where
 σ:=Ps
 t:=422
 ht:=.inl rfl
 k0:=6
 kk:=7
 hk:=Aa
 E s b:=Kp g pc hl xt pres q s b
 E0 s:=Wr g pc hl xt pres q s
 mm:=SP pres
 Z s:=s.l=[]
 len s:=s.l.length
 lr s a:=by simp [SP,prR]
 lw s a v:=by simp [SP,prW]
 lp s h:=by show (prP pres s h).2.2.l.length≤_;unfold prP;split <;> exact Nat.le_refl _
 lz s h:=by simp [h]
 hids s b i h:=by rcases D3 g pc hl xt pres q s b i h with h | h <;> omega
 hids0 s i h:=by have:=Mr g pc hl xt pres q s i h;omega
 sim0 s H m z hm hH:=Qt g pc hl xt pres q s H m z hm hH
 simE s b b' H m z hk hm hb hH:=My g pc hl xt pres q s b b' H m z hm hb hH hk
 c0 {f us us' v s s'} own {n K} hr hus hv ho hK:=by
  refine DM (E':=Kp g pc hl xt pres q s' n) [0,1,2,3,4,5] [0,1,2,3] hr ?_ B5 Am ⟨rfl,by omega⟩ (fun i hi=>?_) ?_ (hus _ _ _ rfl) (Qt g pc hl xt pres q s _ _ _ (fun i hi=>?_) (Iy fun i hi=>ho.no (by have:=Mr g pc hl xt pres q s i hi;omega))) rfl rfl hv (fun i hi=>?_) hK
  ·intro id i h1 h2
   have h:=Mr g pc hl xt pres q s id h1
   have:id=0 ∨ id=1 ∨ id=2 ∨ id=3:=Aa
   rcases this with rfl | rfl | rfl | rfl <;> (obtain rfl:=Option.some.inj h2;simp)
  ·simp only [Laq] at hi
   rcases hi with rfl | rfl | rfl | rfl <;> exact ⟨rfl,ho.no Aa⟩
  ·exact fun i hi=>by
    have h:([0,1,2,3,4,5]:List Nat).all (fun i=>Af (Wr g pc hl xt pres q s) i || GJ [0,1,2,3] (Wr g pc hl xt pres q s) i)=true:=B4
    have:=List.all_eq_true.1 h i hi
    simpa using this
  ·have:i=0 ∨ i=1 ∨ i=2 ∨ i=3 ∨ i=4 ∨ i=5 ∨ (i=6∧6=7):=Aa
   rcases this with rfl | rfl | rfl | rfl | rfl | rfl | ⟨rfl,h⟩ <;> first | rfl | omega
  ·rcases D3 g pc hl xt pres q s' n i hi with h | h <;> exact ho.no Aa
 ck {f us us' v s s' b} own {n K} hr hus hv hb ho hK:=by
  have hids:∀ i,i ∈ ([0,1,2,3,b]:List Nat)→Af (Kp g pc hl xt pres q s b) i=true∧Af own i=false:=fun i hi=>by
   simp only [Laq] at hi
   rcases hi with rfl | rfl | rfl | rfl | rfl
   ·exact ⟨rfl,ho.no Aa⟩
   ·exact ⟨rfl,ho.no Aa⟩
   ·exact ⟨rfl,ho.no Aa⟩
   ·exact ⟨rfl,ho.no Aa⟩
   ·exact ⟨by simp [Kp,Af],ho.no Aa⟩
  refine DM (E':=Kp g pc hl xt pres q s' n) [0,1,2,3,4,5,b] [0,1,2,3,b] hr ?_ B5 (Uk hb) ⟨rfl,by omega⟩ hids ?_ (hus _ _ _ rfl) (My g pc hl xt pres q s b 6 _ _ _ (fun i hi=>?_) rfl (Iy fun i hi=>ho.no (by have:=D3 g pc hl xt pres q s b i hi;omega)) hb) rfl (MX g pc hl xt pres q s b hb) hv (fun i hi=>?_) hK
  ·intro id i h1 h2
   have h:=D3 g pc hl xt pres q s 6 id h1
   have:id=0 ∨ id=1 ∨ id=2 ∨ id=3 ∨ id=6:=Aa
   rcases this with rfl | rfl | rfl | rfl | rfl <;> (obtain rfl:=Option.some.inj h2;simp)
  ·intro i hi
   by_cases h5:i ∈ ([0,1,2,3,b]:List Nat)
   ·exact .inl (hids i h5).1
   ·right
    have hj:i=4 ∨ i=5 ∨ (i=6∧6=7):=by
     simp only [Laq] at hi h5
     omega
    refine List.any_eq_true.2 ⟨2,by simp,?_⟩
    rcases hj with rfl | rfl | ⟨rfl,h⟩ <;> first | rfl | omega
  ·have:i=0 ∨ i=1 ∨ i=2 ∨ i=3 ∨ i=4 ∨ i=5 ∨ (i=6∧6=7):=Aa
   rcases this with rfl | rfl | rfl | rfl | rfl | rfl | ⟨rfl,h⟩ <;> first | rfl | omega
  ·rcases D3 g pc hl xt pres q s' n i hi with h | h <;> exact ho.no Aa
 cu {f us us' v s s' b} own {n K} hr hus hv hb ho hK:=by
  have hids:∀ i,i ∈ ([0,1,2,3,b]:List Nat)→Af (Kp g pc hl xt pres q s b) i=true∧Af own i=false:=fun i hi=>by
   simp only [Laq] at hi
   rcases hi with rfl | rfl | rfl | rfl | rfl
   ·exact ⟨rfl,ho.no Aa⟩
   ·exact ⟨rfl,ho.no Aa⟩
   ·exact ⟨rfl,ho.no Aa⟩
   ·exact ⟨rfl,ho.no Aa⟩
   ·exact ⟨by simp [Kp,Af],ho.no Aa⟩
  refine DM (E':=Kp g pc hl xt pres q s' b) [0,1,2,3,4,5,b] [0,1,2,3,b] hr ?_ B5 (Uk hb) ⟨rfl,by omega⟩ hids ?_ (hus _ _ _ rfl) (My g pc hl xt pres q s b 6 _ _ _ (fun i hi=>?_) rfl (Iy fun i hi=>ho.no (by have:=D3 g pc hl xt pres q s b i hi;omega)) hb) rfl (MX g pc hl xt pres q s b hb) hv (fun i hi=>?_) hK
  ·intro id i h1 h2
   have h:=D3 g pc hl xt pres q s 6 id h1
   have:id=0 ∨ id=1 ∨ id=2 ∨ id=3 ∨ id=6:=Aa
   rcases this with rfl | rfl | rfl | rfl | rfl <;> (obtain rfl:=Option.some.inj h2;simp)
  ·intro i hi
   by_cases h5:i ∈ ([0,1,2,3,b]:List Nat)
   ·exact .inl (hids i h5).1
   ·right
    have hj:i=4 ∨ i=5 ∨ (i=6∧6=7):=by
     simp only [Laq] at hi h5
     omega
    refine List.any_eq_true.2 ⟨2,by simp,?_⟩
    rcases hj with rfl | rfl | ⟨rfl,h⟩ <;> first | rfl | omega
  ·have:i=0 ∨ i=1 ∨ i=2 ∨ i=3 ∨ i=4 ∨ i=5 ∨ (i=6∧6=7):=Aa
   rcases this with rfl | rfl | rfl | rfl | rfl | rfl | ⟨rfl,h⟩ <;> first | rfl | omega
  ·rcases D3 g pc hl xt pres q s' b i hi with h | h <;> exact ho.no Aa
 fr:=596
 fw:=597
 fp:=595
 mr:=ok.m0
 mw:=ok.m1
 mp:=ok.m2
 rr0 s a hz ha:=by
  obtain ⟨f,l,pre⟩:=s
  have hz:l=[]:=hz
  subst hz
  exact On okA ok f g pc hl xt pre pres q a ha
 rr s a hL ha:=KZ okA ok s.f g pc hl xt s.pre pres q s.l hL a ha
 rw s a v hL ha:=Sz okA ok s.f g pc hl xt s.pre pres q s.l hL a v ha
 rp s h:=by
  have hP:=RN ok okO s.f g pc hl xt s.pre pres q s.l h
  show Ag M 595 _ _ _ (Q3 (Ah (Bk (prP pres s h).1) (B7 (prP pres s h).2.1)) (Kp g pc hl xt pres q (prP pres s h).2.2 6) (7 + 1))
  refine up1 ?_
  unfold prP
  cases hk:Q7 h pres with
  | none=>rw [hk] at hP;exact hP
  | some p=>rw [hk] at hP;exact hP
end Mv
