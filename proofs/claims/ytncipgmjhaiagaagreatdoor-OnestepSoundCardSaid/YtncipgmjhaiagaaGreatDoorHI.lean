/- A part. -/
import Derived.Test.YtncipgmjhaiagaaGreatDoorHH
set_option linter.all false
set_option maxRecDepth 20000
set_option maxHeartbeats 4000000
namespace Mv
open Go
variable {M:Seat}
structure Pf where
 v:BitVec 64
 p:List Dg
instance:Inhabited Pf:=⟨⟨0#64,[]⟩⟩
def Ir (p:Pf):V:=.st 2 (.fcons 0 (W p.v) (.fcons 1 (.lst 32 p.p.length (Gc p.p)) .fnil))
def Dz (l:List Pf) (i:Nat):V:=Ir (l.getD i default)
structure Ck where
 root:Dg
 l:List Pf
 pre:Pr
def Ck.vv (c:Ck):V:=.st 97 (.fcons 0 (dg c.root) (.fcons 32 (.lst 2 c.l.length (Dz c.l)) (.fcons 33 (At c.pre) .fnil)))
theorem N4 (H:Hp) (m z:List Nat) (p:Pf):Aw H m z (Ir p) (Ir p):=by simp only [Ir,Gc,dg,LY,seval]
theorem Ca (H:Hp) (m z:List Nat) (l:List Pf) (i:Nat):Aw H m z (Dz l i) (Dz l i)=True:=eq_true (N4 H m z _)
def Mt:=(aq2 @C6 @Ca)
def Jl:=(aq2 @Fq @Ca)
theorem Fb (H:Hp) (m z:List Nat) (c:Ck):Aw H m z c.vv c.vv:=by simp only [Ck.vv,Jl,LY,seval]
theorem H3 (m:List Nat) (l:List Pf) (i:Nat):(Dz l i).ren m=Dz l i:=rfl
def LW:=(aq2 @Gw @H3)
theorem Th (m:List Nat) (c:Ck):c.vv.ren m=c.vv:=rfl
structure OkCk (M:Seat):Prop where
 k598:Al M 598 Ab8=true
 k599:Al M 599 Uc=true
 k600:Al M 600 Au3=true
 k601:Al M 601 Aco=true
 m0:Cs M 426 0 599
 m1:Cs M 426 1 600
 m2:Cs M 426 2 598
theorem IZ (ok:OkM M) (d:Dg) (i:BitVec 64) (hi:¬ 8192#64≤i) (p:Pf) (hn:¬ p.p.length=13) :
 Af M 53 [dg d,W i,Ir p] [] 0 (Q3 (Ao (.bool false) (Cw (some 3))) [] 0):=by
 refine Ac ok.k53 rfl fun x hx=>?_
 have hn':((p.p.length:Int)=13)=False:=eq_false Aa
 refine es 2000 ?_;(simp only [f53,c53,eq_false hi,hn',Ir,LZ,seval])
 simp only [Av]
 refine Aq.mk hx [] [] (Ao (.bool false) (.ifc 74 (.int .i64 3))) [] 0 Ak (by (simp only [Fk,seval])) (by (try simp only [IT,seval]) <;> exact q2) trivial ⟨rfl,rfl,rfl⟩
theorem OC (ok:OkM M) (d:Dg) (i:BitVec 64) (hi:¬ 8192#64≤i) (p:Pf) (hn:¬ p.p.length=13) (u:BitVec 64) :
 Af M 52 [dg d,W i,Ir p,W u] [] 0 (Q3 (Ao (dg Dg.zero) (Cw (some 3))) [] 0):=by
 refine Ac ok.k52 rfl fun x hx=>?_
 refine es 2000 ?_;(simp only [f52,c52,Ir,LZ,seval])
 have zz:=aq4 @Ir.eq_1 @Av @Gc.eq_1 @dg.eq_1;refine CI (IZ ok d i hi p hn) ?_
 (simp only [Cb,Av,Yf,seval])
 refine Aq.mk hx [] [] (Ao (dg Dg.zero) (.ifc 74 (.int .i64 3))) [] 0 Ak (by (simp only [Fk,seval])) (by (try simp only [IT,seval]) <;> exact q2) trivial ⟨rfl,rfl,rfl⟩
theorem Tg {p:Pf} (h:p.p.length=13):Ir p = .st 2 (.fcons 0 (W p.v) (.fcons 1 (.lst 32 13 (Gc p.p)) .fnil)):=by rw [Ir,h]
theorem O4 (ok:OkM M) (root:Dg) (i:BitVec 64) (hi:i.toNat < 8192) (p:Pf) (hp:p.p.length=13) (hh:¬ BZ i.toNat (B5 p.v) p.p 13=root) (u:BitVec 64) :
 Af M 52 [dg root,W i,Ir p,W u] [] 0 (Q3 (Ao (dg Dg.zero) (Cw (some 31))) [] 0):=by
 refine Ac ok.k52 rfl fun x hx=>?_
 rw [Tg hp]
 refine es 2000 ?_;(simp only [f52,c52,LZ,seval])
 have zz:=aq3 @W.eq_1 @Gc.eq_1 @dg.eq_1;refine CI (EI ok root i.toNat hi p.v p.p hp) ?_
 (simp only [Cb,Av,Yf,eq_false hh,seval])
 refine Aq.mk hx [] [] (Ao (dg Dg.zero) (.ifc 74 (.int .i64 31))) [] 0 Ak (by (simp only [Fk,seval])) (by (try simp only [IT,seval]) <;> exact q2) trivial ⟨rfl,rfl,rfl⟩
theorem KQ (ok:OkCk M) (root:Dg) (pre:Pr) :
 Af M 601 [.ptr 0 []] [(0,(⟨root,[],pre⟩:Ck).vv)] 1 (Q3 (Ao (.st 2 (.fcons 0 (W 0#64) (.fcons 1 .nils .fnil))) (Cw (some 3))) [(0,(⟨root,[],pre⟩:Ck).vv)] 1):=by
 refine Ac ok.k601 rfl fun x hx=>?_
 refine es 2000 ?_;(simp only [Aco,Aet,Ck.vv,List.length_nil,LZ,seval])
 have zz:=aq2 Jl @Av;exact Bg hx [0] ⟨rfl,rfl,rfl⟩
theorem Kh (ok:OkCk M) (root:Dg) (pre:Pr) (p:Pf) (l:List Pf) :
 Af M 601 [.ptr 0 []] [(0,(⟨root,p :: l,pre⟩:Ck).vv)] 1 (Q3 (Ao (Ir p) .nili) [(0,(⟨root,l,pre⟩:Ck).vv)] 1):=by
 refine Ac ok.k601 rfl fun x hx=>?_
 have e0:(((l.length + 1:Nat):Int)=0)=False:=eq_false Aa
 have e1:Dz (p :: l) 0=Ir p:=rfl
 have e2:l.length + 1 - 1=l.length:=rfl
 have e3:∀ i,Dz (p :: l) (1 + i)=Dz l i:=fun i=>by rw [Nat.add_comm];rfl
 refine es 2000 ?_;(simp only [Aco,Aet,Ck.vv,List.length_cons,e0,e1,e2,e3,Ir,LZ,seval])
 repeat refine sd ?_
 have zz:=aq2 Jl @Gc.eq_1;exact Bg hx [0] ⟨rfl,rfl,rfl⟩
def Ve (c:Ck) (a:BitVec 64):BitVec 64 × Option Int × Ck :=
 match c with
 | ⟨root,[],pre⟩=>(0#64,some 3,⟨root,[],pre⟩)
 | ⟨root,p :: l,pre⟩=>(p.v,if ¬ p.p.length=13 then some 3 else if BZ a.toNat (B5 p.v) p.p 13=root then none else some 31,⟨root,l,pre⟩)
def VI (c:Ck) (a v:BitVec 64):Option Int × Ck :=
 match c with
 | ⟨root,[],pre⟩=>(some 3,⟨root,[],pre⟩)
 | ⟨root,p :: l,pre⟩=>if ¬ p.p.length=13 then (some 3,⟨root,l,pre⟩) else if BZ a.toNat (B5 p.v) p.p 13=root then (none,⟨BZ a.toNat (B5 v) p.p 13,l,pre⟩) else (some 31,⟨root,l,pre⟩)
def ckP (c:Ck) (h:Dg):Pr × Option Int × Ck:=if B9 c.pre.at=h then (c.pre,none,c) else (Pr.zero,some 31,c)
def Ix:Mm Ck:=⟨Ve,VI,ckP⟩
theorem OA (okA:OkM M) (ok:OkCk M) (c:Ck) (a:BitVec 64) (ha:¬ 8192#64≤a) :
 Af M 599 [.ptr 0 [],W a] [(0,c.vv)] 1 (Q3 (Ao (W (Ve c a).1) (Cw (Ve c a).2.1)) [(0,(Ve c a).2.2.vv)] 1):=by
 refine Ac ok.k599 rfl fun x hx=>?_
 obtain ⟨root,l,pre⟩:=c
 cases l with
 | nil =>
   refine es 2000 ?_;(simp only [Uc,XK,LZ,seval])
   have zz:=aq2 @Ck.vv.eq_1 Jl;refine IJ [0] [0] (KQ ok root pre) ?_
   (simp only [Th,Av,Cb,seval])
   simp only [Ve,Av]
   have zz:=@Fb;exact Bg hx [0] ⟨rfl,rfl,rfl⟩
 | cons p l =>
   have h:=Kh ok root pre p l
   by_cases hp:p.p.length=13
   ·by_cases hf:BZ a.toNat (B5 p.v) p.p 13=root
    ·simp only [Ve,hp,hf,Vj,Bz]
     rw [Tg hp] at h
     refine es 2000 ?_;(simp only [Uc,XK,LZ,seval])
     have zz:=aq2 @Ck.vv.eq_1 Jl;refine IJ [0] [0] (h) ?_
     (simp only [LW,Ck.vv,seval])
     have zz:=aq3 @W.eq_1 @Gc.eq_1 @dg.eq_1;refine Gy (EI okA root a.toNat (Ql a ha) p.v p.p hp) ?_
     (simp only [Cb,eq_true hf,seval])
     have zz:=aq2 Mt @dg.eq_1;exact Bg hx [0] ⟨rfl,rfl,rfl⟩
    ·simp only [Ve,hp,hf,not_true_eq_false,if_false,Av]
     rw [Tg hp] at h
     refine es 2000 ?_;(simp only [Uc,XK,LZ,seval])
     have zz:=aq2 @Ck.vv.eq_1 Jl;refine IJ [0] [0] (h) ?_
     (simp only [LW,Ck.vv,seval])
     have zz:=aq3 @W.eq_1 @Gc.eq_1 @dg.eq_1;refine Gy (EI okA root a.toNat (Ql a ha) p.v p.p hp) ?_
     (simp only [Cb,eq_false hf,seval])
     have zz:=aq2 Mt @dg.eq_1;exact Bg hx [0] ⟨rfl,rfl,rfl⟩
   ·simp only [Ve,hp,not_false_eq_true,if_true,Av]
    refine es 2000 ?_;(simp only [Uc,XK,LZ,seval])
    have zz:=aq2 @Ck.vv.eq_1 Jl;refine IJ [0] [0] (h) ?_
    (simp only [LW,Ck.vv,Ir,seval])
    have zz:=aq4 @Ir.eq_1 @Gc.eq_1 @dg.eq_1 @Av;refine Gy (IZ okA root a ha p hp) ?_
    (simp only [Cb,Av,seval])
    have zz:=aq2 Mt @dg.eq_1;exact Bg hx [0] ⟨rfl,rfl,rfl⟩
theorem Xd (okA:OkM M) (ok:OkCk M) (c:Ck) (a v:BitVec 64) (ha:¬ 8192#64≤a) :
 Af M 600 [.ptr 0 [],W a,W v] [(0,c.vv)] 1 (Q3 (Cw (VI c a v).1) [(0,(VI c a v).2.vv)] 1):=by
 refine Ac ok.k600 rfl fun x hx=>?_
 obtain ⟨root,l,pre⟩:=c
 cases l with
 | nil =>
   refine es 2000 ?_;(simp only [Au3,Vu,LZ,seval])
   have zz:=aq2 @Ck.vv.eq_1 Jl;refine IJ [0] [0] (KQ ok root pre) ?_
   (simp only [Th,Av,Cb,seval])
   simp only [VI,Av]
   have zz:=@Fb;exact Bg hx [0] ⟨rfl,rfl,rfl⟩
 | cons p l =>
   have h:=Kh ok root pre p l
   by_cases hp:p.p.length=13
   ·by_cases hf:BZ a.toNat (B5 p.v) p.p 13=root
    ·simp only [VI,hp,hf,Vj,Bz]
     rw [Tg hp] at h
     refine es 2000 ?_;(simp only [Au3,Vu,LZ,seval])
     have zz:=aq2 @Ck.vv.eq_1 Jl;refine IJ [0] [0] (h) ?_
     (simp only [LW,Ck.vv,seval])
     have zz:=aq3 @W.eq_1 @Gc.eq_1 @dg.eq_1;refine Gy (Qq okA root a.toNat (Ql a ha) p.v p.p hp hf v) ?_
     (simp only [Cb,seval])
     have zz:=aq2 Mt @dg.eq_1;exact Bg hx [0] ⟨rfl,rfl,rfl⟩
    ·simp only [VI,hp,hf,not_true_eq_false,if_false,Av]
     refine es 2000 ?_;(simp only [Au3,Vu,LZ,seval])
     have zz:=aq2 @Ck.vv.eq_1 Jl;refine IJ [0] [0] (h) ?_
     (simp only [LW,Ck.vv,Ir,seval])
     have zz:=aq5 @W.eq_1 @Ir.eq_1 @Gc.eq_1 @dg.eq_1 @Av;refine Gy (O4 okA root a (Ql a ha) p hp hf v) ?_
     (simp only [Cb,Av,seval])
     have zz:=aq2 Mt @dg.eq_1;exact Bg hx [0] ⟨rfl,rfl,rfl⟩
   ·simp only [VI,hp,not_false_eq_true,if_true,Av]
    refine es 2000 ?_;(simp only [Au3,Vu,LZ,seval])
    have zz:=aq2 @Ck.vv.eq_1 Jl;refine IJ [0] [0] (h) ?_
    (simp only [LW,Ck.vv,Ir,seval])
    have zz:=aq4 @Ir.eq_1 @Gc.eq_1 @dg.eq_1 @Av;refine Gy (OC okA root a ha p hp v) ?_
    (simp only [Cb,Av,seval])
    have zz:=aq2 Mt @dg.eq_1;exact Bg hx [0] ⟨rfl,rfl,rfl⟩
theorem X3 (okA:OkM M) (okH:OkH M) (ok:OkCk M) (c:Ck) (h:Dg) :
 Af M 598 [.ptr 0 [],dg h] [(0,c.vv)] 1 (Q3 (Ao (At (ckP c h).1) (Cw (ckP c h).2.1)) [(0,(ckP c h).2.2.vv)] 1):=by
 refine Ac ok.k598 rfl fun x hx=>?_
 obtain ⟨root,l,pre⟩:=c
 have hs:∀ q:Pr,CB okA okH q.at=CB okA okH q.at:=fun _=>rfl
 by_cases hd:B9 pre.at=h
 ·simp only [ckP,hd,if_true,Bz]
  refine es 2000 ?_;(simp only [Ab8,Ai1,Ck.vv,BA,seval])
  have zz:=@At.eq_1;refine Gy (CB okA okH pre.at) ?_
  (simp only [hd,BA,seval])
  have zz:=aq3 Mt @dg.eq_1 @LM;exact Bg hx [0] ⟨rfl,rfl,rfl⟩
 ·simp only [ckP,hd,if_false,Av]
  refine es 2000 ?_;(simp only [Ab8,Ai1,Ck.vv,BA,seval])
  have zz:=@At.eq_1;refine Gy (CB okA okH pre.at) ?_
  (simp only [eq_false hd,BA,SD,seval])
  have zz:=aq3 Mt @dg.eq_1 @LM;exact Bg hx [0] ⟨rfl,rfl,rfl⟩
theorem up1 {f:Nat} {us:List V} {v:V} {H Hn:Hp} {k kn:Nat} (h:Af M f us H k (Q3 v Hn kn)):Af M f us H k (Q3 v Hn (kn + 1)):=by
 intro e vs h1 h2 h3
 refine (h e vs h1 h2 h3).mono ?_
 rintro en w' ⟨x,v,e',H',k',a,b,c,d,f,g,rfl,rfl,rfl⟩
 exact ⟨x,v,e',_,_,a,b,c,d,fun id hid=>f id Aa,by omega,rfl,rfl,rfl⟩
def ckI (okA:OkM M) (okH:OkH M) (ok:OkCk M):MemI M where
 σ:=Ck
 t:=426
 ht:=.inr rfl
 k0:=1
 kk:=1
 hk:=Aa
 E c _:=[(0,c.vv)]
 E0 c:=[(0,c.vv)]
 mm:=Ix
 Z _:=True
 len _:=0
 lr _ _:=Nat.zero_le _
 lw _ _ _:=Nat.zero_le _
 lp _ _:=Nat.zero_le _
 lz _ _:=rfl
 hids s b i h:=by simp [Ae] at h;omega
 hids0 s i h:=by simp [Ae] at h;omega
 sim0 s H m z hm hH:=by
  obtain ⟨h1,h2⟩:=hH 0 rfl
  simp only [Bk,hm 0 Aa,h1,h2,Ld]
  exact Fb _ _ _ _
 simE s b b' H m z _ hm _ hH:=by
  obtain ⟨h1,h2⟩:=hH 0 rfl
  simp only [Bk,hm 0 Aa,h1,h2,Ld]
  exact Fb _ _ _ _
 c0 {f us us' v s s'} own {n K} hr hus hv ho hK:=by
  have h0:Ae own 0=false:=by
   cases hh:Ae own 0 with
   | false=>rfl
   | true=>have:=(ho 0 hh).1;omega
  refine CR (E':=[(0,s'.vv)]) [0] [0] hr zq9 Bu Bu ⟨rfl,by omega⟩ (by simp [Ae,h0]) (by simp [Ae]) (hus _ _ _ rfl) ?_ rfl rfl hv (fun i hi=>?_) hK
  ·refine ⟨⟨by rw [AX];simp [Ae],?_⟩,trivial⟩
   rw [AO h0]
   exact Fb _ _ _ _
  ·simp [Ae] at hi;subst hi;exact h0
 ck {f us us' v s s' b} own {n K} hr hus hv _ ho hK:=by
  have h0:Ae own 0=false:=by
   cases hh:Ae own 0 with
   | false=>rfl
   | true=>have:=(ho 0 hh).1;omega
  refine CR (E':=[(0,s'.vv)]) [0] [0] hr zq9 Bu Bu ⟨rfl,by omega⟩ (by simp [Ae,h0]) (by simp [Ae]) (hus _ _ _ rfl) ?_ rfl rfl hv (fun i hi=>?_) hK
  ·refine ⟨⟨by rw [AX];simp [Ae],?_⟩,trivial⟩
   rw [AO h0]
   exact Fb _ _ _ _
  ·simp [Ae] at hi;subst hi;exact h0
 cu {f us us' v s s' b} own {n K} hr hus hv _ ho hK:=by
  have h0:Ae own 0=false:=by
   cases hh:Ae own 0 with
   | false=>rfl
   | true=>have:=(ho 0 hh).1;omega
  refine CR (E':=[(0,s'.vv)]) [0] [0] hr zq9 Bu Bu ⟨rfl,by omega⟩ (by simp [Ae,h0]) (by simp [Ae]) (hus _ _ _ rfl) ?_ rfl rfl hv (fun i hi=>?_) hK
  ·refine ⟨⟨by rw [AX];simp [Ae],?_⟩,trivial⟩
   rw [AO h0]
   exact Fb _ _ _ _
  ·simp [Ae] at hi;subst hi;exact h0
 fr:=599
 fw:=600
 fp:=598
 mr:=ok.m0
 mw:=ok.m1
 mp:=ok.m2
 rr0 s a _ ha:=up1 (OA okA ok s a ha)
 rr s a _ ha:=up1 (OA okA ok s a ha)
 rw s a v _ ha:=up1 (Xd okA ok s a v ha)
 rp s h:=up1 (X3 okA okH ok s h)
def Agh:LC:=(sr [A1 2 (.mv (.c .nilp))] (.seq (sr [mt 3 0,A1 4 (.eq false true .ptr (.t 3) (.c .nilp))] (.cond (.t 4) (sr [A1 2 (.mv (.c .nilp))] .ret) .skip)) (.seq (.regd [⟨0,0,mt 5 0⟩,⟨1,1,nc 6 5⟩,⟨2,3,fa 7 0 6⟩,⟨3,7,lb 8 1 7⟩,⟨4,15,kl 9 276 [(.t 8)]⟩,⟨5,0,mt 10 0⟩,⟨6,32,nc 11 10⟩,⟨7,96,fa 12 1 11⟩,⟨8,224,lb 13 1 12⟩,⟨9,0,A1 14 (.mkmap (.ar 32 (.int .u8)) .bool)⟩,⟨10,1023,A1 15 (.build (.st (.cons .map (.cons .ptr (.cons .map (.cons .slice .nil))))) [(.f 0,1,(.t 9)),(.f 1,1,(.t 13)),(.f 2,1,(.t 14))])⟩,⟨11,2047,bX 16 15⟩,⟨12,4095,mt 2 16⟩]) .ret)))
def YS:LF:=⟨Agh,1,0,17,[.tmp 2]⟩
def Ak5:LC:=(sr [A1 2 (.mv (.c .nilm))] (.seq (sr [mt 3 0,A1 4 (.eq false true (.nils 1) (.t 3) (.c .nilm))] (.cond (.t 4) (sr [A1 2 (.mv (.c .nilm))] .ret) .skip)) (sr [mt 5 0,A1 6 (.mkif 362 (.t 5)),A1 7 (.mclone (.t 6)),A1 8 (.tas 362 (.t 7)),mt 2 8] .ret)))
def Afp:LF:=⟨Ak5,1,0,9,[.tmp 2]⟩
variable {M:Seat}
structure OkPr (M:Seat):Prop where
 k167:Al M 167 YS=true
 k276:Al M 276 Afp=true
 k595:Al M 595 Ach=true
 k596:Al M 596 U4=true
 k597:Al M 597 Ab5=true
 m0:Cs M 422 0 596
 m1:Cs M 422 1 597
 m2:Cs M 422 2 595
def CU (va:V):V:=.st 4 (.fcons 0 (.map 3) (.fcons 1 (.ptr 4 []) (.fcons 2 (.map 5) (.fcons 3 va .fnil))))
def Dc (lv:V) (pre:Pr):V:=.st 67 (.fcons 0 (.ptr 1 []) (.fcons 1 (.ptr 2 []) (.fcons 2 lv (.fcons 3 (At pre) .fnil))))
def Qi:=(aq3 @AU.eq_1 @Dc.eq_1 @CU.eq_1)
def Bf (f:Nat→BitVec 64) (a:BitVec 64):Pf:=⟨f a.toNat,Xs f a.toNat⟩
theorem EW (f:Nat→BitVec 64) (i:Nat):(Xs f i).length=13:=by simp [Xs]
theorem Aba (f:Nat→BitVec 64) (i h:Nat) (hh:h < 13):(Xs f i).getD h Dg.zero=Bm f h ((i / 2 ^ h) ^^^ 1):=by
 simp [Xs,List.getD,hh]
theorem UI {α:Type} (g:α→V) (d:α) (l:List (Dg × α)) (t id n:Nat) (H:Hp):XW (Bv g d l) t id n H=⟨Ae H id=true,.ifc t (.map n),(n,Bv g d l) :: H⟩:=rfl
theorem Aic (c:Bool) (i:Nat):AH c (.nils 1) (.map i) .nilm=True:=by simp [AH]
theorem Aho (i:Nat):AN (.nils 1) (.map i) .nilm=false:=rfl
theorem Hv {H:Hp} {m z:List Nat} {id:Nat} (f:Nat→BitVec 64) (a:BitVec 64) (h1:Ux H z id=true) (h2:hget H id = .ar 32 13 fun h=>dg (Bm f h (a.toNat / 2 ^ h ^^^ 1))):Aw H m z (Ir (Bf f a)) (.st 2 (.fcons 0 (W (f a.toNat)) (.fcons 1 (.sl id [] 0 13 32) .fnil))):=by
 simp only [Ir,Bf,EW,Aw,W,Ld]
 refine ⟨h1,trivial,?_⟩
 rw [h2]
 simp only [V.get]
 refine ⟨trivial,by omega,fun i hi=>?_⟩
 have:Gc (Xs f a.toNat) i=dg (Bm f i (a.toNat / 2 ^ i ^^^ 1)):=by rw [Gc,Aba f _ _ hi]
 rw [this,Nat.zero_add]
 exact (AJ _ _ _ _ _).mpr rfl
theorem F7 (ok:OkPr M) (l:List (Dg × Pr)) :
 Af M 276 [.map 0] [(0,Bv At Pr.zero l)] 1 (Q3 (.map 1) [(0,Bv At Pr.zero l),(1,Bv At Pr.zero l)] 2):=by
 refine Ac ok.k276 rfl fun x hx=>?_
 refine es 2000 ?_;(simp only [Afp,Ak5,Aic,Aho,UI,LZ,seval])
 have zz:=@C6;exact Bg hx [0,81] ⟨rfl,rfl,rfl⟩
theorem QV (okA:OkM M) (ok:OkPr M) (f g:Nat→BitVec 64) (pc:BitVec 64) (hl:Bool) (xt:BitVec 64) (pre:Pr) (pres:List (Dg × Pr)) (q:Nat) (a:BitVec 64) (ha:¬ 8192#64≤a) :
 Af M 596 [.ptr 0 [],W a] [(0,Dc .nils pre),(1,mach f g pc hl xt),(2,CU (.nils)),(3,Bv At Pr.zero pres)] 6
  (Q3 (Ao (W (f a.toNat)) .nili) [(0,Dc (.sl 6 [] 0 1 2) pre),(1,mach f g pc hl xt),(2,CU (.nils)),(3,Bv At Pr.zero pres),(6,.ar 2 1 (Dz [Bf f a]))] 7):=by
 refine Ac ok.k596 rfl fun x hx=>?_
 refine es 2000 ?_;(simp only [U4,Xx,Dc,LZ,seval])
 have zz:=aq2 @W.eq_1 @mach.eq_1;refine El (ED okA f g pc hl xt a.toNat (Ql a ha)) ?_
 (simp only [Cb,seval])
 refine Aq.mk hx [0,1,2,3,4,5,502] [118] (Ao (W (f a.toNat)) .nili) [(0,Dc (.sl 6 [] 0 1 2) pre),(1,mach f g pc hl xt),(2,CU (.nils)),(3,Bv At Pr.zero pres),(6,.ar 2 1 (Dz [Bf f a]))] 7 Ak (by (simp only [Fk,seval])) (by (simp only [IT,seval])) ?_ ⟨rfl,rfl,rfl⟩
 simp only [Dc,CU,CF,seval,Ld]
 intro i hi
 obtain rfl:i=0:=Aa
 exact Hv f a Bx rfl
theorem LI (okA:OkM M) (ok:OkPr M) (f g:Nat→BitVec 64) (pc:BitVec 64) (hl:Bool) (xt:BitVec 64) (pre:Pr) (pres:List (Dg × Pr)) (q:Nat) (l:List Pf) (hL:l.length≤100) (a:BitVec 64) (ha:¬ 8192#64≤a) :
 Af M 596 [.ptr 0 [],W a] [(0,Dc (.sl 6 [] 0 l.length 2) pre),(1,mach f g pc hl xt),(2,CU (.nils)),(3,Bv At Pr.zero pres),(6,.ar 2 l.length (Dz l))] 7
  (Q3 (Ao (W (f a.toNat)) .nili) [(0,Dc (.sl 7 [] 0 (l ++ [Bf f a]).length 2) pre),(1,mach f g pc hl xt),(2,CU (.nils)),(3,Bv At Pr.zero pres),(7,.ar 2 (l ++ [Bf f a]).length (Dz (l ++ [Bf f a])))] (7 + 1)):=by
 refine Ac ok.k596 rfl fun x hx=>?_
 refine es 2000 ?_;(simp only [U4,Xx,Dc,LZ,seval])
 have zz:=aq3 @W.eq_1 @mach.eq_1 @Ca;refine El (ED okA f g pc hl xt a.toNat (Ql a ha)) ?_
 (simp only [Cb,seval])
 repeat refine sd ?_
 refine Aq.mk hx [0,1,2,3,4,5,6,503] [119] (Ao (W (f a.toNat)) .nili) [(0,Dc (.sl 7 [] 0 (l ++ [Bf f a]).length 2) pre),(1,mach f g pc hl xt),(2,CU (.nils)),(3,Bv At Pr.zero pres),(7,.ar 2 (l ++ [Bf f a]).length (Dz (l ++ [Bf f a])))] 8 Ak (by (simp only [Fk,seval])) (by (simp only [IT,seval])) ?_ ⟨rfl,rfl,rfl⟩
 have e0:(l ++ [Bf f a]).length=l.length + 1:=Bu
 simp only [e0,Dc,CU,CF,seval,Ld]
 intro i hi
 by_cases h:i < l.length
 ·rw [if_pos h]
  have:Dz (l ++ [Bf f a]) i=Dz l i:=by simp only [Dz,List.getD_eq_getElem?_getD,List.getElem?_append_left h]
  rw [this];exact (Ca _ _ _ _ _).mpr trivial
 ·obtain rfl:i=l.length:=Aa
  have:Dz (l ++ [Bf f a]) l.length=Ir (Bf f a):=by simp only [Dz,List.getD_eq_getElem?_getD,List.getElem?_append_right (Nat.le_refl _),Nat.sub_self];rfl
  rw [if_neg h,Nat.sub_self,if_pos rfl,this]
  exact Hv f a Bx rfl
theorem Uh (okA:OkM M) (ok:OkPr M) (f g:Nat→BitVec 64) (pc:BitVec 64) (hl:Bool) (xt:BitVec 64) (pre:Pr) (pres:List (Dg × Pr)) (q:Nat) (l:List Pf) (hL:l.length≤100) (a v:BitVec 64) (ha:¬ 8192#64≤a) :
 Af M 597 [.ptr 0 [],W a,W v] [(0,Dc (.sl 6 [] 0 l.length 2) pre),(1,mach f g pc hl xt),(2,CU (.nils)),(3,Bv At Pr.zero pres),(6,.ar 2 l.length (Dz l))] 7
  (Q3 .nili [(0,Dc (.sl 7 [] 0 (l ++ [Bf f a]).length 2) pre),(1,mach (E9 f a.toNat v) g pc hl xt),(2,CU (.nils)),(3,Bv At Pr.zero pres),(7,.ar 2 (l ++ [Bf f a]).length (Dz (l ++ [Bf f a])))] (7 + 1)):=by
 refine Ac ok.k597 rfl fun x hx=>?_
 have ha':=Ql a ha
 have hR:=LI okA ok f g pc hl xt pre pres q l hL a ha
 generalize l ++ [Bf f a]=l' at *
 refine es 2000 ?_;(simp only [Ab5,Aev,LZ,seval])
 have zz:=aq4 @Dc.eq_1 @CU.eq_1 @mach.eq_1 Mt;refine IJ [0,1,2,3,4,5,6] [0,1,2,3,6] (hR) ?_
 (simp only [LW,Dc,CU,mach,seval])
 repeat refine sd ?_
 have zz:=aq2 Og Mt;exact Bg hx [0,1,2,3,4,5,6,55] ⟨rfl,rfl,rfl⟩
theorem Q4 (okA:OkM M) (ok:OkPr M) (f g:Nat→BitVec 64) (pc:BitVec 64) (hl:Bool) (xt:BitVec 64) (pre:Pr) (pres:List (Dg × Pr)) (q:Nat) (a:BitVec 64) (ha:¬ 8192#64≤a) :
 Af M 596 [.ptr 0 [],W a] [(0,Dc .nils pre),(1,mach f g pc hl xt),(2,CU (.sl 6 [] 0 q 32)),(3,Bv At Pr.zero pres)] 7
  (Q3 (Ao (W (f a.toNat)) .nili) [(0,Dc (.sl 7 [] 0 1 2) pre),(1,mach f g pc hl xt),(2,CU (.sl 6 [] 0 q 32)),(3,Bv At Pr.zero pres),(7,.ar 2 1 (Dz [Bf f a]))] 8):=by
 refine Ac ok.k596 rfl fun x hx=>?_
 refine es 2000 ?_;(simp only [U4,Xx,Dc,LZ,seval])
 have zz:=aq2 @W.eq_1 @mach.eq_1;refine El (ED okA f g pc hl xt a.toNat (Ql a ha)) ?_
 (simp only [Cb,seval])
 refine Aq.mk hx [0,1,2,3,4,5,6,503] [119] (Ao (W (f a.toNat)) .nili) [(0,Dc (.sl 7 [] 0 1 2) pre),(1,mach f g pc hl xt),(2,CU (.sl 6 [] 0 q 32)),(3,Bv At Pr.zero pres),(7,.ar 2 1 (Dz [Bf f a]))] 8 Ak (by (simp only [Fk,seval])) (by (simp only [IT,seval])) ?_ ⟨rfl,rfl,rfl⟩
 simp only [Dc,CU,CF,seval,Ld]
 intro i hi
 obtain rfl:i=0:=Aa
 exact Hv f a Bx rfl
theorem Mo (okA:OkM M) (ok:OkPr M) (f g:Nat→BitVec 64) (pc:BitVec 64) (hl:Bool) (xt:BitVec 64) (pre:Pr) (pres:List (Dg × Pr)) (q:Nat) (l:List Pf) (hL:l.length≤100) (a:BitVec 64) (ha:¬ 8192#64≤a) :
 Af M 596 [.ptr 0 [],W a] [(0,Dc (.sl 7 [] 0 l.length 2) pre),(1,mach f g pc hl xt),(2,CU (.sl 6 [] 0 q 32)),(3,Bv At Pr.zero pres),(7,.ar 2 l.length (Dz l))] 8
  (Q3 (Ao (W (f a.toNat)) .nili) [(0,Dc (.sl 8 [] 0 (l ++ [Bf f a]).length 2) pre),(1,mach f g pc hl xt),(2,CU (.sl 6 [] 0 q 32)),(3,Bv At Pr.zero pres),(8,.ar 2 (l ++ [Bf f a]).length (Dz (l ++ [Bf f a])))] (8 + 1)):=by
 refine Ac ok.k596 rfl fun x hx=>?_
 refine es 2000 ?_;(simp only [U4,Xx,Dc,LZ,seval])
 have zz:=aq3 @W.eq_1 @mach.eq_1 @Ca;refine El (ED okA f g pc hl xt a.toNat (Ql a ha)) ?_
 (simp only [Cb,seval])
 repeat refine sd ?_
 refine Aq.mk hx [0,1,2,3,4,5,6,7,504] [120] (Ao (W (f a.toNat)) .nili) [(0,Dc (.sl 8 [] 0 (l ++ [Bf f a]).length 2) pre),(1,mach f g pc hl xt),(2,CU (.sl 6 [] 0 q 32)),(3,Bv At Pr.zero pres),(8,.ar 2 (l ++ [Bf f a]).length (Dz (l ++ [Bf f a])))] 9 Ak (by (simp only [Fk,seval])) (by (simp only [IT,seval])) ?_ ⟨rfl,rfl,rfl⟩
 have e0:(l ++ [Bf f a]).length=l.length + 1:=Bu
 simp only [e0,Dc,CU,CF,seval,Ld]
 intro i hi
 by_cases h:i < l.length
 ·rw [if_pos h]
  have:Dz (l ++ [Bf f a]) i=Dz l i:=by simp only [Dz,List.getD_eq_getElem?_getD,List.getElem?_append_left h]
  rw [this];exact (Ca _ _ _ _ _).mpr trivial
 ·obtain rfl:i=l.length:=Aa
  have:Dz (l ++ [Bf f a]) l.length=Ir (Bf f a):=by simp only [Dz,List.getD_eq_getElem?_getD,List.getElem?_append_right (Nat.le_refl _),Nat.sub_self];rfl
  rw [if_neg h,Nat.sub_self,if_pos rfl,this]
  exact Hv f a Bx rfl
theorem Vc (okA:OkM M) (ok:OkPr M) (f g:Nat→BitVec 64) (pc:BitVec 64) (hl:Bool) (xt:BitVec 64) (pre:Pr) (pres:List (Dg × Pr)) (q:Nat) (l:List Pf) (hL:l.length≤100) (a v:BitVec 64) (ha:¬ 8192#64≤a) :
 Af M 597 [.ptr 0 [],W a,W v] [(0,Dc (.sl 7 [] 0 l.length 2) pre),(1,mach f g pc hl xt),(2,CU (.sl 6 [] 0 q 32)),(3,Bv At Pr.zero pres),(7,.ar 2 l.length (Dz l))] 8
  (Q3 .nili [(0,Dc (.sl 8 [] 0 (l ++ [Bf f a]).length 2) pre),(1,mach (E9 f a.toNat v) g pc hl xt),(2,CU (.sl 6 [] 0 q 32)),(3,Bv At Pr.zero pres),(8,.ar 2 (l ++ [Bf f a]).length (Dz (l ++ [Bf f a])))] (8 + 1)):=by
 refine Ac ok.k597 rfl fun x hx=>?_
 have ha':=Ql a ha
 have hR:=Mo okA ok f g pc hl xt pre pres q l hL a ha
 generalize l ++ [Bf f a]=l' at *
 refine es 2000 ?_;(simp only [Ab5,Aev,LZ,seval])
 have zz:=aq4 @Dc.eq_1 @CU.eq_1 @mach.eq_1 Mt;refine IJ [0,1,2,3,4,5,6,7] [0,1,2,3,7] (hR) ?_
 (simp only [LW,Dc,CU,mach,seval])
 repeat refine sd ?_
 have zz:=aq2 Og Mt;exact Bg hx [0,1,2,3,4,5,6,7,56] ⟨rfl,rfl,rfl⟩
theorem L4 (ok:OkPr M) (q:Nat) (pres:List (Dg × Pr)) :
 Af M 167 [.ptr 0 []] [(0,.st 4 (.fcons 0 (.map 1) (.fcons 1 (.ptr 2 []) (.fcons 2 (.map 3) (.fcons 3 (.nils) .fnil))))),(1,Bv At Pr.zero pres)] 4
  (Q3 (.ptr 4 []) [(0,.st 4 (.fcons 0 (.map 1) (.fcons 1 (.ptr 2 []) (.fcons 2 (.map 3) (.fcons 3 (.nils) .fnil))))),(1,Bv At Pr.zero pres),(4,.st 4 (.fcons 0 (.map 5) (.fcons 1 (.ptr 2 []) (.fcons 2 (.map 6) (.fcons 3 .nils .fnil))))),(5,Bv At Pr.zero pres),(6,Cp [])] 7):=by
 refine Ac ok.k167 rfl fun x hx=>?_
 refine es 2000 ?_;(simp only [YS,Agh,LZ,seval])
 have zz:=@C6;refine Pd [1] (F7 ok pres) ?_
 (simp only [BA,seval])
 have zz:=aq2 @Cp.eq_1 @C6;exact Bg hx [0,1,2,3,228,324,196] ⟨rfl,rfl,rfl⟩
theorem Lo (ok:OkPr M) (q:Nat) (pres:List (Dg × Pr)) :
 Af M 167 [.ptr 0 []] [(0,.st 4 (.fcons 0 (.map 1) (.fcons 1 (.ptr 2 []) (.fcons 2 (.map 3) (.fcons 3 (.sl 4 [] 0 q 32) .fnil))))),(1,Bv At Pr.zero pres)] 5
  (Q3 (.ptr 5 []) [(0,.st 4 (.fcons 0 (.map 1) (.fcons 1 (.ptr 2 []) (.fcons 2 (.map 3) (.fcons 3 (.sl 4 [] 0 q 32) .fnil))))),(1,Bv At Pr.zero pres),(5,.st 4 (.fcons 0 (.map 6) (.fcons 1 (.ptr 2 []) (.fcons 2 (.map 7) (.fcons 3 .nils .fnil))))),(6,Bv At Pr.zero pres),(7,Cp [])] 8):=by
 refine Ac ok.k167 rfl fun x hx=>?_
 refine es 2000 ?_;(simp only [YS,Agh,LZ,seval])
 have zz:=@C6;refine Pd [1] (F7 ok pres) ?_
 (simp only [BA,seval])
 have zz:=aq2 @Cp.eq_1 @C6;exact Bg hx [0,1,2,3,4,229,325,197] ⟨rfl,rfl,rfl⟩
theorem Mu (ok:OkO M) (pres:List (Dg × Pr)) (h:Dg) :
 Af M 328 [.ptr 0 [],dg h] [(0,.st 4 (.fcons 0 (.map 1) (.fcons 1 (.ptr 2 []) (.fcons 2 (.map 3) (.fcons 3 .nils .fnil))))),(1,Bv At Pr.zero pres),(3,Cp [])] 4
  (Q3 (CW (Dv h pres)) [(1,Bv At Pr.zero pres)] 4):=by
 have hsv:∀ l:List (Dg × Bool),Bv V.bool false l=Cp l:=fun _=>rfl
 have hn:Dv h ([]:List (Dg × Bool))=none:=rfl
 refine Ac ok.k328 rfl fun x hx=>?_
 generalize ho:Dv h pres=o at *
 cases o
 all_goals refine es 2000 ?_;(simp only [Qo,Uu,Cp,ho,hn,BA,seval])
 all_goals refine Aq.mk hx [0,1,2,3] [] (CW _) [(1,Bv At Pr.zero pres)] 4 Ak (by simp only [Tp,Gw,IY,seval]) (by simp only [Tp,CW,Gw,IY,seval];simp only [VE,CF,seval];try exact fun _ _=>rfl) ?_ ⟨rfl,rfl,rfl⟩
 all_goals simp only [CF,seval]
def YM (o:Option Pr):V:=match o with
 | some p=>Ao (At p) .nili
 | none=>Ao (At Pr.zero) (.ifc 74 (.int .i64 14))
def YA (o:Option Pr):Pr:=match o with
 | some p=>p
 | none=>Pr.zero
theorem T8 (ok:OkPr M) (okO:OkO M) (f g:Nat→BitVec 64) (pc:BitVec 64) (hl:Bool) (xt:BitVec 64) (pre:Pr) (pres:List (Dg × Pr)) (q:Nat) (l:List Pf) (h:Dg) :
 Af M 595 [.ptr 0 [],dg h] [(0,Dc (.sl 6 [] 0 l.length 2) pre),(1,mach f g pc hl xt),(2,CU (.nils)),(3,Bv At Pr.zero pres),(6,.ar 2 l.length (Dz l))] 7
  (Q3 (YM (Dv h pres)) [(0,Dc (.sl 6 [] 0 l.length 2) (YA (Dv h pres))),(1,mach f g pc hl xt),(2,CU (.nils)),(3,Bv At Pr.zero pres),(6,.ar 2 l.length (Dz l))] 7):=by
 refine Ac ok.k595 rfl fun x hx=>?_
 have hC:=L4 ok q pres
 have hG:=Mu okO pres h
 refine es 2000 ?_;(simp only [Ach,Ad5,Dc,LZ,seval])
 have zz:=aq2 @CU.eq_1 @C6;refine onY [2,3,4,5] [2,3] (hC) ?_
 (simp only [CU,AR,BA,seval])
 cases ho:Dv h pres with
 | none =>
   rw [ho] at hG
   simp only [CW] at hG
   have zz:=aq2 @Bo @C6;refine onY [327,328,4,329] [327,328,329] (hG) ?_
   (simp only [Gw,SD,seval])
   have zz:=aq9 @YM.eq_1 @YM.eq_2 @YA.eq_1 @YA.eq_2 @H3 Mt @CU.eq_1 VE @LM;exact Bg hx [0,1,2,3,4,5,6] ⟨rfl,rfl,rfl⟩
 | some p =>
   rw [ho] at hG
   simp only [CW] at hG
   have zz:=aq2 @Bo @C6;refine onY [327,328,4,329] [327,328,329] (hG) ?_
   (simp only [Gw,SD,seval])
   have zz:=aq8 @YM.eq_1 @YM.eq_2 @YA.eq_1 @YA.eq_2 @H3 Mt @CU.eq_1 @LM;exact Bg hx [0,1,2,3,4,5,6] ⟨rfl,rfl,rfl⟩
theorem TM (ok:OkPr M) (okO:OkO M) (f g:Nat→BitVec 64) (pc:BitVec 64) (hl:Bool) (xt:BitVec 64) (pre:Pr) (pres:List (Dg × Pr)) (q:Nat) (l:List Pf) (h:Dg) :
 Af M 595 [.ptr 0 [],dg h] [(0,Dc (.sl 7 [] 0 l.length 2) pre),(1,mach f g pc hl xt),(2,CU (.sl 6 [] 0 q 32)),(3,Bv At Pr.zero pres),(7,.ar 2 l.length (Dz l))] 8
  (Q3 (YM (Dv h pres)) [(0,Dc (.sl 7 [] 0 l.length 2) (YA (Dv h pres))),(1,mach f g pc hl xt),(2,CU (.sl 6 [] 0 q 32)),(3,Bv At Pr.zero pres),(7,.ar 2 l.length (Dz l))] 8):=by
 refine Ac ok.k595 rfl fun x hx=>?_
 have hC:=Lo ok q pres
 have hG:=Mu okO pres h
 refine es 2000 ?_;(simp only [Ach,Ad5,Dc,LZ,seval])
 have zz:=aq2 @CU.eq_1 @C6;refine onY [2,3,4,5,6] [2,3] (hC) ?_
 (simp only [CU,AR,BA,seval])
 cases ho:Dv h pres with
 | none =>
   rw [ho] at hG
   simp only [CW] at hG
   have zz:=aq2 @Bo @C6;refine onY [328,329,4,330] [328,329,330] (hG) ?_
   (simp only [Gw,SD,seval])
   have zz:=aq9 @YM.eq_1 @YM.eq_2 @YA.eq_1 @YA.eq_2 @H3 Mt @CU.eq_1 VE @LM;exact Bg hx [0,1,2,3,4,5,6,7] ⟨rfl,rfl,rfl⟩
 | some p =>
   rw [ho] at hG
   simp only [CW] at hG
   have zz:=aq2 @Bo @C6;refine onY [328,329,4,330] [328,329,330] (hG) ?_
   (simp only [Gw,SD,seval])
   have zz:=aq8 @YM.eq_1 @YM.eq_2 @YA.eq_1 @YA.eq_2 @H3 Mt @CU.eq_1 @LM;exact Bg hx [0,1,2,3,4,5,6,7] ⟨rfl,rfl,rfl⟩
end Mv
