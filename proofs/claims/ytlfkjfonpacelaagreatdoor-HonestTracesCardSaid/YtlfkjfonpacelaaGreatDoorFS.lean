/- A part. -/
import Derived.Test.YtlfkjfonpacelaaGreatDoorFR
import Derived.KernelRfl
set_option linter.all false
set_option maxRecDepth 20000
set_option maxHeartbeats 8000000
namespace Mv
open Go
variable {M:Seat}
def tF (n:Nat) (ps:Nat→Pt) (d:Int) (w:WS) (l:List (Nat→BitVec 64)) (cm:BitVec 64→Dg) (knl:List (BitVec 64)):Hp :=
 [(0,Ax (.sl 2 [] 0 n 3) d (.map 3) (.map 1)),(1,Ey l),(2,.ar 3 n fun j=>Cu 4 (ps j)),(3,KY cm knl),(4,Aw 5 w.a w.b w.met),(5,Bd A9 Pr.zero w.ever)]
def tF' (n:Nat) (ps:Nat→Pt) (P:Pt) (d:Int) (w:WS) (l:List (Nat→BitVec 64)) (cm:BitVec 64→Dg) (knl:List (BitVec 64)):Hp :=
 [(0,Ax (.sl 6 [] 0 (n + 1) 3) d (.map 3) (.map 1)),(1,Ey l),(3,KY cm knl),(4,Aw 5 w.a w.b w.met),(5,Bd A9 Pr.zero w.ever),(6,.ar 3 (n + 1) fun j=>Cu 4 (if j < n then ps j else P))]
structure OkAx (M:Seat):Prop where
 r:OkRc M
 k154:Av M 154 JA=true
theorem CS (m:List Nat) (h:m[4]?=some 4) (p:List (Dg × Pr)) (sl:List (Dg × Bool)) (n:Nat) (q:Nat→Dg):(CM p 4 sl n q).ren m=CM p 4 sl n q:=by
 simp only [CM,V.ren,h,Ek,Fc,E9]
theorem CR (m:List Nat) (h:m[4]?=some 4) (P:Pt):(Cu 4 P).ren m=Cu 4 P:=SE 4 4 m h P
theorem B8 (H:Hp) (m z:List Nat) (h:m[4]?=some 4) (P:Pt):Ar H m z (Cu 4 P) (Cu 4 P)=True:=eq_true (DT H m z 4 4 h P)
theorem Um (ok:OkAx M) (n:Nat) (ps:Nat→Pt) (d:Nat) (hd:d < 64) (w w':WS) (l:List (Nat→BitVec 64)) (cm:BitVec 64→Dg) (knl:List (BitVec 64)) (i:BitVec 64) (hi:¬ 1#64 <<< d≤i) (P:Pt) (e:Nat) (hk:FW P.a knl=some e)
 (hR:Af M 275 [.ptr 0 [],W (i + 1#64)] (tH n ps d w) 6 (Q3 (Cu 4 P) (tH n ps d w) 6)) :
 Af M 154 [.ptr 0 [],W i] (tF n ps d w l cm knl) 6 (Q3 (Ah (dg (cm P.a)) .nili) (tF n ps d w l cm knl) 6):=by
 have hl:=fun z hh H=>M5 cm z hh knl P.a H e hk
 have hb:Cu 4 P = .st 3 (.fcons 0 (W P.a) (.fcons 1 (.imm (mach P.m.f P.m.g P.m.pc P.m.hl P.m.xt)) (.fcons 2 (.imm (CM P.p 4 P.sl P.n P.q)) .fnil))):=rfl
 unfold tF tH at *
 skip
 simp only [Ax,Aw] at hR
 refine Ab ok.k154 rfl fun x hx=>?_
 refine es 2000 ?_;(simp only [JA,Oe,Ax,Aw,LZ,seval])
 repeat refine sd ?_
 (simp only [hi,LZ,seval])
 have zz:=F5 @Ax.eq_1 @Aw.eq_1 @Ce @B8;refine Df [0,1,2,3,4,5] [0,2,4,5] (hR) ?_
 (simp only [Ax,Aw,BA,Ba,Ew,CR,As,CS,hb,hl,AN,Bg,Bu,seval])
 have zz:=aq7 YZ @Ax.eq_1 @Aw.eq_1 @Al @Be @B8 @dg.eq_1;exact Bz hx [0,1,2,3,4,5] ⟨rfl,rfl,rfl⟩
theorem UY (ok:OkAx M) (n:Nat) (ps:Nat→Pt) (d:Nat) (hd:d < 64) (w w':WS) (l:List (Nat→BitVec 64)) (cm:BitVec 64→Dg) (knl:List (BitVec 64)) (i:BitVec 64) (hi:¬ 1#64 <<< d≤i) (P:Pt) (e:Nat) (hk:FW P.a knl=some e)
 (hR:Af M 275 [.ptr 0 [],W (i + 1#64)] (tH n ps d w) 6 (Q3 (Cu 4 P) (U0 n ps P d w') 7)) :
 Af M 154 [.ptr 0 [],W i] (tF n ps d w l cm knl) 6 (Q3 (Ah (dg (cm P.a)) .nili) (tF' n ps P d w' l cm knl) 7):=by
 have hl:=fun z hh H=>M5 cm z hh knl P.a H e hk
 have hb:Cu 4 P = .st 3 (.fcons 0 (W P.a) (.fcons 1 (.imm (mach P.m.f P.m.g P.m.pc P.m.hl P.m.xt)) (.fcons 2 (.imm (CM P.p 4 P.sl P.n P.q)) .fnil))):=rfl
 unfold tF tH at *
 unfold tF' U0 at *
 simp only [Ax,Aw] at hR
 refine Ab ok.k154 rfl fun x hx=>?_
 refine es 2000 ?_;(simp only [JA,Oe,Ax,Aw,LZ,seval])
 repeat refine sd ?_
 (simp only [hi,LZ,seval])
 have zz:=F5 @Ax.eq_1 @Aw.eq_1 @Ce @B8;refine Df [0,1,2,3,4,5] [0,2,4,5] (hR) ?_
 (simp only [Ax,Aw,BA,Ba,Ew,CR,As,CS,hb,hl,AN,Bg,Bu,seval])
 have zz:=aq7 YZ @Ax.eq_1 @Aw.eq_1 @Al @Be @B8 @dg.eq_1;exact Bz hx [0,1,2,3,4,5,262] ⟨rfl,rfl,rfl⟩
theorem TV (ok:OkAx M) (n:Nat) (ps:Nat→Pt) (d:Nat) (hd:d < 64) (w w':WS) (l:List (Nat→BitVec 64)) (cm:BitVec 64→Dg) (knl:List (BitVec 64)) (i:BitVec 64) (hi:¬ 1#64 <<< d≤i) (P:Pt) (hk:FW P.a knl=none) (hc:cm P.a=P.m.com)
 (hR:Af M 275 [.ptr 0 [],W (i + 1#64)] (tH n ps d w) 6 (Q3 (Cu 4 P) (tH n ps d w) 6)) :
 Af M 154 [.ptr 0 [],W i] (tF n ps d w l cm knl) 6 (Q3 (Ah (dg (cm P.a)) .nili) (tF n ps d w (oK P.m.f l 256) cm (knl ++ [P.a])) 6):=by
 have hl:=fun z hh H=>Mn cm z hh knl P.a H hk
 have hu:=fun hh id H=>Px cm hh knl P.a id H hk
 have hb:Cu 4 P = .st 3 (.fcons 0 (W P.a) (.fcons 1 (.imm (mach P.m.f P.m.g P.m.pc P.m.hl P.m.xt)) (.fcons 2 (.imm (CM P.p 4 P.sl P.n P.q)) .fnil))):=rfl
 have hO:=KP ok.r.o P.m.f P.m.g P.m.pc P.m.hl P.m.xt n d l
 have hcc:BW (BP P.m.f 13 0) (Eg P.m.g P.m.pc P.m.hl P.m.xt)=cm P.a:=hc.symm
 unfold tF tH at *
 skip
 simp only [Ax,Aw] at hR
 refine Ab ok.k154 rfl fun x hx=>?_
 refine es 2000 ?_;(simp only [JA,Oe,Ax,Aw,LZ,seval])
 repeat refine sd ?_
 (simp only [hi,LZ,seval])
 have zz:=F5 @Ax.eq_1 @Aw.eq_1 @Ce @B8;refine Df [0,1,2,3,4,5] [0,2,4,5] (hR) ?_
 (simp only [Ax,Aw,BA,Ba,Ew,CR,As,CS,hb,hl,AN,Bg,Bu,seval])
 have zz:=CC @Ax.eq_1 @mach.eq_1 @Al;refine Df [0,1,2,3] [0,1] (hO) ?_
 rw [hcc]
 (simp only [Ax,Aw,Dq,Ba,Ew,CR,As,CS,hb,hu,AN,Bg,Bu,seval])
 have zz:=aq7 YZ @Ax.eq_1 @Aw.eq_1 @Al @Be @B8 @dg.eq_1;exact Bz hx [0,1,2,3,4,5] ⟨rfl,rfl,rfl⟩
theorem U7 (ok:OkAx M) (n:Nat) (ps:Nat→Pt) (d:Nat) (hd:d < 64) (w w':WS) (l:List (Nat→BitVec 64)) (cm:BitVec 64→Dg) (knl:List (BitVec 64)) (i:BitVec 64) (hi:¬ 1#64 <<< d≤i) (P:Pt) (hk:FW P.a knl=none) (hc:cm P.a=P.m.com)
 (hR:Af M 275 [.ptr 0 [],W (i + 1#64)] (tH n ps d w) 6 (Q3 (Cu 4 P) (U0 n ps P d w') 7)) :
 Af M 154 [.ptr 0 [],W i] (tF n ps d w l cm knl) 6 (Q3 (Ah (dg (cm P.a)) .nili) (tF' n ps P d w' (oK P.m.f l 256) cm (knl ++ [P.a])) 7):=by
 have hl:=fun z hh H=>Mn cm z hh knl P.a H hk
 have hu:=fun hh id H=>Px cm hh knl P.a id H hk
 have hb:Cu 4 P = .st 3 (.fcons 0 (W P.a) (.fcons 1 (.imm (mach P.m.f P.m.g P.m.pc P.m.hl P.m.xt)) (.fcons 2 (.imm (CM P.p 4 P.sl P.n P.q)) .fnil))):=rfl
 have hO:=KP ok.r.o P.m.f P.m.g P.m.pc P.m.hl P.m.xt (n + 1) d l
 have hcc:BW (BP P.m.f 13 0) (Eg P.m.g P.m.pc P.m.hl P.m.xt)=cm P.a:=hc.symm
 unfold tF tH at *
 unfold tF' U0 at *
 simp only [Ax,Aw] at hR
 refine Ab ok.k154 rfl fun x hx=>?_
 refine es 2000 ?_;(simp only [JA,Oe,Ax,Aw,LZ,seval])
 repeat refine sd ?_
 (simp only [hi,LZ,seval])
 have zz:=F5 @Ax.eq_1 @Aw.eq_1 @Ce @B8;refine Df [0,1,2,3,4,5] [0,2,4,5] (hR) ?_
 (simp only [Ax,Aw,BA,Ba,Ew,CR,As,CS,hb,hl,AN,Bg,Bu,seval])
 have zz:=CC @Ax.eq_1 @mach.eq_1 @Al;refine Df [0,1,262,3] [0,1] (hO) ?_
 rw [hcc]
 (simp only [Ax,Aw,Dq,Ba,Ew,CR,As,CS,hb,hu,AN,Bg,Bu,seval])
 have zz:=aq7 YZ @Ax.eq_1 @Aw.eq_1 @Al @Be @B8 @dg.eq_1;exact Bz hx [0,1,2,3,4,5,262] ⟨rfl,rfl,rfl⟩
structure Tr where
 n:Nat
 ps:Nat→Pt
 w:WS
 l:List (Nat→BitVec 64)
 knl:List (BitVec 64)
noncomputable def Tu (m0:Mc) (p0:List (Dg × Pr)) (k:BitVec 64):Dg:=(xs m0 p0 k.toNat).1.com
def Tr.H (t:Tr) (d:Nat) (cm:BitVec 64→Dg):Hp:=[(0,Ax (.sl 2 [] 0 t.n 3) d (.map 3) (.map 1)),(1,Ey t.l),(2,.ar 3 t.n fun j=>Cu 4 (t.ps j)),(3,KY cm t.knl),(4,Aw 5 t.w.a t.w.b t.w.met),(5,Bd A9 Pr.zero t.w.ever)]
def Tr.H6 (t:Tr) (d:Nat) (cm:BitVec 64→Dg):Hp:=[(0,Ax (.sl 6 [] 0 t.n 3) d (.map 3) (.map 1)),(1,Ey t.l),(3,KY cm t.knl),(4,Aw 5 t.w.a t.w.b t.w.met),(5,Bd A9 Pr.zero t.w.ever),(6,.ar 3 t.n fun j=>Cu 4 (t.ps j))]
theorem Y1 {d:Nat} (hd:d < 20) {i:BitVec 64} (hi:i.toNat < 2 ^ d):¬ 1#64 <<< d≤i:=by
 rw [BitVec.le_def,BitVec.toNat_shiftLeft,Nat.shiftLeft_eq]
 have:2 ^ d≤2 ^ 20:=Nat.pow_le_pow_right Aj Aa
 rw [Nat.mod_eq_of_lt (by show 1 * 2 ^ d < 18446744073709551616;omega)]
 show ¬ 1 * 2 ^ d≤i.toNat
 omega
theorem Ao7 {M:Seat} (ok:OkAx M) {m0:Mc} {p0:List (Dg × Pr)} (t:Tr) (ht:t.n < 32) (hp:Pts m0 p0 t.n t.ps) (d:Nat) (hd:d < 20) (i:BitVec 64) (hi:i.toNat < 2 ^ d) :
 ∃ t':Tr,t'.n≤t.n + 1∧Pts m0 p0 t'.n t'.ps ∧
  (Af M 154 [.ptr 0 [],W i] (t.H d (Tu m0 p0)) 6 (Q3 (Ah (dg (Tu m0 p0 (i + 1#64))) .nili) (t'.H d (Tu m0 p0)) 6) ∨
   Af M 154 [.ptr 0 [],W i] (t.H d (Tu m0 p0)) 6 (Q3 (Ah (dg (Tu m0 p0 (i + 1#64))) .nili) (t'.H6 d (Tu m0 p0)) 7)):=by
 have hl:=Y1 hd hi
 have h20:2 ^ d≤2 ^ 20:=Nat.pow_le_pow_right Aj Aa
 have hi1:(i + 1#64).toNat=i.toNat + 1:=by rw [BitVec.toNat_add];show (i.toNat + 1) % 18446744073709551616=_;omega
 obtain ⟨P,w',h1,h2,h3,h4,h5⟩:=PB ok.r t.n ht t.ps hp d t.w (i + 1#64) (by rw [hi1];omega)
 have hc:Tu m0 p0 P.a=P.m.com:=by unfold Tu;rw [← h3]
 have hc2:Tu m0 p0 P.a=Tu m0 p0 (i + 1#64):=by rw [hc];unfold Tu;rw [← h2]
 rw [← hc2]
 rcases h5 with h5 | ⟨h5,h6⟩
 ·cases hk:FW P.a t.knl with
  | some e=>exact ⟨t,Nat.le_succ _,hp,.inl (Um ok t.n t.ps d Aa t.w t.w t.l _ t.knl i hl P e hk h5)⟩
  | none =>
    have hA:=TV ok t.n t.ps d Aa t.w t.w t.l _ t.knl i hl P hk hc h5
    generalize oK P.m.f t.l 256=L at hA
    exact ⟨⟨t.n,t.ps,t.w,L,t.knl ++ [P.a]⟩,Nat.le_succ _,hp,.inl hA⟩
 ·cases hk:FW P.a t.knl with
  | some e=>exact ⟨⟨t.n + 1,fun j=>if j < t.n then t.ps j else P,w',t.l,t.knl⟩,Nat.le_refl _,h6,.inr (UY ok t.n t.ps d Aa t.w w' t.l _ t.knl i hl P e hk h5)⟩
  | none =>
    have hA:=U7 ok t.n t.ps d Aa t.w w' t.l _ t.knl i hl P hk hc h5
    generalize oK P.m.f t.l 256=L at hA
    exact ⟨⟨t.n + 1,fun j=>if j < t.n then t.ps j else P,w',L,t.knl ++ [P.a]⟩,Nat.le_refl _,h6,.inr hA⟩
structure OkAs (M:Seat):Prop where
 a:OkAx M
 k153:Av M 153 Abc=true
theorem Qi {M:Seat} (ok:OkAs M) (n:Nat) (hn:0 < n) (ps:Nat→Pt) (d:Nat) (l:List (Nat→BitVec 64)) :
 Af M 153 [.ptr 0 []] [(0,Ax (.sl 2 [] 0 n 3) d (.map 3) (.map 1)),(1,Ey l),(2,.ar 3 n fun j=>Cu 4 (ps j))] 6
  (Q3 (Ah (dg (ps 0).m.com) .nili) [(0,Ax (.sl 2 [] 0 n 3) d (.map 3) (.map 1)),(1,Ey (oK (ps 0).m.f l 256)),(2,.ar 3 n fun j=>Cu 4 (ps j))] 6):=by
 have hO:=KP ok.a.r.o (ps 0).m.f (ps 0).m.g (ps 0).m.pc (ps 0).m.hl (ps 0).m.xt n d l
 rw [show BW (BP (ps 0).m.f 13 0) (Eg (ps 0).m.g (ps 0).m.pc (ps 0).m.hl (ps 0).m.xt)=(ps 0).m.com from rfl] at hO
 have hb:Cu 4 (ps 0) = .st 3 (.fcons 0 (W (ps 0).a) (.fcons 1 (.imm (mach (ps 0).m.f (ps 0).m.g (ps 0).m.pc (ps 0).m.hl (ps 0).m.xt)) (.fcons 2 (.imm (CM (ps 0).p 4 (ps 0).sl (ps 0).n (ps 0).q)) .fnil))):=rfl
 refine Ab ok.k153 rfl fun x hx=>?_
 refine es 2000 ?_;(simp only [Abc,Ag8,Ax,hb,LZ,seval])
 repeat refine sd ?_
 have zz:=CC @Ax.eq_1 @mach.eq_1 @Al;refine Df [0,1,2,3] [0,1] (hO) ?_
 (simp only [Dq,Ax,Ba,seval])
 have zz:=N8 @Ah.eq_1 @Ax.eq_1 @Al @B8 @dg.eq_1;exact Bz hx [0,1,2,3,4,5] ⟨rfl,rfl,rfl⟩
structure OkPt (M:Seat):Prop where
 a:OkAx M
 s:OkOs M
 k155:Av M 155 N9=true
theorem RW {M:Seat} (ok:OkPt M) (n:Nat) (ps:Nat→Pt) (d:Nat) (hd:d < 64) (w w':WS) (i:BitVec 64) (hi:¬ 1#64 <<< d≤i) (P:Pt)
 (hR:Af M 275 [.ptr 0 [],W i] (tH n ps d w) 6 (Q3 (Cu 4 P) (tH n ps d w) 6)) :
 Af M 155 [.ptr 0 [],W i] (tH n ps d w) 6 (Q3 (GX P.m (CE P.p P.m).1 (CE P.p P.m).2.1 (CE P.p P.m).2.2) (tH n ps d w) 6):=by
 have hP:=L8 ok.s P.m P.p P.sl P.n P.q
 generalize (CE P.p P.m).1=e at *
 generalize (CE P.p P.m).2.1=L at *
 generalize (CE P.p P.m).2.2=Q at *
 have hb:Cu 4 P = .st 3 (.fcons 0 (W P.a) (.fcons 1 (.imm (mach P.m.f P.m.g P.m.pc P.m.hl P.m.xt)) (.fcons 2 (.imm (CM P.p 4 P.sl P.n P.q)) .fnil))):=rfl
 unfold tH at *
 skip
 simp only [Ax,Aw] at hR
 refine Ab ok.k155 rfl fun x hx=>?_
 cases e with
 | none =>
   simp only [Q4] at hP
   refine es 2000 ?_;(simp only [N9,Rm,Ax,Aw,LZ,seval])
   repeat refine sd ?_
   (simp only [hi,LZ,seval])
   have zz:=F5 @Ax.eq_1 @Aw.eq_1 @Ce @B8;refine Df [0,1,2,3,4,5] [0,2,4,5] (hR) ?_
   (simp only [Ax,Aw,BA,CR,As,CS,hb,AN,Bg,Bu,seval])
   have zz:=N8 @CM.eq_1 @AD @AZ @AA @dg.eq_1;refine Df [4] [] (hP) ?_
   (simp only [Ld,seval])
   refine Ap.mk hx [0,1,2,3,4,5] [] (GX P.m none L Q) _ 6 Aj (by (simp only [DS,GX,seval])) (by simp only [LV,Q4,BV,dg,AU,Cm,seval]) ?_ ⟨rfl,rfl,rfl⟩
   simp only [Ax,Aw,B8,Cm,seval]
   done
 | some q =>
   simp only [Q4] at hP
   refine es 2000 ?_;(simp only [N9,Rm,Ax,Aw,LZ,seval])
   repeat refine sd ?_
   (simp only [hi,LZ,seval])
   have zz:=F5 @Ax.eq_1 @Aw.eq_1 @Ce @B8;refine Df [0,1,2,3,4,5] [0,2,4,5] (hR) ?_
   (simp only [Ax,Aw,BA,CR,As,CS,hb,AN,Bg,Bu,seval])
   have zz:=N8 @CM.eq_1 @AD @AZ @AA @dg.eq_1;refine Df [4] [] (hP) ?_
   (simp only [Ld,seval])
   refine Ap.mk hx [0,1,2,3,4,5] [] (GX P.m (some q) L Q) _ 6 Aj (by (simp only [DS,GX,seval])) (by simp only [LV,Q4,BV,dg,AU,Cm,seval]) ?_ ⟨rfl,rfl,rfl⟩
   simp only [Ax,Aw,B8,Cm,seval]
   done
theorem Q2 {M:Seat} (ok:OkPt M) (n:Nat) (ps:Nat→Pt) (d:Nat) (hd:d < 64) (w w':WS) (i:BitVec 64) (hi:¬ 1#64 <<< d≤i) (P:Pt)
 (hR:Af M 275 [.ptr 0 [],W i] (tH n ps d w) 6 (Q3 (Cu 4 P) (U0 n ps P d w') 7)) :
 Af M 155 [.ptr 0 [],W i] (tH n ps d w) 6 (Q3 (GX P.m (CE P.p P.m).1 (CE P.p P.m).2.1 (CE P.p P.m).2.2) (U0 n ps P d w') 7):=by
 have hP:=L8 ok.s P.m P.p P.sl P.n P.q
 generalize (CE P.p P.m).1=e at *
 generalize (CE P.p P.m).2.1=L at *
 generalize (CE P.p P.m).2.2=Q at *
 have hb:Cu 4 P = .st 3 (.fcons 0 (W P.a) (.fcons 1 (.imm (mach P.m.f P.m.g P.m.pc P.m.hl P.m.xt)) (.fcons 2 (.imm (CM P.p 4 P.sl P.n P.q)) .fnil))):=rfl
 unfold tH at *
 unfold U0 at *
 simp only [Ax,Aw] at hR
 refine Ab ok.k155 rfl fun x hx=>?_
 cases e with
 | none =>
   simp only [Q4] at hP
   refine es 2000 ?_;(simp only [N9,Rm,Ax,Aw,LZ,seval])
   repeat refine sd ?_
   (simp only [hi,LZ,seval])
   have zz:=F5 @Ax.eq_1 @Aw.eq_1 @Ce @B8;refine Df [0,1,2,3,4,5] [0,2,4,5] (hR) ?_
   (simp only [Ax,Aw,BA,CR,As,CS,hb,AN,Bg,Bu,seval])
   have zz:=N8 @CM.eq_1 @AD @AZ @AA @dg.eq_1;refine Df [4] [] (hP) ?_
   (simp only [Ld,seval])
   refine Ap.mk hx [0,1,2,3,4,5,246] [] (GX P.m none L Q) _ 7 Aj (by (simp only [DS,GX,seval])) (by simp only [LV,Q4,BV,dg,AU,Cm,seval]) ?_ ⟨rfl,rfl,rfl⟩
   simp only [Ax,Aw,B8,Cm,seval]
   done
 | some q =>
   simp only [Q4] at hP
   refine es 2000 ?_;(simp only [N9,Rm,Ax,Aw,LZ,seval])
   repeat refine sd ?_
   (simp only [hi,LZ,seval])
   have zz:=F5 @Ax.eq_1 @Aw.eq_1 @Ce @B8;refine Df [0,1,2,3,4,5] [0,2,4,5] (hR) ?_
   (simp only [Ax,Aw,BA,CR,As,CS,hb,AN,Bg,Bu,seval])
   have zz:=N8 @CM.eq_1 @AD @AZ @AA @dg.eq_1;refine Df [4] [] (hP) ?_
   (simp only [Ld,seval])
   refine Ap.mk hx [0,1,2,3,4,5,246] [] (GX P.m (some q) L Q) _ 7 Aj (by (simp only [DS,GX,seval])) (by simp only [LV,Q4,BV,dg,AU,Cm,seval]) ?_ ⟨rfl,rfl,rfl⟩
   simp only [Ax,Aw,B8,Cm,seval]
   done
def Afy:LC:=(sr [mI 2 0] (sr [mt 6 0,kl 7 140 [(.t 6)],mt 5 7,ee 8 5 0,ee 9 5 1,mt 3 8,mt 4 9] (sr [mt 10 3,mt 2 10] .ret)))
def WT:LF:=⟨Afy,1,0,11,[.tmp 2]⟩
variable {M:Seat}
noncomputable def pvX (m0:Mc) (p0:List (Dg × Pr)) (k:Nat):V:=GX (xs m0 p0 k).1 (CE (xs m0 p0 k).2 (xs m0 p0 k).1).1 (CE (xs m0 p0 k).2 (xs m0 p0 k).1).2.1 (CE (xs m0 p0 k).2 (xs m0 p0 k).1).2.2
theorem Aaa (ok:OkPt M) {m0:Mc} {p0:List (Dg × Pr)} (t:Tr) (ht:t.n < 32) (hp:Pts m0 p0 t.n t.ps) (d:Nat) (hd:d < 20) (i:BitVec 64) (hi:i.toNat < 2 ^ d) :
 ∃ t':Tr,t'.n≤t.n + 1∧Pts m0 p0 t'.n t'.ps∧t'.l=t.l∧t'.knl=t.knl ∧
  (Af M 155 [.ptr 0 [],W i] (tH t.n t.ps d t.w) 6 (Q3 (pvX m0 p0 i.toNat) (tH t'.n t'.ps d t'.w) 6) ∨
   Af M 155 [.ptr 0 [],W i] (tH t.n t.ps d t.w) 6 (Q3 (pvX m0 p0 i.toNat) [(0,Ax (.sl 6 [] 0 t'.n 3) d (.map 3) (.map 1)),(4,Aw 5 t'.w.a t'.w.b t'.w.met),(5,Bd A9 Pr.zero t'.w.ever),(6,.ar 3 t'.n fun j=>Cu 4 (t'.ps j))] 7)):=by
 have hl:=Y1 hd hi
 have h20:2 ^ d≤2 ^ 20:=Nat.pow_le_pow_right Aj Aa
 obtain ⟨P,w',h1,h2,h3,h4,h5⟩:=PB ok.a.r t.n ht t.ps hp d t.w i Aa
 have e1:P.m=(xs m0 p0 i.toNat).1:=by rw [← h2]
 have e2:P.p=(xs m0 p0 i.toNat).2:=by rw [← h2]
 unfold pvX
 rw [← e1,← e2]
 rcases h5 with h5 | ⟨h5,h6⟩
 ·exact ⟨t,by omega,hp,rfl,rfl,.inl (RW ok t.n t.ps d Aa t.w t.w i hl P h5)⟩
 ·exact ⟨⟨t.n + 1,fun j=>if j < t.n then t.ps j else P,w',t.l,t.knl⟩,Nat.le_refl _,h6,rfl,rfl,.inr (Q2 ok t.n t.ps d Aa t.w w' i hl P h5)⟩
theorem Rk (ok:OkN M) (k168:Av M 168 WT=true):Af M 168 [.nili] [] 0 (Q3 (.int .i64 0) [] 0):=by
 have h:=Qf ok
 refine Ab k168 rfl fun x hx=>?_
 refine es 2000 ?_;(simp only [WT,Afy,LZ,seval])
 refine Ai (h) ?_
 (simp only [BV,seval])
 exact Ap.mkZ hx [] ⟨rfl,rfl,rfl⟩
theorem XY (ok:OkN M) (k168:Av M 168 WT=true) (a:Int):Af M 168 [erN a] [] 0 (Q3 (.int .i64 a) [] 0):=by
 have h:=O4 ok a
 unfold erN at *
 refine Ab k168 rfl fun x hx=>?_
 refine es 2000 ?_;(simp only [WT,Afy,LZ,seval])
 refine Ai (h) ?_
 (simp only [BV,seval])
 exact Ap.mkZ hx [] ⟨rfl,rfl,rfl⟩
theorem Yv {M:Seat} (k154:Av M 154 JA=true) (n d:Nat) (hd:d < 64) (i:BitVec 64) (hi:1#64 <<< d≤i) :
 Af M 154 [.ptr 0 [],W i] [(0,Ax (.sl 2 [] 0 n 3) d (.map 3) (.map 1))] 4 (Q3 (Ah (dg Dg.zero) (.ifc 74 (.int .i64 2))) [(0,Ax (.sl 2 [] 0 n 3) d (.map 3) (.map 1))] 4):=by
 have hi:=eq_true hi
 refine Ab k154 rfl fun x hx=>?_
 refine es 2000 ?_;(simp only [JA,Oe,Ax,LZ,seval])
 repeat refine sd ?_
 (simp only [hi,LZ,seval])
 have zz:=CC YZ @dg.eq_1 @Dg.at_zero;exact Bz hx [0,1,2,3] ⟨rfl,rfl,rfl⟩
theorem Ve {M:Seat} (k155:Av M 155 N9=true) (n d:Nat) (hd:d < 64) (i:BitVec 64) (hi:1#64 <<< d≤i) :
 Af M 155 [.ptr 0 [],W i] [(0,Ax (.sl 2 [] 0 n 3) d (.map 3) (.map 1))] 4 (Q3 (Ah (DM Dg.zero ⟨fun _=>0#64,0#64,false,0#64⟩ [] Pr.zero) (.ifc 74 (.int .i64 2))) [(0,Ax (.sl 2 [] 0 n 3) d (.map 3) (.map 1))] 4):=by
 have hi:=eq_true hi
 refine Ab k155 rfl fun x hx=>?_
 refine es 2000 ?_;(simp only [N9,Rm,Ax,LZ,seval])
 repeat refine sd ?_
 (simp only [hi,LZ,seval])
 have zz:=Vy YZ @DM.eq_1 @Hd.v.eq_1 @AP.eq_1 Lbc @Dg.at_zero @Dp.eq_1 @List.length_nil.{0};exact Bz hx [0,1,2,3] ⟨rfl,rfl,rfl⟩
theorem NP {M:Seat} (okA:OkM M) (ok:OkI M) (kx:OkI75 M) (k151:Av M 151 Yo=true) (l:List In) (v:V) (hv:Aia l v) (hl:l.length < 9223372036854775808) :
 Af M 151 [v] [] 0 (Q3 (.ptr 0 []) [(0,mach (ldM l).f (ldM l).g (ldM l).pc (ldM l).hl (ldM l).xt)] 1):=by
 rcases Nat.eq_zero_or_pos l.length with h0 | h0
 ·obtain rfl:l=[]:=List.length_eq_zero_iff.1 h0
  have hW:=L2 ok kx v (by rcases hv with h | ⟨h,_⟩ <;> simp [h])
  have hL:=My okA
  have hvv:∀ H m z,Bk H m z v v:=by
   intro H m z
   rcases hv with rfl | ⟨rfl,-⟩ <;> simp only [TW,List.length_nil,LY,seval]
  refine Ab k151 rfl fun x hx=>?_
  refine es 2000 ?_;(simp only [Yo,Acz,LZ,seval])
  refine Ai (hW) ?_ (hus:=⟨hvv _ _ _,trivial⟩)
  (simp only [LZ,seval])
  have zz:=@mach.eq_1;refine Ia (hL) ?_
  (simp only [BV,mach,seval])
  have zz:=F5 @mach.eq_1 @ldM.eq_1 @Acf.eq_1 @List.length_nil.{0};exact Bz hx [48] ⟨rfl,rfl,rfl⟩
 ·obtain rfl:v=Jo l:=by
   rcases hv with h | ⟨_,h⟩
   ·exact h
   ·subst h;exact absurd h0 (Nat.lt_irrefl _)
  have hW:=Sm ok kx l h0 hl
  have hL:=Sd okA (min l.length 8192) Aa (fun j=>Iy (l.getD j default))
  refine Ab k151 rfl fun x hx=>?_
  simp only [TW] at hW ⊢
  refine es 2000 ?_;(simp only [Yo,Acz,LZ,seval])
  refine Er (hW) ?_
  (simp only [LZ,seval])
  have zz:=@mach.eq_1;refine Ia (hL) ?_
  (simp only [BV,mach,seval])
  have zz:=Bc @mach.eq_1 @ldM.eq_1;exact Bz hx [48] ⟨rfl,rfl,rfl⟩
theorem Ug {M:Seat} (ok:OkHv M) (k359:Av M 359 TY=true) (pres:List (Dg × Pr)) (l:List (Nat→BitVec 64)) (G:Gs) (hD:G.D=1) (hn:G.n=2) (hp:(G.c 0).pos=1#64) (hv:(G.c 0).val=BO.com) (hp1:(G.c 1).pos=2#64) (hv1:(G.c 1).val=d1 1#8) (hne:¬ BO.com=d1 1#8) :
 Af M 254 [.ptr 0 [],.ptr 4 []] (G.H ++ hC pres l) 17 (Q3 (Ah (.ptr 17 []) .nili) (G.H ++ hC pres l ++ [(17,vwV 2 0),(18,Dj 2 G.c),(19,.ar 1 2 fun j=>.bool (decide (j=0)))]) 20):=by
 have hRu:=IL ok.g G.D G.l G.g G.s G.n
 have hLn:=MA ok.g G.D G.l G.g G.s G.n
 have hC0:=FQ ok.g G.D G.l G.g G.s G.n G.c 0 Aa
 have hC1:=FQ ok.g G.D G.l G.g G.s G.n G.c 1 Aa
 have hT:=Fg ok.g.t.s.v.g.p k359 (D:=1) (k:=0) (i:=0) Aj Aj Aj
 rw [show pw 0 0=1#64 by decide,show BitVec.ofNat 64 (trI 1 0 0)=1#64 by decide] at hT
 have hT1:=Fg ok.g.t.s.v.g.p k359 (D:=1) (k:=1) (i:=0) Aj Aj Aj
 rw [show pw 1 0=2#64 by decide,show BitVec.ofNat 64 (trI 1 1 0)=0#64 by decide] at hT1
 have hA:=JG ok.a pres l
 have hA1:=Rs ok.a pres l
 rw [hD,hn] at hRu hLn hC0 hC1
 unfold hC
 unfold hB at hA hA1
 generalize BO.com=C1 at *
 simp only [Mc.v,B3,BO,mach,Ax,B4,CP] at hA hA1
 generalize hy:d1 1#8=y at *
 refine Ab ok.k254 rfl fun x hx=>?_
 refine es 2000 ?_;(simp only [Ahv,Af4,Gs.H,hD,hn,C4,Dc,AJ,Dj,Cl.v,BM,FC,Eo,Ax,B4,CP,Mc.v,B3,BO,C7,DX,seval])
 have z1:IntKind.i64.wrap 1=1:=rfl
 have z2:IntKind.i64.wrap 2=2:=rfl
 have hne:=eq_false hne
 have zz:=F5 @C4.eq_1 @Dc.eq_1 @AJ.eq_1 @dg.eq_1;refine Qw [0,1,2] [0] (hRu) ?_
 (simp only [C4,Dc,AJ,Dj,Cl.v,BM,FC,Eo,Ax,B4,CP,LZ,seval])
 have zz:=F5 @C4.eq_1 @Dc.eq_1 @AJ.eq_1 @dg.eq_1;refine Df [0,1,2] [0] (hLn) ?_
 (simp only [C4,Dc,AJ,Dj,Cl.v,BM,FC,Eo,Ax,B4,CP,LZ,seval])
 refine Au ?_
 refine es 2000 ?_
 (simp only [C4,Dc,AJ,Dj,Cl.v,BM,FC,Eo,Ax,B4,CP,LZ,seval])
 have zz:=YF @C4.eq_1 @Dc.eq_1 @AJ.eq_1 @Dj.eq_1 @Cl.v.eq_1 @dg.eq_1;refine Df [0,1,2] [0,1] (hC0) ?_
 (simp only [BV,hp,hv,C4,Dc,AJ,Dj,Cl.v,BM,FC,Eo,Ax,B4,CP,seval])
 refine BC (hT) ?_
 (simp only [BV,C4,Dc,AJ,Dj,Cl.v,BM,FC,Eo,Ax,B4,CP,seval])
 refine PX [4,5,6,7,8,9,10,11,12,13,14,15,16] [4,5,6,7,8,9,10,11,12,14,15,16] (hA) (by constructor <;> (try simp only [K0,Al,DN,seval]) <;> first | exact q1 | (intro j hj;rcases (show j=0 ∨ j=1 by omega) with rfl | rfl <;> simp only [Nat.one_ne_zero,C2,LY,seval])) ?_
 (simp only [Dq,Bx,Ba,Am,decide_true,z1,K0,Nat.testBit,List.map_nil,List.map_cons,DX,C4,Dc,AJ,Dj,Cl.v,BM,FC,Eo,Ax,B4,CP,seval])
 repeat refine sd ?_
 refine Au ?_
 refine es 2000 ?_
 (simp only [z1,C4,Dc,AJ,Dj,Cl.v,BM,FC,Eo,Ax,B4,CP,LZ,seval])
 have zz:=YF @C4.eq_1 @Dc.eq_1 @AJ.eq_1 @Dj.eq_1 @Cl.v.eq_1 @dg.eq_1;refine Df [0,1,2] [0,1] (hC1) ?_
 (simp only [BV,hp1,hv1,C4,Dc,AJ,Dj,Cl.v,BM,FC,Eo,Ax,B4,CP,seval])
 refine BC (hT1) ?_
 (simp only [BV,C4,Dc,AJ,Dj,Cl.v,BM,FC,Eo,Ax,B4,CP,seval])
 refine PX [4,5,6,7,8,9,10,11,12,13,14,15,16] [4,5,6,7,8,9,10,11,12,14,15,16] (hA1) (by constructor <;> (try simp only [K0,Al,DN,seval]) <;> first | exact q1 | (intro j hj;rcases (show j=0 ∨ j=1 by omega) with rfl | rfl <;> simp only [Nat.one_ne_zero,C2,LY,seval])) ?_
 (simp only [Dq,Bx,Ba,Am,hne,decide_false,decide_true,z1,z2,K0,Nat.testBit,List.map_nil,List.map_cons,DX,C4,Dc,AJ,Dj,Cl.v,BM,FC,Eo,Ax,B4,CP,seval])
 repeat refine sd ?_
 refine Au ?_
 refine es 2000 ?_
 (simp only [z1,C4,Dc,AJ,Dj,Cl.v,BM,FC,Eo,Ax,B4,CP,LZ,seval])
 repeat refine sd ?_
 refine Ap.mk hx [0,1,2,3,4,5,6,7,8,9,10,11,12,13,14,15,16,497,3473,3633] [] (Ah (.ptr 17 []) .nili) _ 20 Aj (by (simp only [DS,seval])) (by simp only [LV,BV,seval,LY]) ?_ ⟨rfl,rfl,rfl⟩
 simp only [vwV,K0,DN,Bx,Al,C4,Dc,AJ,Dj,Cl.v,BM,FC,Eo,Ax,B4,CP,seval]
 refine ⟨fun j hj=>?_,fun j hj=>?_,fun j hj=>?_⟩
 ·rcases (show j=0 ∨ j=1 by omega) with rfl | rfl <;> simp only [Nat.one_ne_zero,C2,LN,LP,V.ren,AM,A5,BJ,BT,seval,LY]
 ·rcases (show j=0 ∨ j=1 by omega) with rfl | rfl <;> simp only [hp,hv,hp1,hv1,dg,Nat.one_ne_zero,Nat.lt_irrefl,Nat.zero_lt_one,Nat.sub_self,C2,LN,LP,V.ren,AM,A5,BJ,BT,seval,LY]
 ·rcases (show j=0 ∨ j=1 by omega) with rfl | rfl <;> simp only [Nat.one_ne_zero,Nat.lt_irrefl,Nat.zero_lt_one,Nat.sub_self,C2,decide_true,decide_false,LN,LP,V.ren,AM,A5,BJ,BT,seval,LY]
theorem Gd:∀ h q,BP (fun _=>0#64) h q=At h
 | 0,q=>by simp only [BP,show CF 0#64=Dg.zero from S0,ite_self];rfl
 | h + 1,q=>by rw [BP,Gd h,Gd h];rfl
theorem WL (w:Nat→BitVec 64) (hw:∀ j,j < 4→w j=0#64):Jp (AV w)=0:=by
 have h:Jp (AV w)=C5 8 (fun _=>0) 32:=Cn 8 32 (fun k hk=>by
  rw [AV,Dg.at_mk' _ _ hk,Bb,hw _ Aa]
  have:∀ k,k < 32→(V1 (0#64) (k % 8)).toNat=0:=Aj
  exact this k hk)
 rw [h];decide
theorem Al8:Jp (AV (w4 0#64 1#64 0#64 0#64))=1 <<< 120:=by
 have h:Jp (AV (w4 0#64 1#64 0#64 0#64))=C5 8 (fun k=>if k=15 then 1 else 0) 32:=Cn 8 32 (fun k hk=>by
  rw [AV,Dg.at_mk' _ _ hk]
  have:∀ k,k < 32→(Bb (w4 0#64 1#64 0#64 0#64) k).toNat=if k=15 then 1 else 0:=Aj
  exact this k hk)
 rw [h];decide
def Ap5:Nat:=IP (IP 0 0) (IP 0 0)
def WB (x:Nat):Nat:=IP (HG 13) (IP Ap5 x)
theorem Ahi:Jp B3.com=WB 0:=by
 show Jp (BW (BP (fun _=>0#64) 13 0) (BW (BW (BW (AV fun _=>0#64) (AV fun _=>0#64)) (BW (AV fun _=>0#64) (AV fun _=>0#64))) (AV (w4 0#64 0#64 0#64 0#64))))=_
 rw [Fs,Gd,KX,Fs,Fs,Fs,WL _ (fun _ _=>rfl),WL _ Aj];rfl
theorem W7:Jp BO.com=WB (1 <<< 120):=by
 show Jp (BW (BP (fun _=>0#64) 13 0) (BW (BW (BW (AV fun _=>0#64) (AV fun _=>0#64)) (BW (AV fun _=>0#64) (AV fun _=>0#64))) (AV (w4 0#64 1#64 0#64 0#64))))=_
 rw [Fs,Gd,KX,Fs,Fs,Fs,WL _ (fun _ _=>rfl),Al8];rfl
theorem Rz:Nat.beq (WB (1 <<< 120)) (WB 0)=false:=by kernel_rfl
theorem Aiy:¬ BO.com=B3.com:=by
 intro h
 have h2:=Rz
 rw [← W7,← Ahi,h,Nat.beq_refl] at h2
 cases h2
end Mv
