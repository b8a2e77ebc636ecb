/- A part. -/
import Derived.Test.YtlfkjfonpacelaaGreatDoorJN
set_option linter.all false
set_option maxRecDepth 20000
set_option maxHeartbeats 8000000
namespace Mv
open Go
def DD (p:BitVec 64):List (BitVec 64)→Option Nat
 | []=>none
 | q :: r=>if p=q then some 0 else (DD p r).map (· + 1)
def IS (cm:BitVec 64→Dg) (l:List (BitVec 64)):V:=.mp l.length (fun j=>W (l.getD j 0#64)) (fun j=>dg (cm (l.getD j 0#64)))
theorem Afr (p q:BitVec 64):AX .int (W p) (W q)=decide (p=q):=by
 simp only [W,AX];by_cases h:p=q
 ·subst h;simp
 ·rw [decide_eq_false h,decide_eq_false];intro h2;exact h (BitVec.eq_of_toNat_eq Aa)
theorem Pa (p q:BitVec 64):AR true .int (W p) (W q)=True:=by simp [AR,W]
theorem Lj (p:BitVec 64):(W p).solid=true:=rfl
theorem Qg (p:BitVec 64) (ks:Nat→V):∀ (l:List (BitVec 64)) (i:Nat),(∀ j,j < l.length→ks (i + j)=W (l.getD j 0#64))→HS .int (W p) ks i l.length=(DD p l).map (i + ·)
 | [],_,_=>rfl
 | q :: r, i, h => by
   have h0:=h 0 B9;simp only [Nat.add_zero,List.getD_cons_zero] at h0
   have ih:=Qg p ks r (i + 1) (fun j hj=>by
    have:=h (j + 1) (by simpa using hj);simp only [List.getD_cons_succ] at this
    rw [← this];congr 1;omega)
   simp only [List.length_cons,HS,h0,Afr,DD];by_cases hk:p=q
   ·simp [hk]
   ·simp only [hk,decide_false,To,ih,Option.map_map]
    congr 1
    funext j;simp only [Function.comp];omega
theorem Po (p:BitVec 64) (l:List (BitVec 64)):HS .int (W p) (fun j=>W (l.getD j 0#64)) 0 l.length=DD p l:=by
 rw [Qg p _ l 0 (fun j _=>by rw [Nat.zero_add])];cases DD p l <;> simp
theorem RM (p:BitVec 64):∀ (l:List (BitVec 64)) (i:Nat),DD p l=some i→l.getD i 0#64=p
 | [],_,h=>by cases h
 | q :: r, i, h => by
   rw [DD] at h;by_cases hk:p=q
   ·rw [if_pos hk] at h;cases h;exact hk.symm
   ·rw [if_neg hk] at h;cases hr:DD p r with
    | none=>rw [hr] at h;cases h
    | some k =>
      rw [hr] at h;cases h;exact RM p r k hr
theorem NY (cm:BitVec 64→Dg) (z:Z) (hh:Bool) (l:List (BitVec 64)) (p:BitVec 64) (H:Hp) (i:Nat) (h:DD p l=some i):Df .int z true hh (IS cm l) (W p) H=⟨hh=true,.tup (.fcons 0 (dg (cm p)) (.fcons 1 (.bool true) .fnil)),H⟩:=by
 simp only [Df,IS,Po,h,Lj,Pa,implies_true,Jb,if_true,RM p l i h]
theorem NE (cm:BitVec 64→Dg) (z:Z) (hh:Bool) (l:List (BitVec 64)) (p:BitVec 64) (H:Hp) (h:DD p l=none):Df .int z true hh (IS cm l) (W p) H=⟨hh=true,.tup (.fcons 0 (z.v 0) (.fcons 1 (.bool false) .fnil)),H⟩:=by
 simp only [Df,IS,Po,h,Lj,Pa,implies_true,Jb,if_true]
theorem PL (cm:BitVec 64→Dg) (hh:Bool) (l:List (BitVec 64)) (p:BitVec 64) (id:Nat) (H:Hp) (h:DD p l=none):Hh .int hh (IS cm l) (W p) (dg (cm p)) id H=⟨hh=true,.tup .fnil,CA H id (IS cm (l ++ [p]))⟩:=by
 have e:IS cm (l ++ [p]) = .mp (l.length + 1) (fun j=>if j=l.length then W p else W (l.getD j 0#64)) (fun j=>if j=l.length then dg (cm p) else dg (cm (l.getD j 0#64))):=by
  simp only [IS,List.length_append,List.length_singleton,NP]
  congr 1
  ·funext j;split <;> rfl
  ·funext j;split <;> rfl
 rw [e];simp only [Hh,IS,Po,h,Lj,D4,Pa,Option.getD_none,implies_true,Jb]
theorem B7 (m:List Nat) (cm:BitVec 64→Dg) (l:List (BitVec 64)):(IS cm l).ren m=IS cm l:=by
 simp only [IS,V.ren,Bt,W]
theorem Ao (H:Hp) (m z:List Nat) (cm:BitVec 64→Dg) (l:List (BitVec 64)):Ay H m z (IS cm l) (IS cm l)=True:=by
 refine eq_true ?_;simp only [IS,Ay,true_and];exact fun i _=>⟨by simp [Ay,W],(AJ _ _ _ _ _).mpr rfl⟩
structure Pts (m0:Mc) (p0:List (Dg × Pr)) (n:Nat) (ps:Nat→Pt):Prop where
 pos:0 < n
 z:(ps 0).a=0#64
 b:∀ j,j < n→(ps j).a.toNat < 536870912
 x:∀ j,j < n→((ps j).m,(ps j).p)=xs m0 p0 (ps j).a.toNat
 k:∀ j,j < n→Cx (ps j).p
variable {M:Seat}
def tF (n:Nat) (ps:Nat→Pt) (d:Int) (w:WS) (l:List (Nat→BitVec 64)) (cm:BitVec 64→Dg) (knl:List (BitVec 64)):Hp :=
 [(0,Aw (.sl 2 [] 0 n 3) d (.map 3) (.map 1)),(1,Et l),(2,.ar 3 n fun j=>C5 4 (ps j)),(3,IS cm knl),(4,Aq 5 w.a w.b w.met),(5,BG AL Pr.zero w.ever)]
def tF' (n:Nat) (ps:Nat→Pt) (P:Pt) (d:Int) (w:WS) (l:List (Nat→BitVec 64)) (cm:BitVec 64→Dg) (knl:List (BitVec 64)):Hp :=
 [(0,Aw (.sl 6 [] 0 (n + 1) 3) d (.map 3) (.map 1)),(1,Et l),(3,IS cm knl),(4,Aq 5 w.a w.b w.met),(5,BG AL Pr.zero w.ever),(6,.ar 3 (n + 1) fun j=>C5 4 (if j < n then ps j else P))]
structure OkAx (M:Seat):Prop where
 r:OkRc M
 k154:Ar M 154 O6=true
theorem Eg (m:List Nat) (h:m[4]?=some 4) (p:List (Dg × Pr)) (sl:List (Dg × Bool)) (n:Nat) (q:Nat→Dg):(Dt p 4 sl n q).ren m=Dt p 4 sl n q:=by
 simp only [Dt,V.ren,h,E9,FJ,Bt]
theorem B5 (m:List Nat) (h:m[4]?=some 4) (P:Pt):(C5 4 P).ren m=C5 4 P:=Kx 4 4 m h P
theorem Ax (H:Hp) (m z:List Nat) (h:m[4]?=some 4) (P:Pt):Ay H m z (C5 4 P) (C5 4 P)=True:=eq_true (Ea H m z 4 4 h P)
theorem NV (ok:OkAx M) (n:Nat) (ps:Nat→Pt) (d:Nat) (hd:d < 64) (w w':WS) (l:List (Nat→BitVec 64)) (cm:BitVec 64→Dg) (knl:List (BitVec 64)) (i:BitVec 64) (hi:¬ 1#64 <<< d≤i) (P:Pt) (e:Nat) (hk:DD P.a knl=some e)
 (hR:Ae M 275 [.ptr 0 [],W (i + 1#64)] (tH n ps d w) 6 (Q3 (C5 4 P) (tH n ps d w) 6)) :
 Ae M 154 [.ptr 0 [],W i] (tF n ps d w l cm knl) 6 (Q3 (Ai (dg (cm P.a)) .nili) (tF n ps d w l cm knl) 6):=by
 have hl:=fun z hh H=>NY cm z hh knl P.a H e hk;have hb:C5 4 P = .st 3 (.fcons 0 (W P.a) (.fcons 1 (.imm (mach P.m.f P.m.g P.m.pc P.m.hl P.m.xt)) (.fcons 2 (.imm (Dt P.p 4 P.sl P.n P.q)) .fnil))):=rfl;unfold tF tH at *
 skip
 simp only [Aw,Aq] at hR;refine Ab ok.k154 rfl fun x hx=>?_;refine eX ?_;simp only [O6,R1,Aw,Aq,LZ,seval];repeat refine sd ?_
 simp only [hi,LZ,seval];have zz:=D0 @g8 @j5 @Cg @Ax;refine By [0,1,2,3,4,5] [0,2,4,5] (hR) ?_;simp only [Aw,Aq,Bn,AE,B7,B5,Be,Eg,hb,hl,Bj,B2,BK,seval];have zz:=UW Qu @g8 @j5 @Ah @Ao @Ax @b7;exact AI hx [0,1,2,3,4,5] ⟨rfl,rfl,rfl⟩
theorem Xc (ok:OkAx M) (n:Nat) (ps:Nat→Pt) (d:Nat) (hd:d < 64) (w w':WS) (l:List (Nat→BitVec 64)) (cm:BitVec 64→Dg) (knl:List (BitVec 64)) (i:BitVec 64) (hi:¬ 1#64 <<< d≤i) (P:Pt) (e:Nat) (hk:DD P.a knl=some e)
 (hR:Ae M 275 [.ptr 0 [],W (i + 1#64)] (tH n ps d w) 6 (Q3 (C5 4 P) (tH' n ps P d w') 7)) :
 Ae M 154 [.ptr 0 [],W i] (tF n ps d w l cm knl) 6 (Q3 (Ai (dg (cm P.a)) .nili) (tF' n ps P d w' l cm knl) 7):=by
 have hl:=fun z hh H=>NY cm z hh knl P.a H e hk;have hb:C5 4 P = .st 3 (.fcons 0 (W P.a) (.fcons 1 (.imm (mach P.m.f P.m.g P.m.pc P.m.hl P.m.xt)) (.fcons 2 (.imm (Dt P.p 4 P.sl P.n P.q)) .fnil))):=rfl;unfold tF tH at *
 unfold tF' tH' at *
 simp only [Aw,Aq] at hR;refine Ab ok.k154 rfl fun x hx=>?_;refine eX ?_;simp only [O6,R1,Aw,Aq,LZ,seval];repeat refine sd ?_
 simp only [hi,LZ,seval];have zz:=D0 @g8 @j5 @Cg @Ax;refine By [0,1,2,3,4,5] [0,2,4,5] (hR) ?_;simp only [Aw,Aq,Bn,AE,B7,B5,Be,Eg,hb,hl,Bj,B2,BK,seval];have zz:=UW Qu @g8 @j5 @Ah @Ao @Ax @b7;exact AI hx [0,1,2,3,4,5,262] ⟨rfl,rfl,rfl⟩
theorem Wh (ok:OkAx M) (n:Nat) (ps:Nat→Pt) (d:Nat) (hd:d < 64) (w w':WS) (l:List (Nat→BitVec 64)) (cm:BitVec 64→Dg) (knl:List (BitVec 64)) (i:BitVec 64) (hi:¬ 1#64 <<< d≤i) (P:Pt) (hk:DD P.a knl=none) (hc:cm P.a=P.m.com)
 (hR:Ae M 275 [.ptr 0 [],W (i + 1#64)] (tH n ps d w) 6 (Q3 (C5 4 P) (tH n ps d w) 6)) :
 Ae M 154 [.ptr 0 [],W i] (tF n ps d w l cm knl) 6 (Q3 (Ai (dg (cm P.a)) .nili) (tF n ps d w (oK P.m.f l 256) cm (knl ++ [P.a])) 6):=by
 have hl:=fun z hh H=>NE cm z hh knl P.a H hk;have hu:=fun hh id H=>PL cm hh knl P.a id H hk;have hb:C5 4 P = .st 3 (.fcons 0 (W P.a) (.fcons 1 (.imm (mach P.m.f P.m.g P.m.pc P.m.hl P.m.xt)) (.fcons 2 (.imm (Dt P.p 4 P.sl P.n P.q)) .fnil))):=rfl;have hO:=M0 ok.r.o P.m.f P.m.g P.m.pc P.m.hl P.m.xt n d l;have hcc:BP (Cd P.m.f 13 0) (D2 P.m.g P.m.pc P.m.hl P.m.xt)=cm P.a:=hc.symm;unfold tF tH at *
 skip
 simp only [Aw,Aq] at hR;refine Ab ok.k154 rfl fun x hx=>?_;refine eX ?_;simp only [O6,R1,Aw,Aq,LZ,seval];repeat refine sd ?_
 simp only [hi,LZ,seval];have zz:=D0 @g8 @j5 @Cg @Ax;refine By [0,1,2,3,4,5] [0,2,4,5] (hR) ?_;simp only [Aw,Aq,Bn,AE,B7,B5,Be,Eg,hb,hl,Bj,B2,BK,seval];have zz:=Cv @g8 @c7 @Ah;refine By [0,1,2,3] [0,1] (hO) ?_;rw [hcc];simp only [Aw,Aq,Cz,AE,B7,B5,Be,Eg,hb,hu,Bj,B2,BK,seval];have zz:=UW Qu @g8 @j5 @Ah @Ao @Ax @b7;exact AI hx [0,1,2,3,4,5] ⟨rfl,rfl,rfl⟩
theorem X2 (ok:OkAx M) (n:Nat) (ps:Nat→Pt) (d:Nat) (hd:d < 64) (w w':WS) (l:List (Nat→BitVec 64)) (cm:BitVec 64→Dg) (knl:List (BitVec 64)) (i:BitVec 64) (hi:¬ 1#64 <<< d≤i) (P:Pt) (hk:DD P.a knl=none) (hc:cm P.a=P.m.com)
 (hR:Ae M 275 [.ptr 0 [],W (i + 1#64)] (tH n ps d w) 6 (Q3 (C5 4 P) (tH' n ps P d w') 7)) :
 Ae M 154 [.ptr 0 [],W i] (tF n ps d w l cm knl) 6 (Q3 (Ai (dg (cm P.a)) .nili) (tF' n ps P d w' (oK P.m.f l 256) cm (knl ++ [P.a])) 7):=by
 have hl:=fun z hh H=>NE cm z hh knl P.a H hk;have hu:=fun hh id H=>PL cm hh knl P.a id H hk;have hb:C5 4 P = .st 3 (.fcons 0 (W P.a) (.fcons 1 (.imm (mach P.m.f P.m.g P.m.pc P.m.hl P.m.xt)) (.fcons 2 (.imm (Dt P.p 4 P.sl P.n P.q)) .fnil))):=rfl;have hO:=M0 ok.r.o P.m.f P.m.g P.m.pc P.m.hl P.m.xt (n + 1) d l;have hcc:BP (Cd P.m.f 13 0) (D2 P.m.g P.m.pc P.m.hl P.m.xt)=cm P.a:=hc.symm;unfold tF tH at *
 unfold tF' tH' at *
 simp only [Aw,Aq] at hR;refine Ab ok.k154 rfl fun x hx=>?_;refine eX ?_;simp only [O6,R1,Aw,Aq,LZ,seval];repeat refine sd ?_
 simp only [hi,LZ,seval];have zz:=D0 @g8 @j5 @Cg @Ax;refine By [0,1,2,3,4,5] [0,2,4,5] (hR) ?_;simp only [Aw,Aq,Bn,AE,B7,B5,Be,Eg,hb,hl,Bj,B2,BK,seval];have zz:=Cv @g8 @c7 @Ah;refine By [0,1,262,3] [0,1] (hO) ?_;rw [hcc];simp only [Aw,Aq,Cz,AE,B7,B5,Be,Eg,hb,hu,Bj,B2,BK,seval];have zz:=UW Qu @g8 @j5 @Ah @Ao @Ax @b7;exact AI hx [0,1,2,3,4,5,262] ⟨rfl,rfl,rfl⟩
structure Tr where
 n:Nat
 ps:Nat→Pt
 w:WS
 l:List (Nat→BitVec 64)
 knl:List (BitVec 64)
noncomputable def Ct (m0:Mc) (p0:List (Dg × Pr)) (k:BitVec 64):Dg:=(xs m0 p0 k.toNat).1.com
def Tr.H (t:Tr) (d:Nat) (cm:BitVec 64→Dg):Hp:=[(0,Aw (.sl 2 [] 0 t.n 3) d (.map 3) (.map 1)),(1,Et t.l),(2,.ar 3 t.n fun j=>C5 4 (t.ps j)),(3,IS cm t.knl),(4,Aq 5 t.w.a t.w.b t.w.met),(5,BG AL Pr.zero t.w.ever)]
def Tr.H6 (t:Tr) (d:Nat) (cm:BitVec 64→Dg):Hp:=[(0,Aw (.sl 6 [] 0 t.n 3) d (.map 3) (.map 1)),(1,Et t.l),(3,IS cm t.knl),(4,Aq 5 t.w.a t.w.b t.w.met),(5,BG AL Pr.zero t.w.ever),(6,.ar 3 t.n fun j=>C5 4 (t.ps j))]
theorem TI {d:Nat} (hd:d < 20) {i:BitVec 64} (hi:i.toNat < 2 ^ d):¬ 1#64 <<< d≤i:=by
 rw [BitVec.le_def,BitVec.toNat_shiftLeft,Nat.shiftLeft_eq];have:2 ^ d≤2 ^ 20:=Nat.pow_le_pow_right Al Aa;rw [Nat.mod_eq_of_lt (by show 1 * 2 ^ d < 18446744073709551616;omega)];show ¬ 1 * 2 ^ d≤i.toNat;omega
structure OkAs (M:Seat):Prop where
 a:OkAx M
 k153:Ar M 153 Ag3=true
theorem QT {M:Seat} (ok:OkAs M) (n:Nat) (hn:0 < n) (ps:Nat→Pt) (d:Nat) (l:List (Nat→BitVec 64)) :
 Ae M 153 [.ptr 0 []] [(0,Aw (.sl 2 [] 0 n 3) d (.map 3) (.map 1)),(1,Et l),(2,.ar 3 n fun j=>C5 4 (ps j))] 6
  (Q3 (Ai (dg (ps 0).m.com) .nili) [(0,Aw (.sl 2 [] 0 n 3) d (.map 3) (.map 1)),(1,Et (oK (ps 0).m.f l 256)),(2,.ar 3 n fun j=>C5 4 (ps j))] 6):=by
 have hO:=M0 ok.a.r.o (ps 0).m.f (ps 0).m.g (ps 0).m.pc (ps 0).m.hl (ps 0).m.xt n d l;rw [show BP (Cd (ps 0).m.f 13 0) (D2 (ps 0).m.g (ps 0).m.pc (ps 0).m.hl (ps 0).m.xt)=(ps 0).m.com from rfl] at hO;have hb:C5 4 (ps 0) = .st 3 (.fcons 0 (W (ps 0).a) (.fcons 1 (.imm (mach (ps 0).m.f (ps 0).m.g (ps 0).m.pc (ps 0).m.hl (ps 0).m.xt)) (.fcons 2 (.imm (Dt (ps 0).p 4 (ps 0).sl (ps 0).n (ps 0).q)) .fnil))):=rfl;refine Ab ok.k153 rfl fun x hx=>?_;refine eX ?_;simp only [Ag3,Anx,Aw,hb,LZ,seval];repeat refine sd ?_
 have zz:=Cv @g8 @c7 @Ah;refine By [0,1,2,3] [0,1] (hO) ?_;simp only [Cz,Aw,AE,seval];have zz:=Em @d9 @g8 @Ah @Ax @b7;exact AI hx [0,1,2,3,4,5] ⟨rfl,rfl,rfl⟩
structure OkPt (M:Seat):Prop where
 a:OkAx M
 s:OkOs M
 k155:Ar M 155 Aa4=true
theorem S3 {M:Seat} (ok:OkPt M) (n:Nat) (ps:Nat→Pt) (d:Nat) (hd:d < 64) (w w':WS) (i:BitVec 64) (hi:¬ 1#64 <<< d≤i) (P:Pt)
 (hR:Ae M 275 [.ptr 0 [],W i] (tH n ps d w) 6 (Q3 (C5 4 P) (tH n ps d w) 6)) :
 Ae M 155 [.ptr 0 [],W i] (tH n ps d w) 6 (Q3 (P7 P.m (CJ P.p P.m).1 (CJ P.p P.m).2.1 (CJ P.p P.m).2.2) (tH n ps d w) 6):=by
 have hP:=WQ ok.s P.m P.p P.sl P.n P.q;generalize (CJ P.p P.m).1=e at *
 generalize (CJ P.p P.m).2.1=L at *
 generalize (CJ P.p P.m).2.2=Q at *
 have hb:C5 4 P = .st 3 (.fcons 0 (W P.a) (.fcons 1 (.imm (mach P.m.f P.m.g P.m.pc P.m.hl P.m.xt)) (.fcons 2 (.imm (Dt P.p 4 P.sl P.n P.q)) .fnil))):=rfl;unfold tH at *
 skip
 simp only [Aw,Aq] at hR;refine Ab ok.k155 rfl fun x hx=>?_;cases e with
 | none =>
   simp only [Lbm] at hP;refine eX ?_;simp only [Aa4,Ae4,Aw,Aq,LZ,seval];repeat refine sd ?_
   simp only [hi,LZ,seval];have zz:=D0 @g8 @j5 @Cg @Ax;refine By [0,1,2,3,4,5] [0,2,4,5] (hR) ?_;simp only [Aw,Aq,Bn,B5,Be,Eg,hb,Bj,B2,BK,seval];have zz:=Em @j9 @AT @Bs @DA @b7;refine By [4] [] (hP) ?_;simp only [Je,seval];refine Ap.mk hx [0,1,2,3,4,5] [] (P7 P.m none L Q) _ 6 Al (by (simp only [Di,P7,seval])) (by simp only [LV,Lbm,Bb,dg,BW,BI,seval]) ?_ ⟨rfl,rfl,rfl⟩;simp only [Aw,Aq,Ax,BI,seval]
   done
 | some q =>
   simp only [Lbm] at hP;refine eX ?_;simp only [Aa4,Ae4,Aw,Aq,LZ,seval];repeat refine sd ?_
   simp only [hi,LZ,seval];have zz:=D0 @g8 @j5 @Cg @Ax;refine By [0,1,2,3,4,5] [0,2,4,5] (hR) ?_;simp only [Aw,Aq,Bn,B5,Be,Eg,hb,Bj,B2,BK,seval];have zz:=Em @j9 @AT @Bs @DA @b7;refine By [4] [] (hP) ?_;simp only [Je,seval];refine Ap.mk hx [0,1,2,3,4,5] [] (P7 P.m (some q) L Q) _ 6 Al (by (simp only [Di,P7,seval])) (by simp only [LV,Lbm,Bb,dg,BW,BI,seval]) ?_ ⟨rfl,rfl,rfl⟩;simp only [Aw,Aq,Ax,BI,seval]
   done
noncomputable def pvX (m0:Mc) (p0:List (Dg × Pr)) (k:Nat):V:=P7 (xs m0 p0 k).1 (CJ (xs m0 p0 k).2 (xs m0 p0 k).1).1 (CJ (xs m0 p0 k).2 (xs m0 p0 k).1).2.1 (CJ (xs m0 p0 k).2 (xs m0 p0 k).1).2.2
variable {M:Seat}
theorem Aax (ps:Nat→Pt) (s:BitVec 64):∀ i j,j < i→(ps j).a≤s→(ps j).a≤(ps (bi ps s i)).a
 | 0,j,h,_=>absurd h (Nat.not_lt_zero _)
 | i + 1, j, h, hs => by
   rw [bi];by_cases hj:j=i
   ·subst hj;split
    ·exact BitVec.le_refl _
    ·rename_i hn;rw [BitVec.le_def] at *
     rw [BitVec.lt_def] at hn;omega
   ·have ih:=Aax ps s i j Aa hs;split
    ·rename_i hn;have:=hn.2;rw [BitVec.le_def] at *
     rw [BitVec.lt_def] at this;omega
    ·exact ih
def MB (n:Nat) (ps:Nat→Pt) (P:Pt) (j:Nat):Pt:=if j < n then ps j else P
theorem UP (ps:Nat→Pt) (P:Pt) (s:BitVec 64) (n:Nat) (hn:0 < n):∀ i,i≤n→bi (MB n ps P) s i=bi ps s i
 | 0,_=>rfl
 | i + 1, h => by
   have hb:=Ig ps s n hn i Aa;rw [bi,bi,UP ps P s n hn i Aa];unfold MB;rw [if_pos (by omega:i < n),if_pos hb]
theorem Yq (ps:Nat→Pt) (P:Pt) (s:BitVec 64) (n:Nat) (hn:0 < n):bi (MB n ps P) s (n + 1)=if P.a≤s∧(ps (bi ps s n)).a < P.a then n else bi ps s n:=by
 have hb:=Ig ps s n hn n (Nat.le_refl _);rw [bi,UP ps P s n hn n (Nat.le_refl _)];unfold MB;rw [if_neg (Nat.lt_irrefl n),if_pos hb]
def Ae8 (ps:Nat→Pt) (n:Nat) (s:BitVec 64):Prop:=(ps (bi ps s n)).a=s ∨ (ps (bi ps s n)).m.hl=true
theorem V7 (ok:OkRc M) {m0:Mc} {p0:List (Dg × Pr)} (n:Nat) (hn2:n < 32) (ps:Nat→Pt) (h:Pts m0 p0 n ps) (d:Int) (w:WS) (s:BitVec 64) (hs:s.toNat < 536870912) :
 ∃ (P:Pt) (w':WS),P.a.toNat≤s.toNat∧(P.m,P.p)=xs m0 p0 s.toNat∧(P.m,P.p)=xs m0 p0 P.a.toNat∧Cx P.p ∧
  ((Ae M 275 [.ptr 0 [],W s] (tH n ps d w) 6 (Q3 (C5 4 P) (tH n ps d w) 6)∧P=ps (bi ps s n)∧Ae8 ps n s) ∨
   (Ae M 275 [.ptr 0 [],W s] (tH n ps d w) 6 (Q3 (C5 4 P) (tH' n ps P d w') 7)∧Pts m0 p0 (n + 1) (fun j=>if j < n then ps j else P)∧(ps (bi ps s n)).m.hl=false∧(ps (bi ps s n)).a < P.a∧(P.a=s ∨ P.m.hl=true))):=by
 have hb:=Ig ps s n h.pos n (Nat.le_refl _);have h00:(ps 0).a≤s:=by rw [h.z,BitVec.le_def];exact Nat.zero_le _
 have hle:=QO ps s h00 n;rw [BitVec.le_def] at hle;have hx:=h.x _ hb;by_cases h1:(ps (bi ps s n)).a=s
 ·exact ⟨_,w,by omega,by have e:=congrArg BitVec.toNat h1;rw [← e];exact hx,hx,h.k _ hb,.inl ⟨EU ok n h.pos hn2 ps d w s (.inl h1),rfl,.inl h1⟩⟩
 ·by_cases h2:(ps (bi ps s n)).m.hl=true
  ·refine ⟨_,w,hle,?_,hx,h.k _ hb,.inl ⟨EU ok n h.pos hn2 ps d w s (.inr h2),rfl,.inr h2⟩⟩;obtain ⟨q,hq⟩:∃ q,s.toNat=(ps (bi ps s n)).a.toNat + q:=⟨s.toNat - (ps (bi ps s n)).a.toNat,by omega⟩
   rw [hq,Qa _ (by rw [← hx];exact h2)];exact hx
  ·obtain ⟨P,w',k,k1,k2,k3,k4,k5,k6⟩:=Wo ok n h.pos hn2 ps d w s h00 Aa h1 (by simpa using h2) (h.k _ hb);have h2':(ps (bi ps s n)).m.hl=false:=by simpa using h2
   generalize bi ps s n=b at *
   have e0:(s - (ps b).a).toNat=s.toNat - (ps b).a.toNat:=BitVec.toNat_sub_of_le (by rw [BitVec.le_def];exact hle);rw [e0] at k1 k3;have ea:P.a.toNat=(ps b).a.toNat + k:=by
    rw [k2,BitVec.toNat_add,BitVec.toNat_ofNat];omega
   have exP:(P.m,P.p)=xs m0 p0 P.a.toNat:=by
    rw [ea,YV,← hx];exact k4
   have exS:(P.m,P.p)=xs m0 p0 s.toNat:=by
    rcases k3 with k3 | k3
    ·obtain ⟨q,hq⟩:∃ q,s.toNat=P.a.toNat + q:=⟨s.toNat - P.a.toNat,by omega⟩
     rw [hq,Qa _ (by rw [← exP];exact k3)];exact exP
    ·rw [exP];congr 1;omega
   have hne:(ps b).a.toNat ≠ s.toNat:=fun h=>h1 (BitVec.eq_of_toNat_eq h);have hk0:k ≠ 0:=fun h0=>by
    subst h0;rcases k3 with k3 | k3
    ·have:P.m=(ps b).m:=(Prod.mk.inj k4).1;rw [this,h2'] at k3;cases k3
    ·omega
   refine ⟨P,w',by omega,exS,exP,k5,.inr ⟨k6,⟨by omega,?_,fun j hj=>?_,fun j hj=>?_,fun j hj=>?_⟩,h2',?_,?_⟩⟩
   ·rw [if_pos h.pos];exact h.z
   ·split
    ·exact h.b j (by assumption)
    ·omega
   ·split
    ·exact h.x j (by assumption)
    ·exact exP
   ·split
    ·exact h.k j (by assumption)
    ·exact k5
   ·rw [BitVec.lt_def];omega
   ·rcases k3 with k3 | k3
    ·exact .inr k3
    ·exact .inl (BitVec.eq_of_toNat_eq Aa)
theorem Ahc {m0:Mc} {p0:List (Dg × Pr)} {n:Nat} {ps:Nat→Pt} (h:Pts m0 p0 n ps) {P:Pt} {s0:BitVec 64} (h1:(ps (bi ps s0 n)).m.hl=false) (h3:P.a.toNat≤s0.toNat) (s:BitVec 64) (hc:Ae8 ps n s) :
 bi (MB n ps P) s (n + 1)=bi ps s n:=by
 rw [Yq ps P s n h.pos,if_neg];rintro ⟨g1,g2⟩;have hb:=Ig ps s n h.pos n (Nat.le_refl _);have hb0:=Ig ps s0 n h.pos n (Nat.le_refl _);rw [BitVec.le_def] at g1;rw [BitVec.lt_def] at g2;rcases hc with hc | hc
 ·rw [hc] at g2;omega
 ·have hm:=Aax ps s0 n _ hb (by rw [BitVec.le_def];omega);rw [BitVec.le_def] at hm;obtain ⟨q,hq⟩:∃ q,(ps (bi ps s0 n)).a.toNat=(ps (bi ps s n)).a.toNat + q:=⟨_,(Nat.add_sub_cancel' hm).symm⟩
  have e1:=h.x _ hb;have e2:=h.x _ hb0;rw [hq,Qa _ (by rw [← e1];exact hc),← e1] at e2;have:=(Prod.mk.inj e2).1;rw [← this,h1] at hc;cases hc
theorem Ld (p:BitVec 64) (q:List (BitVec 64)):∀ (l:List (BitVec 64)) (e:Nat),DD p l=some e→∃ e',DD p (l ++ q)=some e'
 | [],_,h=>by cases h
 | r :: l, e, h => by
   rw [DD] at h;rw [List.cons_append,DD];by_cases hr:p=r
   ·exact ⟨0,if_pos hr⟩
   ·rw [if_neg hr] at h ⊢;cases hl:DD p l with
    | none=>rw [hl] at h;cases h
    | some k =>
      obtain ⟨k',hk'⟩:=Ld p q l k hl;rw [hk'];exact ⟨_,rfl⟩
theorem LL (p:BitVec 64):∀ l:List (BitVec 64),∃ e,DD p (l ++ [p])=some e
 | []=>⟨0,by rw [List.nil_append,DD,if_pos rfl]⟩
 | r :: l => by
   rw [List.cons_append,DD];by_cases hr:p=r
   ·exact ⟨0,if_pos hr⟩
   ·obtain ⟨k,hk⟩:=LL p l;rw [if_neg hr,hk];exact ⟨_,rfl⟩
def P1 (t:Tr) (s:BitVec 64):Prop:=Ae8 t.ps t.n s∧∃ e,DD (t.ps (bi t.ps s t.n)).a t.knl=some e
theorem Q9 {m0:Mc} {p0:List (Dg × Pr)} {t:Tr} (h:Pts m0 p0 t.n t.ps) {P:Pt} {s0:BitVec 64} (h1:(t.ps (bi t.ps s0 t.n)).m.hl=false) (h3:P.a.toNat≤s0.toNat) (w:WS) (L:List (Nat→BitVec 64)) (q:List (BitVec 64)) (s:BitVec 64) (hc:P1 t s) :
 P1 ⟨t.n + 1,fun j=>if j < t.n then t.ps j else P,w,L,t.knl ++ q⟩ s:=by
 have e:=Ahc h h1 h3 s hc.1;have hb:=Ig t.ps s t.n h.pos t.n (Nat.le_refl _);have e2:MB t.n t.ps P (bi (MB t.n t.ps P) s (t.n + 1))=t.ps (bi t.ps s t.n):=by rw [e];unfold MB;rw [if_pos hb]
 obtain ⟨h4,k,h5⟩:=hc;obtain ⟨k',h6⟩:=Ld _ q _ k h5;refine ⟨?_,k',?_⟩
 ·show (MB t.n t.ps P (bi (MB t.n t.ps P) s (t.n + 1))).a=s ∨ _;rcases h4 with h4 | h4
  ·left;rw [e2];exact h4
  ·right;show (MB t.n t.ps P (bi (MB t.n t.ps P) s (t.n + 1))).m.hl=true;rw [e2];exact h4
 ·show DD (MB t.n t.ps P (bi (MB t.n t.ps P) s (t.n + 1))).a _=_;rw [e2];exact h6
theorem Ru {m0:Mc} {p0:List (Dg × Pr)} {t:Tr} (h:Pts m0 p0 t.n t.ps) {P:Pt} {s:BitVec 64} (h2:(t.ps (bi t.ps s t.n)).a < P.a) (h3:P.a.toNat≤s.toNat) (h4:P.a=s ∨ P.m.hl=true) (w:WS) (L:List (Nat→BitVec 64)) (kn:List (BitVec 64)) (h5:∃ e,DD P.a kn=some e) :
 P1 ⟨t.n + 1,fun j=>if j < t.n then t.ps j else P,w,L,kn⟩ s:=by
 have e:=Yq t.ps P s t.n h.pos;rw [if_pos ⟨by rw [BitVec.le_def];exact h3,h2⟩] at e;have e2:MB t.n t.ps P (bi (MB t.n t.ps P) s (t.n + 1))=P:=by rw [e];unfold MB;rw [if_neg (Nat.lt_irrefl _)]
 obtain ⟨k,h5⟩:=h5;refine ⟨?_,k,?_⟩
 ·show (MB t.n t.ps P (bi (MB t.n t.ps P) s (t.n + 1))).a=s ∨ (MB t.n t.ps P (bi (MB t.n t.ps P) s (t.n + 1))).m.hl=true;rw [e2];exact h4
 ·show DD (MB t.n t.ps P (bi (MB t.n t.ps P) s (t.n + 1))).a _=_;rw [e2];exact h5
theorem Ajb (ok:OkAx M) {m0:Mc} {p0:List (Dg × Pr)} (t:Tr) (ht:t.n < 32) (hp:Pts m0 p0 t.n t.ps) (d:Nat) (hd:d < 20) (i:BitVec 64) (hi:i.toNat < 2 ^ d) :
 ∃ t':Tr,t'.n≤t.n + 1∧Pts m0 p0 t'.n t'.ps∧P1 t' (i + 1#64)∧(∀ s,P1 t s→P1 t' s) ∧
  (Ae M 154 [.ptr 0 [],W i] (t.H d (Ct m0 p0)) 6 (Q3 (Ai (dg (Ct m0 p0 (i + 1#64))) .nili) (t'.H d (Ct m0 p0)) 6) ∨
   Ae M 154 [.ptr 0 [],W i] (t.H d (Ct m0 p0)) 6 (Q3 (Ai (dg (Ct m0 p0 (i + 1#64))) .nili) (t'.H6 d (Ct m0 p0)) 7)):=by
 have hl:=TI hd hi;have h20:2 ^ d≤2 ^ 20:=Nat.pow_le_pow_right Al Aa;have hi1:(i + 1#64).toNat=i.toNat + 1:=Aqv;obtain ⟨P,w',h1,h2,h3,h4,h5⟩:=V7 ok.r t.n ht t.ps hp d t.w (i + 1#64) (by rw [hi1];omega);have hc:Ct m0 p0 P.a=P.m.com:=by unfold Ct;rw [← h3]
 have hc2:Ct m0 p0 P.a=Ct m0 p0 (i + 1#64):=by rw [hc];unfold Ct;rw [← h2]
 rw [← hc2];rcases h5 with ⟨h5,hP,hA⟩ | ⟨h5,h6,h7,h8,h9⟩
 ·cases hk:DD P.a t.knl with
  | some e=>exact ⟨t,Nat.le_succ _,hp,⟨hA,e,by rw [← hP];exact hk⟩,fun _ h=>h,.inl (NV ok t.n t.ps d Aa t.w t.w t.l _ t.knl i hl P e hk h5)⟩
  | none =>
    have hA2:=Wh ok t.n t.ps d Aa t.w t.w t.l _ t.knl i hl P hk hc h5;generalize oK P.m.f t.l 256=L at hA2;obtain ⟨e,he⟩:=LL P.a t.knl;refine ⟨⟨t.n,t.ps,t.w,L,t.knl ++ [P.a]⟩,Nat.le_succ _,hp,⟨hA,e,by rw [hP] at he ⊢;exact he⟩,fun s h=>⟨h.1,?_⟩,.inl hA2⟩;obtain ⟨k,hk⟩:=h.2;exact Ld _ _ _ k hk
 ·cases hk:DD P.a t.knl with
  | some e=>exact ⟨⟨t.n + 1,fun j=>if j < t.n then t.ps j else P,w',t.l,t.knl⟩,Nat.le_refl _,h6,Ru hp h8 h1 h9 _ _ _ ⟨e,hk⟩,fun s h=>by have:=Q9 hp h7 h1 w' t.l [] s h;rw [List.append_nil] at this;exact this,.inr (Xc ok t.n t.ps d Aa t.w w' t.l _ t.knl i hl P e hk h5)⟩
  | none =>
    have hA:=X2 ok t.n t.ps d Aa t.w w' t.l _ t.knl i hl P hk hc h5;generalize oK P.m.f t.l 256=L at hA;exact ⟨⟨t.n + 1,fun j=>if j < t.n then t.ps j else P,w',L,t.knl ++ [P.a]⟩,Nat.le_refl _,h6,Ru hp h8 h1 h9 _ _ _ (LL _ _),fun s h=>Q9 hp h7 h1 w' L [P.a] s h,.inr hA⟩
structure Full (m0:Mc) (p0:List (Dg × Pr)) (d:Nat) (t:Tr):Prop where
 p:Pts m0 p0 t.n t.ps
 n:t.n≤17
 c:∀ s:BitVec 64,1≤s.toNat→s.toNat≤2 ^ d→P1 t s
theorem PM (ok:OkAx M) {m0:Mc} {p0:List (Dg × Pr)} (t:Tr) (d:Nat) (hF:Full m0 p0 d t) (hd:d < 20) (i:BitVec 64) (hi:i.toNat < 2 ^ d) :
 Ae M 154 [.ptr 0 [],W i] (t.H d (Ct m0 p0)) 6 (Q3 (Ai (dg (Ct m0 p0 (i + 1#64))) .nili) (t.H d (Ct m0 p0)) 6):=by
 have hl:=TI hd hi;have h20:2 ^ d≤2 ^ 20:=Nat.pow_le_pow_right Al Aa;have hi1:(i + 1#64).toNat=i.toNat + 1:=Aqv;have hn:=hF.n;have hp:=hF.p;obtain ⟨hA,e,he⟩:=hF.c (i + 1#64) Aa Aa;have hR:=EU ok.r t.n hp.pos Aa t.ps d t.w (i + 1#64) hA;have hb:=Ig t.ps (i + 1#64) t.n hp.pos t.n (Nat.le_refl _);have hx:=hp.x _ hb;have hle:=QO t.ps (i + 1#64) (by rw [hp.z,BitVec.le_def];exact Nat.zero_le _) t.n;rw [BitVec.le_def] at hle;have hx2:((t.ps (bi t.ps (i + 1#64) t.n)).m,(t.ps (bi t.ps (i + 1#64) t.n)).p)=xs m0 p0 (i + 1#64).toNat:=by
  rcases hA with hA | hA
  ·rw [hA] at hx;exact hx
  ·obtain ⟨q,hq⟩:∃ q,(i + 1#64).toNat=(t.ps (bi t.ps (i + 1#64) t.n)).a.toNat + q:=⟨_,(Nat.add_sub_cancel' hle).symm⟩
   rw [hq,Qa _ (by rw [← hx];exact hA)];exact hx
 generalize t.ps (bi t.ps (i + 1#64) t.n)=P at *
 have hc2:Ct m0 p0 P.a=Ct m0 p0 (i + 1#64):=by unfold Ct;rw [← hx,hx2]
 rw [← hc2];exact NV ok t.n t.ps d Aa t.w t.w t.l _ t.knl i hl P e he hR
theorem GQ (ok:OkPt M) {m0:Mc} {p0:List (Dg × Pr)} (t:Tr) (d:Nat) (hF:Full m0 p0 d t) (hd:d < 20) (i:BitVec 64) (hi:i.toNat < 2 ^ d) :
 Ae M 155 [.ptr 0 [],W i] (tH t.n t.ps d t.w) 6 (Q3 (pvX m0 p0 i.toNat) (tH t.n t.ps d t.w) 6):=by
 have hl:=TI hd hi;have hn:=hF.n;have hp:=hF.p;have hb:=Ig t.ps i t.n hp.pos t.n (Nat.le_refl _);have hx:=hp.x _ hb;have hle:=QO t.ps i (by rw [hp.z,BitVec.le_def];exact Nat.zero_le _) t.n;rw [BitVec.le_def] at hle;have hA:Ae8 t.ps t.n i:=by
  by_cases h0:i.toNat=0
  ·exact .inl (BitVec.eq_of_toNat_eq Aa)
  ·exact (hF.c i Aa Aa).1
 have hR:=EU ok.a.r t.n hp.pos Aa t.ps d t.w i hA;have hx2:((t.ps (bi t.ps i t.n)).m,(t.ps (bi t.ps i t.n)).p)=xs m0 p0 i.toNat:=by
  rcases hA with hA | hA
  ·rw [hA] at hx;exact hx
  ·obtain ⟨q,hq⟩:∃ q,i.toNat=(t.ps (bi t.ps i t.n)).a.toNat + q:=⟨_,(Nat.add_sub_cancel' hle).symm⟩
   rw [hq,Qa _ (by rw [← hx];exact hA)];exact hx
 generalize t.ps (bi t.ps i t.n)=P at *
 have e1:P.m=(xs m0 p0 i.toNat).1:=by rw [← hx2]
 have e2:P.p=(xs m0 p0 i.toNat).2:=by rw [← hx2]
 unfold pvX;rw [← e1,← e2];exact S3 ok t.n t.ps d Aa t.w t.w i hl P hR
theorem HY {M:Seat} (okA:OkM M) (ok:OkI M) (kx:OkI75 M) (k151:Ar M 151 Ym=true) (l:List In) (v:V) (hv:Akr l v) (hl:l.length < 9223372036854775808) :
 Ae M 151 [v] [] 0 (Q3 (.ptr 0 []) [(0,mach (ldM l).f (ldM l).g (ldM l).pc (ldM l).hl (ldM l).xt)] 1):=by
 rcases Nat.eq_zero_or_pos l.length with h0 | h0
 ·obtain rfl:l=[]:=List.length_eq_zero_iff.1 h0;have hW:=MO ok kx v (by rcases hv with h | ⟨h,_⟩ <;> simp [h]);have hL:=N2 okA;have hvv:∀ H m z,Bz H m z v v:=by
   intro H m z;rcases hv with rfl | ⟨rfl,-⟩ <;> simp only [VU,List.length_nil,LY,seval]
  refine Ab k151 rfl fun x hx=>?_;refine eX ?_;simp only [Ym,Ah9,LZ,seval];refine Aj (hW) ?_ (hus:=⟨hvv _ _ _,trivial⟩);simp only [LZ,seval];have zz:=@c7;refine Jp (hL) ?_;simp only [Bb,mach,seval];have zz:=D0 @c7 @ldM.eq_1 @Afn.eq_1 @List.length_nil.{0};exact AI hx [48] ⟨rfl,rfl,rfl⟩
 ·obtain rfl:v=Kl l:=by
   rcases hv with h | ⟨_,h⟩
   ·exact h
   ·subst h;exact absurd h0 (Nat.lt_irrefl _)
  have hW:=Te ok kx l h0 hl;have hL:=S9 okA (min l.length 8192) Aa (fun j=>Jo (l.getD j default));refine Ab k151 rfl fun x hx=>?_;simp only [VU] at hW ⊢;refine eX ?_;simp only [Ym,Ah9,LZ,seval];refine DY (hW) ?_;simp only [LZ,seval];have zz:=@c7;refine Jp (hL) ?_;simp only [Bb,mach,seval];have zz:=AY @c7 @ldM.eq_1;exact AI hx [48] ⟨rfl,rfl,rfl⟩
theorem WB {M:Seat} (ok:OkHv M) (k359:Ar M 359 M2=true) (pres:List (Dg × Pr)) (l:List (Nat→BitVec 64)) (G:Gs) (hD:G.D=1) (hn:G.n=2) (hp:(G.c 0).pos=1#64) (hv:(G.c 0).val=Cb.com) (hp1:(G.c 1).pos=2#64) (hv1:(G.c 1).val=d1 1#8) (hne:¬ Cb.com=d1 1#8) :
 Ae M 254 [.ptr 0 [],.ptr 4 []] (G.H ++ hC pres l) 17 (Q3 (Ai (.ptr 17 []) .nili) (G.H ++ hC pres l ++ [(17,vwV 2 0),(18,Au 2 G.c),(19,.ar 1 2 fun j=>.bool (decide (j=0)))]) 20):=by
 have hRu:=EW ok.g G.D G.l G.g G.s G.n;have hLn:=E4 ok.g G.D G.l G.g G.s G.n;have hC0:=CS ok.g G.D G.l G.g G.s G.n G.c 0 Aa;have hC1:=CS ok.g G.D G.l G.g G.s G.n G.c 1 Aa;have hT:=Cy ok.g.t.s.v.g.p k359 (D:=1) (k:=0) (i:=0) Al Al Al;rw [show pw 0 0=1#64 by decide,show BitVec.ofNat 64 (E3 1 0 0)=1#64 by decide] at hT;have hT1:=Cy ok.g.t.s.v.g.p k359 (D:=1) (k:=1) (i:=0) Al Al Al;rw [show pw 1 0=2#64 by decide,show BitVec.ofNat 64 (E3 1 1 0)=0#64 by decide] at hT1;have hA:=K9 ok.a pres l;have hA1:=TF ok.a pres l;rw [hD,hn] at hRu hLn hC0 hC1;unfold hC;unfold hB at hA hA1;generalize Cb.com=C1 at *
 simp only [Mc.v,BL,Cb,mach,Aw,BM,Dn] at hA hA1;generalize hy:d1 1#8=y at *
 refine Ab ok.k254 rfl fun x hx=>?_;refine eX ?_;simp only [Agb,Agt,Gs.H,hD,hn,As,Av,Ad,Au,Cl.v,A6,AQ,AM,Aw,BM,Dn,Mc.v,BL,Cb,CP,B3,seval];have z1:IntKind.i64.wrap 1=1:=rfl;have z2:IntKind.i64.wrap 2=2:=rfl;have hne:=eq_false hne;have zz:=D0 @c9 @c8 @b9 @b7;refine G6 [0,1,2] [0] (hRu) ?_;simp only [As,Av,Ad,Au,Cl.v,A6,AQ,AM,Aw,BM,Dn,LZ,seval];have zz:=D0 @c9 @c8 @b9 @b7;refine By [0,1,2] [0] (hLn) ?_;simp only [As,Av,Ad,Au,Cl.v,A6,AQ,AM,Aw,BM,Dn,LZ,seval];refine A5 ?_;refine eX ?_;simp only [As,Av,Ad,Au,Cl.v,A6,AQ,AM,Aw,BM,Dn,LZ,seval];have zz:=Gb @c9 @c8 @b9 @f7 @b8 @b7;refine By [0,1,2] [0,1] (hC0) ?_;simp only [Bb,hp,hv,As,Av,Ad,Au,Cl.v,A6,AQ,AM,Aw,BM,Dn,seval];refine AO (hT) ?_;simp only [Bb,As,Av,Ad,Au,Cl.v,A6,AQ,AM,Aw,BM,Dn,seval];refine RZ [4,5,6,7,8,9,10,11,12,13,14,15,16] [4,5,6,7,8,9,10,11,12,14,15,16] (hA) (by constructor <;> (try simp only [LA,Ah,Fh,seval]) <;> first | exact q1 | (intro j hj;rcases (show j=0 ∨ j=1 by omega) with rfl | rfl <;> simp only [Nat.one_ne_zero,B4,LY,seval])) ?_;simp only [Cz,BF,AE,A3,decide_true,z1,LA,Nat.testBit,List.map_nil,List.map_cons,B3,As,Av,Ad,Au,Cl.v,A6,AQ,AM,Aw,BM,Dn,seval];repeat refine sd ?_
 refine A5 ?_;refine eX ?_;simp only [z1,As,Av,Ad,Au,Cl.v,A6,AQ,AM,Aw,BM,Dn,LZ,seval];have zz:=Gb @c9 @c8 @b9 @f7 @b8 @b7;refine By [0,1,2] [0,1] (hC1) ?_;simp only [Bb,hp1,hv1,As,Av,Ad,Au,Cl.v,A6,AQ,AM,Aw,BM,Dn,seval];refine AO (hT1) ?_;simp only [Bb,As,Av,Ad,Au,Cl.v,A6,AQ,AM,Aw,BM,Dn,seval];refine RZ [4,5,6,7,8,9,10,11,12,13,14,15,16] [4,5,6,7,8,9,10,11,12,14,15,16] (hA1) (by constructor <;> (try simp only [LA,Ah,Fh,seval]) <;> first | exact q1 | (intro j hj;rcases (show j=0 ∨ j=1 by omega) with rfl | rfl <;> simp only [Nat.one_ne_zero,B4,LY,seval])) ?_;simp only [Cz,BF,AE,A3,hne,decide_false,decide_true,z1,z2,LA,Nat.testBit,List.map_nil,List.map_cons,B3,As,Av,Ad,Au,Cl.v,A6,AQ,AM,Aw,BM,Dn,seval];repeat refine sd ?_
 refine A5 ?_;refine eX ?_;simp only [z1,As,Av,Ad,Au,Cl.v,A6,AQ,AM,Aw,BM,Dn,LZ,seval];repeat refine sd ?_
 refine Ap.mk hx [0,1,2,3,4,5,6,7,8,9,10,11,12,13,14,15,16,497,3473,3633] [] (Ai (.ptr 17 []) .nili) _ 20 Al (by (simp only [Di,seval])) (by simp only [LV,Bb,seval,LY]) ?_ ⟨rfl,rfl,rfl⟩;simp only [vwV,LA,Fh,BF,Ah,As,Av,Ad,Au,Cl.v,A6,AQ,AM,Aw,BM,Dn,seval];refine ⟨fun j hj=>?_,fun j hj=>?_,fun j hj=>?_⟩
 ·rcases (show j=0 ∨ j=1 by omega) with rfl | rfl <;> simp only [Nat.one_ne_zero,B4,LN,LP,V.ren,AU,AB,BZ,Ch,seval,LY]
 ·rcases (show j=0 ∨ j=1 by omega) with rfl | rfl <;> simp only [hp,hv,hp1,hv1,dg,Nat.one_ne_zero,Nat.lt_irrefl,Nat.zero_lt_one,Nat.sub_self,B4,LN,LP,V.ren,AU,AB,BZ,Ch,seval,LY]
 ·rcases (show j=0 ∨ j=1 by omega) with rfl | rfl <;> simp only [Nat.one_ne_zero,Nat.lt_irrefl,Nat.zero_lt_one,Nat.sub_self,B4,decide_true,decide_false,LN,LP,V.ren,AU,AB,BZ,Ch,seval,LY]
end Mv
