/- A part. -/
import Derived.Test.YtpcgkiecjakknaaGreatDoorDI
set_option linter.all false
set_option maxRecDepth 20000
set_option maxHeartbeats 8000000
namespace Mv
open Go
variable {M:Seat}
structure OkLe (M:Seat):Prop where
 l:OkLd M
 k126:Au M 126 Ab0=true
 k133:Au M 133 Ai3=true
 k358:Au M 358 Ai2=true
theorem Hv (ok:OkLd M) (p:Int) (hp:p < 0 ∨ 8≤p):Ag M 258 [.ptr 0 [],.int .i64 p] [] 1 (Q3 (er 2) [] 1):=by
 refine Ab ok.k258 rfl fun x hx=>?_
 by_cases e0:p < 0
 ·refine es 2000 ?_;(simp only [XF,Yf,e0,LZ,seval])
  exact Ar.mkZ hx [0] ⟨rfl,rfl,rfl⟩
 ·have e1:(8≤p)=True:=eq_true Aa
  refine es 2000 ?_;(simp only [XF,Yf,e0,e1,LZ,seval])
  exact Ar.mkZ hx [0] ⟨rfl,rfl,rfl⟩
theorem OB (ok:OkLd M) (p:Int) (hp:p < 0 ∨ 8≤p) (v:BitVec 64):Ag M 355 [.ptr 0 [],.int .i64 p,W v] [] 1 (Q3 (er 2) [] 1):=by
 refine Ab ok.k355 rfl fun x hx=>?_
 refine es 2000 ?_;(simp only [YK,Xk,LZ,seval])
 refine Wx [0] [] (Hv ok p hp) (by constructor <;> (try simp only [LY,seval]) <;> exact q1) (by simp only [LX]) ?_
 (simp only [LZ,seval])
 exact Ar.mkZ hx [0] ⟨rfl,rfl,rfl⟩
theorem PA (ok:OkLd M) (p:Int) (hp:p < 0 ∨ 8≤p) (v:BitVec 64):Ag M 250 [.ptr 0 [],.int .i64 p,W v] [] 1 (Q3 (Ah (.int .i64 0) (er 2)) [] 1):=by
 refine Ab ok.k250 rfl fun x hx=>?_
 refine es 2000 ?_;(simp only [RQ,RW,LZ,seval])
 refine Wx [0] [] (OB ok p hp v) (by constructor <;> (try simp only [LY,seval]) <;> exact q1) (by simp only [LX]) ?_
 (simp only [LZ,seval])
 have zz:=@Ah.eq_1;exact Bf hx [0] ⟨rfl,rfl,rfl⟩
theorem OL (ok:OkLd M) (b:Nat→BitVec 64) (i o:BitVec 64) (bs:V) (n:Nat) (hbs:(bs = .nils∧n=1) ∨ ∃ m,bs = .sl 1 [] 0 m 2∧n=2) (k:BitVec 64) (p:Nat) (hp:p < 8) (v:BitVec 64) (h1:b p < v) :
 Ag M 355 [.ptr 0 [],.int .i64 p,W v] [(0,Aq b i o bs k)] n (Q3 (er 21) [(0,Aq b i o bs k)] n):=by
 refine Ab ok.k355 rfl fun x hx=>?_
 have e0:((p:Int) < 0)=False:=eq_false Aa
 have e1:((p:Int) < 8)=True:=eq_true Aa
 have e2:(0≤(p:Int))=True:=eq_true Aa
 rcases hbs with ⟨rfl,rfl⟩ | ⟨m,rfl,rfl⟩
 all_goals
  refine es 2000 ?_;(simp only [YK,Xk,Aq,LZ,seval])
  refine Wx [0] [] (Dq ok p hp) (by constructor <;> (try simp only [LY,seval]) <;> exact q1) (by simp only [LX]) ?_
  (simp only [Aq,h1,e0,e1,e2,LZ,seval])
  repeat refine sd ?_
 ·exact Ar.mkZ hx [0] ⟨rfl,rfl,rfl⟩
 ·exact Ar.mkZ hx [0,1] ⟨rfl,rfl,rfl⟩
theorem OY (ok:OkLd M) (b:Nat→BitVec 64) (i o:BitVec 64) (bs:V) (n:Nat) (hbs:(bs = .nils∧n=1) ∨ ∃ m,bs = .sl 1 [] 0 m 2∧n=2) (k:BitVec 64) (p:Nat) (hp:p < 8) (v:BitVec 64) (h1:b p < v) :
 Ag M 250 [.ptr 0 [],.int .i64 p,W v] [(0,Aq b i o bs k)] n (Q3 (Ah (.int .i64 0) (er 21)) [(0,Aq b i o bs k)] n):=by
 refine Ab ok.k250 rfl fun x hx=>?_
 have hT:=OL ok b i o bs n hbs k p hp v h1
 rcases hbs with ⟨rfl,rfl⟩ | ⟨m,rfl,rfl⟩
 ·refine es 2000 ?_;(simp only [RQ,RW,Aq,LZ,seval])
  have zz:=@Aq.eq_1;refine Om [0] [0] (hT) ?_
  (simp only [Aq,LZ,seval])
  have zz:=@Ah.eq_1;exact Bf hx [0] ⟨rfl,rfl,rfl⟩
 ·refine es 2000 ?_;(simp only [RQ,RW,Aq,LZ,seval])
  have zz:=@Aq.eq_1;refine Bw [0,1] [0] (hT) ?_
  (simp only [Aq,LZ,seval])
  have zz:=@Ah.eq_1;exact Bf hx [0,1] ⟨rfl,rfl,rfl⟩
theorem RY (ok:OkLe M) (p:Int) (hp:p < 0 ∨ 8≤p):Ag M 126 [.ptr 0 [],.int .i64 p] [] 1 (Q3 (Ah (W 0#64) (er 2)) [] 1):=by
 refine Ab ok.k126 rfl fun x hx=>?_
 refine es 2000 ?_;(simp only [Ab0,Ad0,LZ,seval])
 refine Wx [0] [] (Hv ok.l p hp) (by constructor <;> (try simp only [LY,seval]) <;> exact q1) (by simp only [LX]) ?_
 (simp only [LZ,seval])
 have zz:=@Ah.eq_1;exact Bf hx [0] ⟨rfl,rfl,rfl⟩
theorem J9 (ok:OkLe M) (b:Nat→BitVec 64) (i o:BitVec 64) (m:Nat) (k:BitVec 64) (p:Nat) (hp:p < 8) :
 Ag M 126 [.ptr 0 [],.int .i64 p] [(0,Aq b i o (.sl 1 [] 0 m 2) k)] 2 (Q3 (Ah (W (b p)) .nili) [(0,Aq b i o (.sl 1 [] 0 m 2) k)] 2):=by
 refine Ab ok.k126 rfl fun x hx=>?_
 have e0:((p:Int) < 0)=False:=eq_false Aa
 have e1:((p:Int) < 8)=True:=eq_true Aa
 have e2:(0≤(p:Int))=True:=eq_true Aa
 refine es 2000 ?_;(simp only [Ab0,Ad0,Aq,LZ,seval])
 refine Wx [0] [] (Dq ok.l p hp) (by constructor <;> (try simp only [LY,seval]) <;> exact q1) (by simp only [LX]) ?_
 (simp only [Aq,e0,e1,e2,LZ,seval])
 repeat refine sd ?_
 have zz:=@Ah.eq_1;exact Bf hx [0,1] ⟨rfl,rfl,rfl⟩
theorem H8 (ok:OkLe M) (b:Nat→BitVec 64) (i o:BitVec 64) (m:Nat) (k:BitVec 64) :
 Ag M 133 [.ptr 0 []] [(0,Aq b i o (.sl 1 [] 0 m 2) k)] 2 (Q3 (W k) [(0,Aq b i o (.sl 1 [] 0 m 2) k)] 2):=by
 refine Ab ok.k133 rfl fun x hx=>?_
 refine es 2000 ?_;(simp only [Ai3,Ag0,Aq,LZ,seval])
 exact Ar.mkZ hx [0,1] ⟨rfl,rfl,rfl⟩
theorem RI (ok:OkLe M) (b:Nat→BitVec 64) (i o:BitVec 64) (m:Nat) (k:BitVec 64) (v:Nat→BitVec 64) (g:Nat→Bool) (a:Nat) (ha:a < m) (hm:m < 1000) (hg:g a=false) (p:Nat) (hp:p < 8) :
 Ag M 358 [.ptr 0 [],.int .i64 a,.int .i64 p] [(0,Aq b i o (.sl 1 [] 0 m 2) k),(1,.ar 2 m fun j=>A4 (v j) (g j))] 2 (Q3 .nili [(0,Aq (fun j=>if j=p then b p + v a else b j) i o (.sl 1 [] 0 m 2) (k - v a)),(1,.ar 2 m fun j=>A4 (v j) (if j=a then true else g j))] 2):=by
 refine Ab ok.k358 rfl fun x hx=>?_
 have e0:((p:Int) < 0)=False:=eq_false Aa
 have e1:((p:Int) < 8)=True:=eq_true Aa
 have e2:(0≤(p:Int))=True:=eq_true Aa
 have d0:((a:Int) < 0)=False:=eq_false Aa
 have d1:((m:Int)≤(a:Int))=False:=eq_false Aa
 have d2:((a:Int) < (m:Int))=True:=eq_true Aa
 have d3:(0≤(a:Int))=True:=eq_true Aa
 refine es 2000 ?_;(simp only [Ai2,Afk,Aq,LZ,seval])
 refine Wx [0] [] (Dq ok.l p hp) (by constructor <;> (try simp only [LY,seval]) <;> exact q1) (by simp only [LX]) ?_
 (simp only [Aq,A4,hg,e0,e1,e2,d0,d1,d2,d3,LZ,seval])
 repeat refine sd ?_
 refine Ar.mk hx [0,1] [] .nili [(0,Aq (fun j=>if j=p then b p + v a else b j) i o (.sl 1 [] 0 m 2) (k - v a)),(1,.ar 2 m fun j=>A4 (v j) (if j=a then true else g j))] 2 Am (by (simp only [CU,Aq,seval])) (by simp only [LV,Aq,LY,seval]) ?_ ⟨rfl,rfl,rfl⟩
 simp only [Aq,A4,LY,seval]
 refine ⟨fun j hj=>?_,fun j hj=>?_⟩
 ·by_cases h:j=p <;> simp only [h,CL,LY,seval]
 ·by_cases h:j=a
  ·subst h
   simp only [if_true,LY,seval]
  ·simp only [h,if_false,LY,seval]
variable {M:Seat}
structure OkGm (M:Seat):Prop where
 n:OkGN M
 l:OkLd M
 p:OkPo M
 k249:Au M 249 Acw=true
 k248:Au M 248 Ac5=true
 k350:Au M 350 P4=true
 k354:Au M 354 Yu=true
theorem Ge (ok:OkGm M):Ag M 249 [Ac 10#64 0#64] [] 0 (Q3 .nili [] 0):=by
 refine Ab ok.k249 rfl fun x hx=>?_
 refine es 2000 ?_;(simp only [Acw,Abc,Ac,LZ,seval])
 exact Ar.mkZ hx [] ⟨rfl,rfl,rfl⟩
def Ai (d:Int) (l g:BitVec 64) (s:Dg) (ld cs:V):V:=.st 37 (.fcons 0 (Al d l g s) (.fcons 35 ld (.fcons 36 cs .fnil)))
def Ct (v:Dg):Cl:=⟨-1,1#64,v,0,0,0#64,0#64,false,false,false,0⟩
theorem SK (ok:OkGm M) (s v:Dg) (b:Nat→BitVec 64) (i o k:BitVec 64) (hb:¬ b 0 < 1#64) :
 Ag M 112 [Al 2 10#64 0#64 s,.ptr 0 [],.int .i64 0,dg v,W 0#64] [(0,Aq b i o .nils k)] 1 (Q3 (Ah (.ptr 2 []) .nili) [(0,Aq (fun j=>if j=0 then b 0 - 1#64 else b j) i o (.sl 1 [] 0 1 2) (k + 1#64)),(1,.ar 2 1 fun _=>A4 1#64 false),(2,Ai 2 10#64 0#64 s (.ptr 0 []) (.sl 3 [] 0 1 42)),(3,.ar 42 1 fun _=>(Ct v).v)] 4):=by
 have hB:=Dh ok.n 0
 rw [show (if (0:Int) < 0 then 0#64 else BitVec.ofInt 64 0 + 1#64)=1#64 from rfl] at hB
 have hL:=J0 ok.l b i o k 0 Am 1#64 hb
 simp only [Int.natCast_zero] at hL
 refine Ab ok.n.k112 rfl fun x hx=>?_
 refine es 2000 ?_;(simp only [ZM,Acm,Al,Ac,LZ,seval])
 have zz:=@Ac.eq_1;refine Ce (Ge ok) ?_
 (simp only [LZ,seval])
 refine Ak (hB) ?_
 (simp only [LZ,seval])
 have zz:=Bb @Aq.eq_1 @A4.eq_1;refine SM [0] (hL) ?_
 (simp only [AH,Aq,A4,seval])
 refine Ar.mk hx [0,465,817,785] [] (Ah (.ptr 2 []) .nili) [(0,Aq (fun j=>if j=0 then b 0 - 1#64 else b j) i o (.sl 1 [] 0 1 2) (k + 1#64)),(1,.ar 2 1 fun _=>A4 1#64 false),(2,Ai 2 10#64 0#64 s (.ptr 0 []) (.sl 3 [] 0 1 42)),(3,.ar 42 1 fun _=>(Ct v).v)] 4 Am (by (simp only [CU,seval])) (by simp only [LV,Ah,LY,seval]) ?_ ⟨rfl,rfl,rfl⟩
 simp only [Aq,A4,Ai,Al,Ac,Ct,Cl.v,dg,LY,seval,implies_true]
 intro j hj
 obtain rfl:j=0:=Aa
 simp only [if_true,LY,seval,implies_true]
def Bt (c e:Int):V:=.st 2 (.fcons 0 (.int .i64 c) (.fcons 1 (er e) .fnil))
theorem Fn (ok:OkGm M) (c e:Int):Ag M 248 [.int .i64 c,er e] [] 0 (Q3 (.ifc 145 (.ptr 0 [])) [(0,Bt c e)] 1):=by
 refine Ab ok.k248 rfl fun x hx=>?_
 refine es 2000 ?_;(simp only [Ac5,Aal,LZ,seval])
 refine Ar.mk hx [96] [] (.ifc 145 (.ptr 0 [])) [(0,Bt c e)] 1 Am (by (simp only [CU,seval])) (by simp only [LV,LY,seval]) (by simp only [Bt,er,LY,seval]) ⟨rfl,rfl,rfl⟩
theorem FB (ok:OkGm M) (c:Int):Ag M 248 [.int .i64 c,.nili] [] 0 (Q3 .nili [] 0):=by
 refine Ab ok.k248 rfl fun x hx=>?_
 refine es 2000 ?_;(simp only [Ac5,Aal,LZ,seval])
 exact Ar.mkZ hx [] ⟨rfl,rfl,rfl⟩
theorem Od (ok:OkGm M) (v:Dg):Ag M 354 [.ptr 0 [],(Ct v).v] [] 1 (Q3 (W 0#64) [] 1):=by
 refine Ab ok.k354 rfl fun x hx=>?_
 refine es 2000 ?_;(simp only [Yu,Xq,Ct,Cl.v,Ac,LZ,seval])
 exact Ar.mkZ hx [0] ⟨rfl,rfl,rfl⟩
theorem KM (ok:OkGm M) (d:Int) (l g:BitVec 64) (s v:Dg) (ld:V) (hld:ld = .ptr 2 []) :
 Ag M 246 [.ptr 0 [],.int .i64 0] [(0,Ai d l g s ld (.sl 1 [] 0 1 42)),(1,.ar 42 1 fun _=>(Ct v).v)] 3 (Q3 (Ah (Ct v).v .nili) [(0,Ai d l g s ld (.sl 1 [] 0 1 42)),(1,.ar 42 1 fun _=>(Ct v).v)] 3):=by
 subst hld
 refine Ab ok.n.k246 rfl fun x hx=>?_
 refine es 2000 ?_;(simp only [Rm,R8,Ai,Al,Ac,Ct,Cl.v,LZ,seval])
 have zz:=Bb @Ah.eq_1 @dg.eq_1;exact Bf hx [0,1,2] ⟨rfl,rfl,rfl⟩
theorem N0 (ok:OkGm M) (l g:BitVec 64) (s v:Dg):Ag M 350 [.ptr 0 [],(Ct v).v,.bool false] [(0,Ai 2 l g s (.ptr 2 []) (.sl 1 [] 0 1 42))] 3 (Q3 (AS (W 2#64) (.int .i64 1) .nili) [(0,Ai 2 l g s (.ptr 2 []) (.sl 1 [] 0 1 42))] 3):=by
 refine Ab ok.k350 rfl fun x hx=>?_
 have z1:IntKind.i64.wrap 1=1:=rfl
 refine es 2000 ?_;(simp only [P4,Pv,Ai,Al,Ac,Ct,Cl.v,LZ,seval])
 refine Ak (D4 ok.p) ?_
 (simp only [AS,LZ,seval])
 refine Ak (GI ok.p) ?_
 (simp only [AH,z1,seval])
 have zz:=Bb @AS.eq_1 @dg.eq_1;exact Bf hx [0,1,2] ⟨rfl,rfl,rfl⟩
theorem MD (ok:OkGm M) (l g:BitVec 64) (s v:Dg):Ag M 350 [.ptr 0 [],(Ct v).v,.bool true] [(0,Ai 2 l g s (.ptr 2 []) (.sl 1 [] 0 1 42))] 3 (Q3 (AS (W 0#64) (.int .i64 1) (er 45)) [(0,Ai 2 l g s (.ptr 2 []) (.sl 1 [] 0 1 42))] 3):=by
 refine Ab ok.k350 rfl fun x hx=>?_
 have z1:IntKind.i64.wrap 1=1:=rfl
 refine es 2000 ?_;(simp only [P4,Pv,Ai,Al,Ac,Ct,Cl.v,LZ,seval])
 refine Ak (D4 ok.p) ?_
 (simp only [AS,LZ,seval])
 refine Ak (GI ok.p) ?_
 (simp only [AH,seval])
 refine Ak (LI ok.p) ?_
 (simp only [AH,z1,seval])
 have zz:=Bb @AS.eq_1 @dg.eq_1;exact Bf hx [0,1,2] ⟨rfl,rfl,rfl⟩
variable {M:Seat}
def Aap (max:Bool) (x y z w:V) (H:Hp):Out:=match x,y,z,w with
 | .int k a,.int k1 b,.int k2 c,.int k3 d=>⟨k=k1∧k=k2∧k=k3,.int k (OU max (OU max (OU max a b) c) d),H⟩
 | _,_,_,_=>BG H
theorem HX (A:List V) (H:Hp) (n:Nat) (max:Bool) (x y z w:X):Ae A H n (.mm4 max x y z w)=Aap max (x.ev A) (y.ev A) (z.ev A) (w.ev A) H:=rfl
def Kv (a b:BitVec 64):BitVec 64:=if a < b then b else a
theorem Aen (a b:BitVec 64):OU true (a.toNat:Int) (b.toNat:Int)=((Kv a b).toNat:Int):=by
 unfold OU Kv
 simp only [if_true,BitVec.lt_def]
 by_cases h:a.toNat < b.toNat
 ·rw [if_pos h,if_pos Aa]
 ·rw [if_neg h,if_neg Aa]
theorem Lm (a b c d:BitVec 64) (H:Hp):Aap true (W a) (W b) (W c) (W d) H=⟨True,W (Kv (Kv (Kv a b) c) d),H⟩:=by
 simp only [W,Aap,Aen,and_self]
structure OkMv (M:Seat):Prop where
 g:OkGm M
 k351:Au M 351 Yv=true
 k352:Au M 352 RK=true
 k353:Au M 353 Um=true
 k452:Au M 452 WG=true
 k453:Au M 453 WD=true
 k487:Au M 487 T1=true
 k247:Au M 247 Ot=true
 fn352:EC M 352
theorem PS (ok:OkMv M):Ag M 487 [Ac 0#64 0#64,W 0#64,W 3#64] [] 0 (Q3 (Ah (W 3#64) .nili) [] 0):=by
 refine Ab ok.k487 rfl fun x hx=>?_
 have e:Kv (Kv (Kv 0#64 0#64) 0#64) 3#64=3#64:=Am
 refine es 2000 ?_;(simp only [T1,UT,Ac,HX,Lm,e,LZ,seval])
 have zz:=@Ah.eq_1;exact Bf hx [] ⟨rfl,rfl,rfl⟩
theorem OG (ok:OkMv M):Ag M 453 [Ac 10#64 0#64,Ac 0#64 0#64,W 0#64,W 3#64] [] 0 (Q3 (Ah (W 3#64) .nili) [] 0):=by
 refine Ab ok.k453 rfl fun x hx=>?_
 refine es 2000 ?_;(simp only [WD,X6,Ac,LZ,seval])
 have zz:=@Ac.eq_1;refine Ce (Ge ok.g) ?_
 (simp only [LZ,seval])
 have zz:=@Ac.eq_1;refine Ce (PS ok) ?_
 (simp only [AH,seval])
 have zz:=@Ah.eq_1;exact Bf hx [] ⟨rfl,rfl,rfl⟩
theorem Y4 (H:Hp):WY false (W 3#64) (W 10#64) H=⟨True,W 3#64,H⟩:=by
 have:WY false (W 3#64) (W 10#64) H=⟨IntKind.u64=IntKind.u64,W 3#64,H⟩:=rfl
 rw [this];simp
theorem Sq (ok:OkMv M):Ag M 353 [Ac 10#64 0#64,Ac 0#64 0#64,W 0#64,W 3#64] [] 0 (Q3 (Ah (Ac 3#64 3#64) .nili) [] 0):=by
 refine Ab ok.k353 rfl fun x hx=>?_
 refine es 2000 ?_;(simp only [Um,VD,Ac,LZ,seval])
 have zz:=@Ac.eq_1;refine Ce (OG ok) ?_
 (simp only [AH,Y4,seval])
 have zz:=Bb @Ah.eq_1 @Ac.eq_1;exact Bf hx [] ⟨rfl,rfl,rfl⟩
def cl2 (v:Dg) (pl:Int):Cl:=⟨0,0#64,v,pl,0,0#64,0#64,false,false,false,pl⟩
theorem SG (ok:OkMv M) (v:Dg) (X:Cl) (hX:X.par=0) (q:BitVec 64):Ag M 352 [(Ct v).v,.imm X.v,.imm (W q)] [] 0 (Q3 (.bool false) [] 0):=by
 refine Ab ok.k352 rfl fun x hx=>?_
 refine es 2000 ?_;(simp only [RK,Sf,Ct,Cl.v,Ac,hX,LZ,seval])
 exact Ar.mkZ hx [] ⟨rfl,rfl,rfl⟩
theorem Wj {f:Nat} {v w:V} {us:List V} {H:Hp} {n:Nat} {K:V→Hp→Prop} (hf:EC M f) (hv:(v.solid && !v.isAgg)=true) (hw:(w.solid && !w.isAgg)=true) (h:AR M f (us ++ [v,w]) H n K):Eo M (.fn f (.st 2 (.fcons 0 v (.fcons 1 w .fnil)))) us H n K:=by
 refine ⟨⟨hf,?_⟩,h⟩
 simp [V.fhas,V.fget,List.range_succ] at hv hw ⊢
 exact ⟨hv,hw⟩
theorem Jk (ok:OkMv M) (v:Dg) (X:Cl) (hX:X.par=0) (q:BitVec 64):Ag M 452 [.lst 42 1 (fun _=>(Ct v).v),.fn 352 (.st 2 (.fcons 0 (.imm X.v) (.fcons 1 (.imm (W q)) .fnil)))] [] 0 (Q3 (.int .i64 (-1)) [] 0):=by
 have h:=SG ok v X hX q
 refine Ab ok.k452 rfl fun x hx=>?_
 have z1:IntKind.i64.wrap 1=1:=rfl
 refine es 2000 ?_;(simp only [WG,WH,LZ,seval])
 refine AW ?_
 refine es 2000 ?_
 (simp only [Ct,Cl.v,Ac,LZ,seval])
 refine Wj ok.fn352 rfl rfl ?_
 have zz:=Ka @Ct.eq_1 @Cl.v.eq_1 @Ac.eq_1 @dg.eq_1;refine Ce (h) ?_
 (simp only [LZ,seval])
 refine AW ?_
 refine es 2000 ?_
 (simp only [z1,LZ,seval])
 exact Ar.mkZ hx [] ⟨rfl,rfl,rfl⟩
theorem Kq (ok:OkMv M) (v:Dg) (X:Cl) (hX:X.par=0) (q:BitVec 64):Ag M 351 [.lst 42 1 (fun _=>(Ct v).v),.fn 352 (.st 2 (.fcons 0 (.imm X.v) (.fcons 1 (.imm (W q)) .fnil)))] [] 0 (Q3 (.bool false) [] 0):=by
 have h:=Jk ok v X hX q
 refine Ab ok.k351 rfl fun x hx=>?_
 refine es 2000 ?_;(simp only [Yv,W9,LZ,seval])
 have zz:=Ka @Ct.eq_1 @Cl.v.eq_1 @Ac.eq_1 @dg.eq_1;refine Ce (h) ?_
 (simp only [LZ,seval])
 exact Ar.mkZ hx [] ⟨rfl,rfl,rfl⟩
variable {M:Seat}
def Oa (l g:BitVec 64):Prop:=¬ l < 1#64∧¬ 1099511627776#64 < l∧¬ l < g
def Gy (u a b n:BitVec 64):Prop:=n < a ∨ 1099511627776#64 < Kv (Kv (Kv u a) b) n
def YI (a b:BitVec 64):BitVec 64:=if a < b then a else b
theorem Ago (a b:BitVec 64) (H:Hp):WY false (W a) (W b) H=⟨True,W (YI a b),H⟩:=by
 have:WY false (W a) (W b) H=⟨IntKind.u64=IntKind.u64,.int .u64 (OU false (a.toNat:Int) (b.toNat:Int)),H⟩:=rfl
 rw [this]
 have h:OU false (a.toNat:Int) (b.toNat:Int)=((YI a b).toNat:Int):=by
  unfold OU YI
  simp only [SR,BitVec.lt_def]
  repeat' split
  all_goals omega
 rw [h];simp [W]
structure OkCl (M:Seat):Prop where
 v:OkMv M
 k455:Au M 455 Aa9=true
theorem Fc (ok:OkMv M) (l g:BitVec 64) (h:Oa l g):Ag M 249 [Ac l g] [] 0 (Q3 .nili [] 0):=by
 obtain ⟨h1,h2,h3⟩:=h
 refine Ab ok.g.k249 rfl fun x hx=>?_
 refine es 2000 ?_;(simp only [Acw,Abc,Ac,h1,h2,h3,LZ,seval])
 exact Ar.mkZ hx [] ⟨rfl,rfl,rfl⟩
theorem M6 (ok:OkMv M) (u a b n:BitVec 64) (h:Gy u a b n):Ag M 487 [Ac u a,W b,W n] [] 0 (Q3 (Ah (W 0#64) (er 2)) [] 0):=by
 refine Ab ok.k487 rfl fun x hx=>?_
 by_cases h1:n < a
 ·refine es 2000 ?_;(simp only [T1,UT,Ac,HX,Lm,h1,LZ,seval])
  have zz:=@Ah.eq_1;exact Bf hx [] ⟨rfl,rfl,rfl⟩
 ·have h2:1099511627776#64 < Kv (Kv (Kv u a) b) n:=h.resolve_left h1
  refine es 2000 ?_;(simp only [T1,UT,Ac,HX,Lm,h1,h2,LZ,seval])
  have zz:=@Ah.eq_1;exact Bf hx [] ⟨rfl,rfl,rfl⟩
theorem MM (ok:OkMv M) (u a b n:BitVec 64) (h:¬ Gy u a b n):Ag M 487 [Ac u a,W b,W n] [] 0 (Q3 (Ah (W (b + n - a)) .nili) [] 0):=by
 obtain ⟨h1,h2⟩:=not_or.1 h
 refine Ab ok.k487 rfl fun x hx=>?_
 refine es 2000 ?_;(simp only [T1,UT,Ac,HX,Lm,h1,h2,LZ,seval])
 have zz:=@Ah.eq_1;exact Bf hx [] ⟨rfl,rfl,rfl⟩
theorem Hy (ok:OkMv M) (l g u a b n:BitVec 64) (hc:Oa l g) (h:Gy u a b n):Ag M 453 [Ac l g,Ac u a,W b,W n] [] 0 (Q3 (Ah (W 0#64) (er 2)) [] 0):=by
 refine Ab ok.k453 rfl fun x hx=>?_
 refine es 2000 ?_;(simp only [WD,X6,Ac,LZ,seval])
 have zz:=@Ac.eq_1;refine Ce (Fc ok l g hc) ?_
 (simp only [LZ,seval])
 have zz:=@Ac.eq_1;refine Ce (M6 ok u a b n h) ?_
 (simp only [AH,seval])
 have zz:=@Ah.eq_1;exact Bf hx [] ⟨rfl,rfl,rfl⟩
theorem EW (ok:OkMv M) (l g u a b n:BitVec 64) (hc:Oa l g) (h:¬ Gy u a b n):Ag M 453 [Ac l g,Ac u a,W b,W n] [] 0 (Q3 (Ah (W (b + n - a)) .nili) [] 0):=by
 refine Ab ok.k453 rfl fun x hx=>?_
 refine es 2000 ?_;(simp only [WD,X6,Ac,LZ,seval])
 have zz:=@Ac.eq_1;refine Ce (Fc ok l g hc) ?_
 (simp only [LZ,seval])
 have zz:=@Ac.eq_1;refine Ce (MM ok u a b n h) ?_
 (simp only [AH,seval])
 have zz:=@Ah.eq_1;exact Bf hx [] ⟨rfl,rfl,rfl⟩
theorem Pn (ok:OkMv M) (l g u a b n:BitVec 64) (hc:Oa l g) (h:Gy u a b n):Ag M 353 [Ac l g,Ac u a,W b,W n] [] 0 (Q3 (Ah (Ac 0#64 0#64) (er 2)) [] 0):=by
 refine Ab ok.k353 rfl fun x hx=>?_
 refine es 2000 ?_;(simp only [Um,VD,Ac,LZ,seval])
 have zz:=@Ac.eq_1;refine Ce (Hy ok l g u a b n hc h) ?_
 (simp only [AH,seval])
 have zz:=Bb @Ah.eq_1 @Ac.eq_1;exact Bf hx [] ⟨rfl,rfl,rfl⟩
theorem OV (ok:OkMv M) (l g u a b n:BitVec 64) (hc:Oa l g) (h:¬ Gy u a b n) (hl:l≤b + n - a):Ag M 353 [Ac l g,Ac u a,W b,W n] [] 0 (Q3 (Ah (Ac 0#64 0#64) (er 42)) [] 0):=by
 refine Ab ok.k353 rfl fun x hx=>?_
 refine es 2000 ?_;(simp only [Um,VD,Ac,LZ,seval])
 have zz:=@Ac.eq_1;refine Ce (EW ok l g u a b n hc h) ?_
 (simp only [AH,hl,seval])
 have zz:=Bb @Ah.eq_1 @Ac.eq_1;exact Bf hx [] ⟨rfl,rfl,rfl⟩
theorem I8 (ok:OkMv M) (l g u a b n:BitVec 64) (hc:Oa l g) (h:¬ Gy u a b n) (hl:¬ l≤b + n - a):Ag M 353 [Ac l g,Ac u a,W b,W n] [] 0 (Q3 (Ah (Ac (YI (b + n - a) (l - g)) n) .nili) [] 0):=by
 refine Ab ok.k353 rfl fun x hx=>?_
 refine es 2000 ?_;(simp only [Um,VD,Ac,LZ,seval])
 have zz:=@Ac.eq_1;refine Ce (EW ok l g u a b n hc h) ?_
 (simp only [AH,hl,Ago,seval])
 have zz:=Bb @Ah.eq_1 @Ac.eq_1;exact Bf hx [] ⟨rfl,rfl,rfl⟩
theorem PI (ok:OkCl M) (l g u a b n:BitVec 64) (hc:Oa l g) (h:Gy u a b n):Ag M 455 [Ac l g,Ac u a,W b,W n] [] 0 (Q3 (Ah (.bool false) (er 2)) [] 0):=by
 refine Ab ok.k455 rfl fun x hx=>?_
 refine es 2000 ?_;(simp only [Aa9,Abi,Ac,LZ,seval])
 have zz:=@Ac.eq_1;refine Ce (Hy ok.v l g u a b n hc h) ?_
 (simp only [AH,seval])
 have zz:=@Ah.eq_1;exact Bf hx [] ⟨rfl,rfl,rfl⟩
theorem PG (ok:OkCl M) (l g u a b n:BitVec 64) (hc:Oa l g) (h:¬ Gy u a b n):Ag M 455 [Ac l g,Ac u a,W b,W n] [] 0 (Q3 (Ah (.bool (decide (l≤b + n - a))) .nili) [] 0):=by
 refine Ab ok.k455 rfl fun x hx=>?_
 refine es 2000 ?_;(simp only [Aa9,Abi,Ac,LZ,seval])
 have zz:=@Ac.eq_1;refine Ce (EW ok.v l g u a b n hc h) ?_
 (simp only [AH,seval])
 have zz:=@Ah.eq_1;exact Bf hx [] ⟨rfl,rfl,rfl⟩
variable {M:Seat}
def Ap (n:Nat) (c:Nat→Cl):V:=.ar 42 n fun j=>(c j).v
theorem JO (ok:OkGm M) (d:Int) (l g:BitVec 64) (s:Dg) (n:Nat) (a:Int) (ha:a < 0 ∨ (n:Int)≤a) :
 Ag M 246 [.ptr 0 [],.int .i64 a] [(0,Ai d l g s (.ptr 2 []) (.sl 1 [] 0 n 42))] 3 (Q3 (Ah Cl.zero.v (.ifc 145 (.ptr 3 []))) [(0,Ai d l g s (.ptr 2 []) (.sl 1 [] 0 n 42)),(3,Bt a 4)] 4):=by
 have hA:=Fn ok a 4
 refine Ab ok.n.k246 rfl fun x hx=>?_
 by_cases h0:a < 0
 ·refine es 2000 ?_;(simp only [Rm,R8,Ai,Al,Ac,h0,LZ,seval])
  have zz:=@Bt.eq_1;refine Kb (hA) ?_
  (simp only [Bt,LZ,seval])
  refine Ar.mk hx [0,1,2,323] [] (Ah Cl.zero.v (.ifc 145 (.ptr 3 []))) [(0,Ai d l g s (.ptr 2 []) (.sl 1 [] 0 n 42)),(3,Bt a 4)] 4 Am (by (simp only [CU,seval])) (by simp only [LV,AH,Cl.v,Cl.zero,Ac,dg,seval,LY]) (by simp only [Ai,Al,Ac,Bt,dg,LY,seval]) ⟨rfl,rfl,rfl⟩
 ·have h1:(n:Int)≤a:=ha.resolve_left h0
  refine es 2000 ?_;(simp only [Rm,R8,Ai,Al,Ac,h0,h1,LZ,seval])
  have zz:=@Bt.eq_1;refine Kb (hA) ?_
  (simp only [Bt,LZ,seval])
  refine Ar.mk hx [0,1,2,323] [] (Ah Cl.zero.v (.ifc 145 (.ptr 3 []))) [(0,Ai d l g s (.ptr 2 []) (.sl 1 [] 0 n 42)),(3,Bt a 4)] 4 Am (by (simp only [CU,seval])) (by simp only [LV,AH,Cl.v,Cl.zero,Ac,dg,seval,LY]) (by simp only [Ai,Al,Ac,Bt,dg,LY,seval]) ⟨rfl,rfl,rfl⟩
theorem JT (ok:OkGm M) (d:Int) (l g:BitVec 64) (s:Dg) (n:Nat) (c:Nat→Cl) (a:Nat) (ha:a < n) (hr:(c a).rs=true) :
 Ag M 246 [.ptr 0 [],.int .i64 a] [(0,Ai d l g s (.ptr 2 []) (.sl 1 [] 0 n 42)),(1,Ap n c)] 3 (Q3 (Ah Cl.zero.v (.ifc 145 (.ptr 3 []))) [(0,Ai d l g s (.ptr 2 []) (.sl 1 [] 0 n 42)),(1,Ap n c),(3,Bt a 43)] 4):=by
 have hA:=Fn ok a 43
 have d0:((a:Int) < 0)=False:=eq_false Aa
 have d1:((n:Int)≤(a:Int))=False:=eq_false Aa
 have d2:((a:Int) < (n:Int))=True:=eq_true Aa
 have d3:(0≤(a:Int))=True:=eq_true Aa
 refine Ab ok.n.k246 rfl fun x hx=>?_
 refine es 2000 ?_;(simp only [Rm,R8,Ai,Al,Ac,Ap,Cl.v,hr,d0,d1,d2,d3,LZ,seval])
 repeat refine sd ?_
 have zz:=@Bt.eq_1;refine Kb (hA) ?_
 (simp only [Bt,LZ,seval])
 refine Ar.mk hx [0,1,2,467] [] (Ah Cl.zero.v (.ifc 145 (.ptr 3 []))) [(0,Ai d l g s (.ptr 2 []) (.sl 1 [] 0 n 42)),(1,Ap n c),(3,Bt a 43)] 4 Am (by (simp only [CU,seval])) (by simp only [LV,AH,Cl.v,Cl.zero,Ac,dg,seval,LY]) (by simp only [Ai,Al,Ac,Ap,Cl.v,Bt,dg,LY,seval]) ⟨rfl,rfl,rfl⟩
theorem FT (ok:OkGm M) (d:Int) (l g:BitVec 64) (s:Dg) (n:Nat) (c:Nat→Cl) (a:Nat) (ha:a < n) (hr:(c a).rs=false) :
 Ag M 246 [.ptr 0 [],.int .i64 a] [(0,Ai d l g s (.ptr 2 []) (.sl 1 [] 0 n 42)),(1,Ap n c)] 3 (Q3 (Ah (c a).v .nili) [(0,Ai d l g s (.ptr 2 []) (.sl 1 [] 0 n 42)),(1,Ap n c)] 3):=by
 have d0:((a:Int) < 0)=False:=eq_false Aa
 have d1:((n:Int)≤(a:Int))=False:=eq_false Aa
 have d2:((a:Int) < (n:Int))=True:=eq_true Aa
 have d3:(0≤(a:Int))=True:=eq_true Aa
 refine Ab ok.n.k246 rfl fun x hx=>?_
 refine es 2000 ?_;(simp only [Rm,R8,Ai,Al,Ac,Ap,Cl.v,hr,d0,d1,d2,d3,LZ,seval])
 repeat refine sd ?_
 have zz:=Bb @Ah.eq_1 @dg.eq_1;exact Bf hx [0,1,2] ⟨rfl,rfl,rfl⟩
def CQ (c:Nat→Cl) (q:Cl):BitVec 64:=if q.par < 0 then 0#64 else (c q.par.toNat).us
theorem Dc (ok:OkGm M) (d:Int) (l g:BitVec 64) (s:Dg) (n:Nat) (c:Nat→Cl) (q:Cl) (hq:q.par < 0 ∨ ∃ p:Nat,q.par=p∧p < n) :
 Ag M 354 [.ptr 0 [],q.v] [(0,Ai d l g s (.ptr 2 []) (.sl 1 [] 0 n 42)),(1,Ap n c)] 3 (Q3 (W (CQ c q)) [(0,Ai d l g s (.ptr 2 []) (.sl 1 [] 0 n 42)),(1,Ap n c)] 3):=by
 unfold CQ
 refine Ab ok.k354 rfl fun x hx=>?_
 rcases hq with h0 | ⟨p,hp,hn⟩
 ·rw [if_pos h0]
  refine es 2000 ?_;(simp only [Yu,Xq,Ai,Al,Ac,Ap,Cl.v,h0,LZ,seval])
  have zz:=@dg.eq_1;exact Bf hx [0,1,2] ⟨rfl,rfl,rfl⟩
 ·have d0:((p:Int) < 0)=False:=eq_false Aa
  have d2:((p:Int) < (n:Int))=True:=eq_true Aa
  have d3:(0≤(p:Int))=True:=eq_true Aa
  rw [hp,if_neg Aa,Int.toNat_natCast]
  refine es 2000 ?_;(simp only [Yu,Xq,Ai,Al,Ac,Ap,Cl.v,hp,d0,d2,d3,LZ,seval])
  repeat refine sd ?_
  have zz:=@dg.eq_1;exact Bf hx [0,1,2] ⟨rfl,rfl,rfl⟩
end Mv
