/- A part. -/
import Derived.Test.YtpcgkiecjakknaaGreatDoorFG
set_option linter.all false
set_option maxRecDepth 20000
set_option maxHeartbeats 8000000
namespace Mv
open Go
variable {M:Seat}
structure OkGm (M:Seat):Prop where
 n:OkGN M
 l:OkLd M
 p:OkPo M
 k249:Au M 249 Acw=true
 k248:Au M 248 Ac5=true
 k350:Au M 350 P4=true
 k354:Au M 354 Yu=true
theorem Ge (ok:OkGm M):Ag M 249 [Ac 10#64 0#64] [] 0 (Q3 .nili [] 0):=by
 refine Ab ok.k249 rfl fun x hx=>?_
 refine es 2000 ?_;(simp only [Acw,Abc,Ac,LZ,seval])
 exact Ar.mkZ hx [] ⟨rfl,rfl,rfl⟩
def Ai (d:Int) (l g:BitVec 64) (s:Dg) (ld cs:V):V:=.st 37 (.fcons 0 (Al d l g s) (.fcons 35 ld (.fcons 36 cs .fnil)))
def Ct (v:Dg):Cl:=⟨-1,1#64,v,0,0,0#64,0#64,false,false,false,0⟩
theorem SK (ok:OkGm M) (s v:Dg) (b:Nat→BitVec 64) (i o k:BitVec 64) (hb:¬ b 0 < 1#64) :
 Ag M 112 [Al 2 10#64 0#64 s,.ptr 0 [],.int .i64 0,dg v,W 0#64] [(0,Aq b i o .nils k)] 1 (Q3 (Ah (.ptr 2 []) .nili) [(0,Aq (fun j=>if j=0 then b 0 - 1#64 else b j) i o (.sl 1 [] 0 1 2) (k + 1#64)),(1,.ar 2 1 fun _=>A4 1#64 false),(2,Ai 2 10#64 0#64 s (.ptr 0 []) (.sl 3 [] 0 1 42)),(3,.ar 42 1 fun _=>(Ct v).v)] 4):=by
 have hB:=Dh ok.n 0
 rw [show (if (0:Int) < 0 then 0#64 else BitVec.ofInt 64 0 + 1#64)=1#64 from rfl] at hB
 have hL:=J0 ok.l b i o k 0 Am 1#64 hb
 simp only [Int.natCast_zero] at hL
 refine Ab ok.n.k112 rfl fun x hx=>?_
 refine es 2000 ?_;(simp only [ZM,Acm,Al,Ac,LZ,seval])
 have zz:=@Ac.eq_1;refine Ce (Ge ok) ?_
 (simp only [LZ,seval])
 refine Ak (hB) ?_
 (simp only [LZ,seval])
 have zz:=Bb @Aq.eq_1 @A4.eq_1;refine SM [0] (hL) ?_
 (simp only [AH,Aq,A4,seval])
 refine Ar.mk hx [0,465,817,785] [] (Ah (.ptr 2 []) .nili) [(0,Aq (fun j=>if j=0 then b 0 - 1#64 else b j) i o (.sl 1 [] 0 1 2) (k + 1#64)),(1,.ar 2 1 fun _=>A4 1#64 false),(2,Ai 2 10#64 0#64 s (.ptr 0 []) (.sl 3 [] 0 1 42)),(3,.ar 42 1 fun _=>(Ct v).v)] 4 Am (by (simp only [CU,seval])) (by simp only [LV,Ah,LY,seval]) ?_ ⟨rfl,rfl,rfl⟩
 simp only [Aq,A4,Ai,Al,Ac,Ct,Cl.v,dg,LY,seval,implies_true]
 intro j hj
 obtain rfl:j=0:=Aa
 simp only [if_true,LY,seval,implies_true]
def Bt (c e:Int):V:=.st 2 (.fcons 0 (.int .i64 c) (.fcons 1 (er e) .fnil))
theorem Fn (ok:OkGm M) (c e:Int):Ag M 248 [.int .i64 c,er e] [] 0 (Q3 (.ifc 145 (.ptr 0 [])) [(0,Bt c e)] 1):=by
 refine Ab ok.k248 rfl fun x hx=>?_
 refine es 2000 ?_;(simp only [Ac5,Aal,LZ,seval])
 refine Ar.mk hx [96] [] (.ifc 145 (.ptr 0 [])) [(0,Bt c e)] 1 Am (by (simp only [CU,seval])) (by simp only [LV,LY,seval]) (by simp only [Bt,er,LY,seval]) ⟨rfl,rfl,rfl⟩
theorem FB (ok:OkGm M) (c:Int):Ag M 248 [.int .i64 c,.nili] [] 0 (Q3 .nili [] 0):=by
 refine Ab ok.k248 rfl fun x hx=>?_
 refine es 2000 ?_;(simp only [Ac5,Aal,LZ,seval])
 exact Ar.mkZ hx [] ⟨rfl,rfl,rfl⟩
theorem Od (ok:OkGm M) (v:Dg):Ag M 354 [.ptr 0 [],(Ct v).v] [] 1 (Q3 (W 0#64) [] 1):=by
 refine Ab ok.k354 rfl fun x hx=>?_
 refine es 2000 ?_;(simp only [Yu,Xq,Ct,Cl.v,Ac,LZ,seval])
 exact Ar.mkZ hx [0] ⟨rfl,rfl,rfl⟩
theorem KM (ok:OkGm M) (d:Int) (l g:BitVec 64) (s v:Dg) (ld:V) (hld:ld = .ptr 2 []) :
 Ag M 246 [.ptr 0 [],.int .i64 0] [(0,Ai d l g s ld (.sl 1 [] 0 1 42)),(1,.ar 42 1 fun _=>(Ct v).v)] 3 (Q3 (Ah (Ct v).v .nili) [(0,Ai d l g s ld (.sl 1 [] 0 1 42)),(1,.ar 42 1 fun _=>(Ct v).v)] 3):=by
 subst hld
 refine Ab ok.n.k246 rfl fun x hx=>?_
 refine es 2000 ?_;(simp only [Rm,R8,Ai,Al,Ac,Ct,Cl.v,LZ,seval])
 have zz:=Bb @Ah.eq_1 @dg.eq_1;exact Bf hx [0,1,2] ⟨rfl,rfl,rfl⟩
theorem N0 (ok:OkGm M) (l g:BitVec 64) (s v:Dg):Ag M 350 [.ptr 0 [],(Ct v).v,.bool false] [(0,Ai 2 l g s (.ptr 2 []) (.sl 1 [] 0 1 42))] 3 (Q3 (AS (W 2#64) (.int .i64 1) .nili) [(0,Ai 2 l g s (.ptr 2 []) (.sl 1 [] 0 1 42))] 3):=by
 refine Ab ok.k350 rfl fun x hx=>?_
 have z1:IntKind.i64.wrap 1=1:=rfl
 refine es 2000 ?_;(simp only [P4,Pv,Ai,Al,Ac,Ct,Cl.v,LZ,seval])
 refine Ak (D4 ok.p) ?_
 (simp only [AS,LZ,seval])
 refine Ak (GI ok.p) ?_
 (simp only [AH,z1,seval])
 have zz:=Bb @AS.eq_1 @dg.eq_1;exact Bf hx [0,1,2] ⟨rfl,rfl,rfl⟩
theorem MD (ok:OkGm M) (l g:BitVec 64) (s v:Dg):Ag M 350 [.ptr 0 [],(Ct v).v,.bool true] [(0,Ai 2 l g s (.ptr 2 []) (.sl 1 [] 0 1 42))] 3 (Q3 (AS (W 0#64) (.int .i64 1) (er 45)) [(0,Ai 2 l g s (.ptr 2 []) (.sl 1 [] 0 1 42))] 3):=by
 refine Ab ok.k350 rfl fun x hx=>?_
 have z1:IntKind.i64.wrap 1=1:=rfl
 refine es 2000 ?_;(simp only [P4,Pv,Ai,Al,Ac,Ct,Cl.v,LZ,seval])
 refine Ak (D4 ok.p) ?_
 (simp only [AS,LZ,seval])
 refine Ak (GI ok.p) ?_
 (simp only [AH,seval])
 refine Ak (LI ok.p) ?_
 (simp only [AH,z1,seval])
 have zz:=Bb @AS.eq_1 @dg.eq_1;exact Bf hx [0,1,2] ⟨rfl,rfl,rfl⟩
variable {M:Seat}
def Aap (max:Bool) (x y z w:V) (H:Hp):Out:=match x,y,z,w with
 | .int k a,.int k1 b,.int k2 c,.int k3 d=>⟨k=k1∧k=k2∧k=k3,.int k (OU max (OU max (OU max a b) c) d),H⟩
 | _,_,_,_=>BG H
theorem HX (A:List V) (H:Hp) (n:Nat) (max:Bool) (x y z w:X):Ae A H n (.mm4 max x y z w)=Aap max (x.ev A) (y.ev A) (z.ev A) (w.ev A) H:=rfl
def Kv (a b:BitVec 64):BitVec 64:=if a < b then b else a
theorem Aen (a b:BitVec 64):OU true (a.toNat:Int) (b.toNat:Int)=((Kv a b).toNat:Int):=by
 unfold OU Kv
 simp only [if_true,BitVec.lt_def]
 by_cases h:a.toNat < b.toNat
 ·rw [if_pos h,if_pos Aa]
 ·rw [if_neg h,if_neg Aa]
theorem Lm (a b c d:BitVec 64) (H:Hp):Aap true (W a) (W b) (W c) (W d) H=⟨True,W (Kv (Kv (Kv a b) c) d),H⟩:=by
 simp only [W,Aap,Aen,and_self]
structure OkMv (M:Seat):Prop where
 g:OkGm M
 k351:Au M 351 Yv=true
 k352:Au M 352 RK=true
 k353:Au M 353 Um=true
 k452:Au M 452 WG=true
 k453:Au M 453 WD=true
 k487:Au M 487 T1=true
 k247:Au M 247 Ot=true
 fn352:EC M 352
theorem PS (ok:OkMv M):Ag M 487 [Ac 0#64 0#64,W 0#64,W 3#64] [] 0 (Q3 (Ah (W 3#64) .nili) [] 0):=by
 refine Ab ok.k487 rfl fun x hx=>?_
 have e:Kv (Kv (Kv 0#64 0#64) 0#64) 3#64=3#64:=Am
 refine es 2000 ?_;(simp only [T1,UT,Ac,HX,Lm,e,LZ,seval])
 have zz:=@Ah.eq_1;exact Bf hx [] ⟨rfl,rfl,rfl⟩
theorem OG (ok:OkMv M):Ag M 453 [Ac 10#64 0#64,Ac 0#64 0#64,W 0#64,W 3#64] [] 0 (Q3 (Ah (W 3#64) .nili) [] 0):=by
 refine Ab ok.k453 rfl fun x hx=>?_
 refine es 2000 ?_;(simp only [WD,X6,Ac,LZ,seval])
 have zz:=@Ac.eq_1;refine Ce (Ge ok.g) ?_
 (simp only [LZ,seval])
 have zz:=@Ac.eq_1;refine Ce (PS ok) ?_
 (simp only [AH,seval])
 have zz:=@Ah.eq_1;exact Bf hx [] ⟨rfl,rfl,rfl⟩
theorem Y4 (H:Hp):WY false (W 3#64) (W 10#64) H=⟨True,W 3#64,H⟩:=by
 have:WY false (W 3#64) (W 10#64) H=⟨IntKind.u64=IntKind.u64,W 3#64,H⟩:=rfl
 rw [this];simp
theorem Sq (ok:OkMv M):Ag M 353 [Ac 10#64 0#64,Ac 0#64 0#64,W 0#64,W 3#64] [] 0 (Q3 (Ah (Ac 3#64 3#64) .nili) [] 0):=by
 refine Ab ok.k353 rfl fun x hx=>?_
 refine es 2000 ?_;(simp only [Um,VD,Ac,LZ,seval])
 have zz:=@Ac.eq_1;refine Ce (OG ok) ?_
 (simp only [AH,Y4,seval])
 have zz:=Bb @Ah.eq_1 @Ac.eq_1;exact Bf hx [] ⟨rfl,rfl,rfl⟩
def cl2 (v:Dg) (pl:Int):Cl:=⟨0,0#64,v,pl,0,0#64,0#64,false,false,false,pl⟩
theorem SG (ok:OkMv M) (v:Dg) (X:Cl) (hX:X.par=0) (q:BitVec 64):Ag M 352 [(Ct v).v,.imm X.v,.imm (W q)] [] 0 (Q3 (.bool false) [] 0):=by
 refine Ab ok.k352 rfl fun x hx=>?_
 refine es 2000 ?_;(simp only [RK,Sf,Ct,Cl.v,Ac,hX,LZ,seval])
 exact Ar.mkZ hx [] ⟨rfl,rfl,rfl⟩
theorem Wj {f:Nat} {v w:V} {us:List V} {H:Hp} {n:Nat} {K:V→Hp→Prop} (hf:EC M f) (hv:(v.solid && !v.isAgg)=true) (hw:(w.solid && !w.isAgg)=true) (h:AR M f (us ++ [v,w]) H n K):Eo M (.fn f (.st 2 (.fcons 0 v (.fcons 1 w .fnil)))) us H n K:=by
 refine ⟨⟨hf,?_⟩,h⟩
 simp [V.fhas,V.fget,List.range_succ] at hv hw ⊢
 exact ⟨hv,hw⟩
theorem Jk (ok:OkMv M) (v:Dg) (X:Cl) (hX:X.par=0) (q:BitVec 64):Ag M 452 [.lst 42 1 (fun _=>(Ct v).v),.fn 352 (.st 2 (.fcons 0 (.imm X.v) (.fcons 1 (.imm (W q)) .fnil)))] [] 0 (Q3 (.int .i64 (-1)) [] 0):=by
 have h:=SG ok v X hX q
 refine Ab ok.k452 rfl fun x hx=>?_
 have z1:IntKind.i64.wrap 1=1:=rfl
 refine es 2000 ?_;(simp only [WG,WH,LZ,seval])
 refine AW ?_
 refine es 2000 ?_
 (simp only [Ct,Cl.v,Ac,LZ,seval])
 refine Wj ok.fn352 rfl rfl ?_
 have zz:=Ka @Ct.eq_1 @Cl.v.eq_1 @Ac.eq_1 @dg.eq_1;refine Ce (h) ?_
 (simp only [LZ,seval])
 refine AW ?_
 refine es 2000 ?_
 (simp only [z1,LZ,seval])
 exact Ar.mkZ hx [] ⟨rfl,rfl,rfl⟩
theorem Kq (ok:OkMv M) (v:Dg) (X:Cl) (hX:X.par=0) (q:BitVec 64):Ag M 351 [.lst 42 1 (fun _=>(Ct v).v),.fn 352 (.st 2 (.fcons 0 (.imm X.v) (.fcons 1 (.imm (W q)) .fnil)))] [] 0 (Q3 (.bool false) [] 0):=by
 have h:=Jk ok v X hX q
 refine Ab ok.k351 rfl fun x hx=>?_
 refine es 2000 ?_;(simp only [Yv,W9,LZ,seval])
 have zz:=Ka @Ct.eq_1 @Cl.v.eq_1 @Ac.eq_1 @dg.eq_1;refine Ce (h) ?_
 (simp only [LZ,seval])
 exact Ar.mkZ hx [] ⟨rfl,rfl,rfl⟩
variable {M:Seat}
def Oa (l g:BitVec 64):Prop:=¬ l < 1#64∧¬ 1099511627776#64 < l∧¬ l < g
def Gy (u a b n:BitVec 64):Prop:=n < a ∨ 1099511627776#64 < Kv (Kv (Kv u a) b) n
def YI (a b:BitVec 64):BitVec 64:=if a < b then a else b
theorem Ago (a b:BitVec 64) (H:Hp):WY false (W a) (W b) H=⟨True,W (YI a b),H⟩:=by
 have:WY false (W a) (W b) H=⟨IntKind.u64=IntKind.u64,.int .u64 (OU false (a.toNat:Int) (b.toNat:Int)),H⟩:=rfl
 rw [this]
 have h:OU false (a.toNat:Int) (b.toNat:Int)=((YI a b).toNat:Int):=by
  unfold OU YI
  simp only [SR,BitVec.lt_def]
  repeat' split
  all_goals omega
 rw [h];simp [W]
structure OkCl (M:Seat):Prop where
 v:OkMv M
 k455:Au M 455 Aa9=true
theorem Fc (ok:OkMv M) (l g:BitVec 64) (h:Oa l g):Ag M 249 [Ac l g] [] 0 (Q3 .nili [] 0):=by
 obtain ⟨h1,h2,h3⟩:=h
 refine Ab ok.g.k249 rfl fun x hx=>?_
 refine es 2000 ?_;(simp only [Acw,Abc,Ac,h1,h2,h3,LZ,seval])
 exact Ar.mkZ hx [] ⟨rfl,rfl,rfl⟩
theorem M6 (ok:OkMv M) (u a b n:BitVec 64) (h:Gy u a b n):Ag M 487 [Ac u a,W b,W n] [] 0 (Q3 (Ah (W 0#64) (er 2)) [] 0):=by
 refine Ab ok.k487 rfl fun x hx=>?_
 by_cases h1:n < a
 ·refine es 2000 ?_;(simp only [T1,UT,Ac,HX,Lm,h1,LZ,seval])
  have zz:=@Ah.eq_1;exact Bf hx [] ⟨rfl,rfl,rfl⟩
 ·have h2:1099511627776#64 < Kv (Kv (Kv u a) b) n:=h.resolve_left h1
  refine es 2000 ?_;(simp only [T1,UT,Ac,HX,Lm,h1,h2,LZ,seval])
  have zz:=@Ah.eq_1;exact Bf hx [] ⟨rfl,rfl,rfl⟩
theorem MM (ok:OkMv M) (u a b n:BitVec 64) (h:¬ Gy u a b n):Ag M 487 [Ac u a,W b,W n] [] 0 (Q3 (Ah (W (b + n - a)) .nili) [] 0):=by
 obtain ⟨h1,h2⟩:=not_or.1 h
 refine Ab ok.k487 rfl fun x hx=>?_
 refine es 2000 ?_;(simp only [T1,UT,Ac,HX,Lm,h1,h2,LZ,seval])
 have zz:=@Ah.eq_1;exact Bf hx [] ⟨rfl,rfl,rfl⟩
theorem Hy (ok:OkMv M) (l g u a b n:BitVec 64) (hc:Oa l g) (h:Gy u a b n):Ag M 453 [Ac l g,Ac u a,W b,W n] [] 0 (Q3 (Ah (W 0#64) (er 2)) [] 0):=by
 refine Ab ok.k453 rfl fun x hx=>?_
 refine es 2000 ?_;(simp only [WD,X6,Ac,LZ,seval])
 have zz:=@Ac.eq_1;refine Ce (Fc ok l g hc) ?_
 (simp only [LZ,seval])
 have zz:=@Ac.eq_1;refine Ce (M6 ok u a b n h) ?_
 (simp only [AH,seval])
 have zz:=@Ah.eq_1;exact Bf hx [] ⟨rfl,rfl,rfl⟩
theorem EW (ok:OkMv M) (l g u a b n:BitVec 64) (hc:Oa l g) (h:¬ Gy u a b n):Ag M 453 [Ac l g,Ac u a,W b,W n] [] 0 (Q3 (Ah (W (b + n - a)) .nili) [] 0):=by
 refine Ab ok.k453 rfl fun x hx=>?_
 refine es 2000 ?_;(simp only [WD,X6,Ac,LZ,seval])
 have zz:=@Ac.eq_1;refine Ce (Fc ok l g hc) ?_
 (simp only [LZ,seval])
 have zz:=@Ac.eq_1;refine Ce (MM ok u a b n h) ?_
 (simp only [AH,seval])
 have zz:=@Ah.eq_1;exact Bf hx [] ⟨rfl,rfl,rfl⟩
theorem Pn (ok:OkMv M) (l g u a b n:BitVec 64) (hc:Oa l g) (h:Gy u a b n):Ag M 353 [Ac l g,Ac u a,W b,W n] [] 0 (Q3 (Ah (Ac 0#64 0#64) (er 2)) [] 0):=by
 refine Ab ok.k353 rfl fun x hx=>?_
 refine es 2000 ?_;(simp only [Um,VD,Ac,LZ,seval])
 have zz:=@Ac.eq_1;refine Ce (Hy ok l g u a b n hc h) ?_
 (simp only [AH,seval])
 have zz:=Bb @Ah.eq_1 @Ac.eq_1;exact Bf hx [] ⟨rfl,rfl,rfl⟩
theorem OV (ok:OkMv M) (l g u a b n:BitVec 64) (hc:Oa l g) (h:¬ Gy u a b n) (hl:l≤b + n - a):Ag M 353 [Ac l g,Ac u a,W b,W n] [] 0 (Q3 (Ah (Ac 0#64 0#64) (er 42)) [] 0):=by
 refine Ab ok.k353 rfl fun x hx=>?_
 refine es 2000 ?_;(simp only [Um,VD,Ac,LZ,seval])
 have zz:=@Ac.eq_1;refine Ce (EW ok l g u a b n hc h) ?_
 (simp only [AH,hl,seval])
 have zz:=Bb @Ah.eq_1 @Ac.eq_1;exact Bf hx [] ⟨rfl,rfl,rfl⟩
theorem I8 (ok:OkMv M) (l g u a b n:BitVec 64) (hc:Oa l g) (h:¬ Gy u a b n) (hl:¬ l≤b + n - a):Ag M 353 [Ac l g,Ac u a,W b,W n] [] 0 (Q3 (Ah (Ac (YI (b + n - a) (l - g)) n) .nili) [] 0):=by
 refine Ab ok.k353 rfl fun x hx=>?_
 refine es 2000 ?_;(simp only [Um,VD,Ac,LZ,seval])
 have zz:=@Ac.eq_1;refine Ce (EW ok l g u a b n hc h) ?_
 (simp only [AH,hl,Ago,seval])
 have zz:=Bb @Ah.eq_1 @Ac.eq_1;exact Bf hx [] ⟨rfl,rfl,rfl⟩
theorem PI (ok:OkCl M) (l g u a b n:BitVec 64) (hc:Oa l g) (h:Gy u a b n):Ag M 455 [Ac l g,Ac u a,W b,W n] [] 0 (Q3 (Ah (.bool false) (er 2)) [] 0):=by
 refine Ab ok.k455 rfl fun x hx=>?_
 refine es 2000 ?_;(simp only [Aa9,Abi,Ac,LZ,seval])
 have zz:=@Ac.eq_1;refine Ce (Hy ok.v l g u a b n hc h) ?_
 (simp only [AH,seval])
 have zz:=@Ah.eq_1;exact Bf hx [] ⟨rfl,rfl,rfl⟩
theorem PG (ok:OkCl M) (l g u a b n:BitVec 64) (hc:Oa l g) (h:¬ Gy u a b n):Ag M 455 [Ac l g,Ac u a,W b,W n] [] 0 (Q3 (Ah (.bool (decide (l≤b + n - a))) .nili) [] 0):=by
 refine Ab ok.k455 rfl fun x hx=>?_
 refine es 2000 ?_;(simp only [Aa9,Abi,Ac,LZ,seval])
 have zz:=@Ac.eq_1;refine Ce (EW ok.v l g u a b n hc h) ?_
 (simp only [AH,seval])
 have zz:=@Ah.eq_1;exact Bf hx [] ⟨rfl,rfl,rfl⟩
variable {M:Seat}
def Ap (n:Nat) (c:Nat→Cl):V:=.ar 42 n fun j=>(c j).v
theorem JO (ok:OkGm M) (d:Int) (l g:BitVec 64) (s:Dg) (n:Nat) (a:Int) (ha:a < 0 ∨ (n:Int)≤a) :
 Ag M 246 [.ptr 0 [],.int .i64 a] [(0,Ai d l g s (.ptr 2 []) (.sl 1 [] 0 n 42))] 3 (Q3 (Ah Cl.zero.v (.ifc 145 (.ptr 3 []))) [(0,Ai d l g s (.ptr 2 []) (.sl 1 [] 0 n 42)),(3,Bt a 4)] 4):=by
 have hA:=Fn ok a 4
 refine Ab ok.n.k246 rfl fun x hx=>?_
 by_cases h0:a < 0
 ·refine es 2000 ?_;(simp only [Rm,R8,Ai,Al,Ac,h0,LZ,seval])
  have zz:=@Bt.eq_1;refine Kb (hA) ?_
  (simp only [Bt,LZ,seval])
  refine Ar.mk hx [0,1,2,323] [] (Ah Cl.zero.v (.ifc 145 (.ptr 3 []))) [(0,Ai d l g s (.ptr 2 []) (.sl 1 [] 0 n 42)),(3,Bt a 4)] 4 Am (by (simp only [CU,seval])) (by simp only [LV,AH,Cl.v,Cl.zero,Ac,dg,seval,LY]) (by simp only [Ai,Al,Ac,Bt,dg,LY,seval]) ⟨rfl,rfl,rfl⟩
 ·have h1:(n:Int)≤a:=ha.resolve_left h0
  refine es 2000 ?_;(simp only [Rm,R8,Ai,Al,Ac,h0,h1,LZ,seval])
  have zz:=@Bt.eq_1;refine Kb (hA) ?_
  (simp only [Bt,LZ,seval])
  refine Ar.mk hx [0,1,2,323] [] (Ah Cl.zero.v (.ifc 145 (.ptr 3 []))) [(0,Ai d l g s (.ptr 2 []) (.sl 1 [] 0 n 42)),(3,Bt a 4)] 4 Am (by (simp only [CU,seval])) (by simp only [LV,AH,Cl.v,Cl.zero,Ac,dg,seval,LY]) (by simp only [Ai,Al,Ac,Bt,dg,LY,seval]) ⟨rfl,rfl,rfl⟩
theorem JT (ok:OkGm M) (d:Int) (l g:BitVec 64) (s:Dg) (n:Nat) (c:Nat→Cl) (a:Nat) (ha:a < n) (hr:(c a).rs=true) :
 Ag M 246 [.ptr 0 [],.int .i64 a] [(0,Ai d l g s (.ptr 2 []) (.sl 1 [] 0 n 42)),(1,Ap n c)] 3 (Q3 (Ah Cl.zero.v (.ifc 145 (.ptr 3 []))) [(0,Ai d l g s (.ptr 2 []) (.sl 1 [] 0 n 42)),(1,Ap n c),(3,Bt a 43)] 4):=by
 have hA:=Fn ok a 43
 have d0:((a:Int) < 0)=False:=eq_false Aa
 have d1:((n:Int)≤(a:Int))=False:=eq_false Aa
 have d2:((a:Int) < (n:Int))=True:=eq_true Aa
 have d3:(0≤(a:Int))=True:=eq_true Aa
 refine Ab ok.n.k246 rfl fun x hx=>?_
 refine es 2000 ?_;(simp only [Rm,R8,Ai,Al,Ac,Ap,Cl.v,hr,d0,d1,d2,d3,LZ,seval])
 repeat refine sd ?_
 have zz:=@Bt.eq_1;refine Kb (hA) ?_
 (simp only [Bt,LZ,seval])
 refine Ar.mk hx [0,1,2,467] [] (Ah Cl.zero.v (.ifc 145 (.ptr 3 []))) [(0,Ai d l g s (.ptr 2 []) (.sl 1 [] 0 n 42)),(1,Ap n c),(3,Bt a 43)] 4 Am (by (simp only [CU,seval])) (by simp only [LV,AH,Cl.v,Cl.zero,Ac,dg,seval,LY]) (by simp only [Ai,Al,Ac,Ap,Cl.v,Bt,dg,LY,seval]) ⟨rfl,rfl,rfl⟩
theorem FT (ok:OkGm M) (d:Int) (l g:BitVec 64) (s:Dg) (n:Nat) (c:Nat→Cl) (a:Nat) (ha:a < n) (hr:(c a).rs=false) :
 Ag M 246 [.ptr 0 [],.int .i64 a] [(0,Ai d l g s (.ptr 2 []) (.sl 1 [] 0 n 42)),(1,Ap n c)] 3 (Q3 (Ah (c a).v .nili) [(0,Ai d l g s (.ptr 2 []) (.sl 1 [] 0 n 42)),(1,Ap n c)] 3):=by
 have d0:((a:Int) < 0)=False:=eq_false Aa
 have d1:((n:Int)≤(a:Int))=False:=eq_false Aa
 have d2:((a:Int) < (n:Int))=True:=eq_true Aa
 have d3:(0≤(a:Int))=True:=eq_true Aa
 refine Ab ok.n.k246 rfl fun x hx=>?_
 refine es 2000 ?_;(simp only [Rm,R8,Ai,Al,Ac,Ap,Cl.v,hr,d0,d1,d2,d3,LZ,seval])
 repeat refine sd ?_
 have zz:=Bb @Ah.eq_1 @dg.eq_1;exact Bf hx [0,1,2] ⟨rfl,rfl,rfl⟩
def CQ (c:Nat→Cl) (q:Cl):BitVec 64:=if q.par < 0 then 0#64 else (c q.par.toNat).us
theorem Dc (ok:OkGm M) (d:Int) (l g:BitVec 64) (s:Dg) (n:Nat) (c:Nat→Cl) (q:Cl) (hq:q.par < 0 ∨ ∃ p:Nat,q.par=p∧p < n) :
 Ag M 354 [.ptr 0 [],q.v] [(0,Ai d l g s (.ptr 2 []) (.sl 1 [] 0 n 42)),(1,Ap n c)] 3 (Q3 (W (CQ c q)) [(0,Ai d l g s (.ptr 2 []) (.sl 1 [] 0 n 42)),(1,Ap n c)] 3):=by
 unfold CQ
 refine Ab ok.k354 rfl fun x hx=>?_
 rcases hq with h0 | ⟨p,hp,hn⟩
 ·rw [if_pos h0]
  refine es 2000 ?_;(simp only [Yu,Xq,Ai,Al,Ac,Ap,Cl.v,h0,LZ,seval])
  have zz:=@dg.eq_1;exact Bf hx [0,1,2] ⟨rfl,rfl,rfl⟩
 ·have d0:((p:Int) < 0)=False:=eq_false Aa
  have d2:((p:Int) < (n:Int))=True:=eq_true Aa
  have d3:(0≤(p:Int))=True:=eq_true Aa
  rw [hp,if_neg Aa,Int.toNat_natCast]
  refine es 2000 ?_;(simp only [Yu,Xq,Ai,Al,Ac,Ap,Cl.v,hp,d0,d2,d3,LZ,seval])
  repeat refine sd ?_
  have zz:=@dg.eq_1;exact Bf hx [0,1,2] ⟨rfl,rfl,rfl⟩
variable {M:Seat}
theorem N5 (ok:OkGm M) (D:Nat) (l g:BitVec 64) (s:Dg) (n:Nat) (q:Cl) (k i:Nat) (hk:k≤20) (hi:i < 2 ^ k) (hq:q.pos=pw k i) (hD:D≤k) (df:Bool) :
 Ag M 350 [.ptr 0 [],q.v,.bool df] [(0,Ai D l g s (.ptr 2 []) (.sl 1 [] 0 n 42))] 3 (Q3 (AS (W 0#64) (.int .i64 0) (er 45)) [(0,Ai D l g s (.ptr 2 []) (.sl 1 [] 0 n 42))] 3):=by
 refine Ab ok.k350 rfl fun x hx=>?_
 have d0:((D:Int)≤(k:Int))=True:=eq_true Aa
 refine es 2000 ?_;(simp only [P4,Pv,Ai,Al,Ac,Cl.v,hq,LZ,seval])
 refine Ak (Bc ok.p (show k≤24 by omega) hi) ?_
 (simp only [AS,d0,LZ,seval])
 have zz:=Bb @AS.eq_1 @dg.eq_1;exact Bf hx [0,1,2] ⟨rfl,rfl,rfl⟩
theorem GH (ok:OkGm M) (D:Nat) (l g:BitVec 64) (s:Dg) (n:Nat) (q:Cl) (k i:Nat) (hk:k≤20) (hi:i < 2 ^ k) (hq:q.pos=pw k i) (hD:¬ D≤k) :
 Ag M 350 [.ptr 0 [],q.v,.bool false] [(0,Ai D l g s (.ptr 2 []) (.sl 1 [] 0 n 42))] 3 (Q3 (AS (W (pw (k + 1) (2 * i))) (.int .i64 ((k + 1:Nat):Int)) .nili) [(0,Ai D l g s (.ptr 2 []) (.sl 1 [] 0 n 42))] 3):=by
 refine Ab ok.k350 rfl fun x hx=>?_
 have d0:((D:Int)≤(k:Int))=False:=eq_false Aa
 have z1:IntKind.i64.wrap ((k:Int) + 1)=((k + 1:Nat):Int):=AZ
 refine es 2000 ?_;(simp only [P4,Pv,Ai,Al,Ac,Cl.v,hq,LZ,seval])
 refine Ak (Bc ok.p (show k≤24 by omega) hi) ?_
 (simp only [AS,d0,LZ,seval])
 refine Ak (D6 ok.p (show k < 24 by omega) hi) ?_
 (simp only [AH,z1,seval])
 have zz:=Bb @AS.eq_1 @dg.eq_1;exact Bf hx [0,1,2] ⟨rfl,rfl,rfl⟩
theorem Gw (ok:OkGm M) (D:Nat) (l g:BitVec 64) (s:Dg) (n:Nat) (q:Cl) (k i:Nat) (hk:k≤20) (hi:i + 1 < 2 ^ k) (hq:q.pos=pw k i) (hD:¬ D≤k) :
 Ag M 350 [.ptr 0 [],q.v,.bool true] [(0,Ai D l g s (.ptr 2 []) (.sl 1 [] 0 n 42))] 3 (Q3 (AS (W (pw (k + 1) (2 * i + 2))) (.int .i64 ((k + 1:Nat):Int)) .nili) [(0,Ai D l g s (.ptr 2 []) (.sl 1 [] 0 n 42))] 3):=by
 refine Ab ok.k350 rfl fun x hx=>?_
 have d0:((D:Int)≤(k:Int))=False:=eq_false Aa
 have z1:IntKind.i64.wrap ((k:Int) + 1)=((k + 1:Nat):Int):=AZ
 have hi':i < 2 ^ k:=Aa
 refine es 2000 ?_;(simp only [P4,Pv,Ai,Al,Ac,Cl.v,hq,LZ,seval])
 refine Ak (Bc ok.p (show k≤24 by omega) hi') ?_
 (simp only [AS,d0,LZ,seval])
 refine Ak (D6 ok.p (show k < 24 by omega) hi') ?_
 (simp only [AH,seval])
 refine Ak (HA ok.p (show k < 24 by omega) hi) ?_
 (simp only [AH,z1,seval])
 have zz:=Bb @AS.eq_1 @dg.eq_1;exact Bf hx [0,1,2] ⟨rfl,rfl,rfl⟩
theorem MU (ok:OkGm M) (D:Nat) (l g:BitVec 64) (s:Dg) (n:Nat) (q:Cl) (k:Nat) (hk:k≤20) (hq:q.pos=pw k (2 ^ k - 1)) (hD:¬ D≤k) :
 Ag M 350 [.ptr 0 [],q.v,.bool true] [(0,Ai D l g s (.ptr 2 []) (.sl 1 [] 0 n 42))] 3 (Q3 (AS (W 0#64) (.int .i64 ((k + 1:Nat):Int)) (er 45)) [(0,Ai D l g s (.ptr 2 []) (.sl 1 [] 0 n 42))] 3):=by
 refine Ab ok.k350 rfl fun x hx=>?_
 have d0:((D:Int)≤(k:Int))=False:=eq_false Aa
 have z1:IntKind.i64.wrap ((k:Int) + 1)=((k + 1:Nat):Int):=AZ
 have hi':2 ^ k - 1 < 2 ^ k:=by have:=Tu (show k≤24 by omega);omega
 refine es 2000 ?_;(simp only [P4,Pv,Ai,Al,Ac,Cl.v,hq,LZ,seval])
 refine Ak (Bc ok.p (show k≤24 by omega) hi') ?_
 (simp only [AS,d0,LZ,seval])
 refine Ak (D6 ok.p (show k < 24 by omega) hi') ?_
 (simp only [AH,seval])
 refine Ak (F8 ok.p (show k < 24 by omega)) ?_
 (simp only [AH,z1,seval])
 have zz:=Bb @AS.eq_1 @dg.eq_1;exact Bf hx [0,1,2] ⟨rfl,rfl,rfl⟩
def M4 (X:Cl) (q:BitVec 64) (y:Cl):Prop:=y.par=X.par∧y.pos=q∧y.val=X.val
instance (X:Cl) (q:BitVec 64) (y:Cl):Decidable (M4 X q y):=by unfold M4;infer_instance
theorem I7 (ok:OkMv M) (y X:Cl) (q:BitVec 64):Ag M 352 [y.v,.imm X.v,.imm (W q)] [] 0 (Q3 (.bool (decide (M4 X q y))) [] 0):=by
 refine Ab ok.k352 rfl fun x hx=>?_
 by_cases h1:y.par=X.par
 ·by_cases h2:y.pos=q
  ·by_cases h3:y.val=X.val
   ·have e:decide (M4 X q y)=true:=decide_eq_true ⟨h1,h2,h3⟩
    rw [e]
    refine es 2000 ?_;(simp only [RK,Sf,Cl.v,Ac,h1,h2,h3,LZ,seval])
    exact Ar.mkZ hx [] ⟨rfl,rfl,rfl⟩
   ·have e:decide (M4 X q y)=false:=decide_eq_false fun h=>h3 h.2.2
    rw [e]
    refine es 2000 ?_;(simp only [RK,Sf,Cl.v,Ac,h1,h2,h3,LZ,seval])
    exact Ar.mkZ hx [] ⟨rfl,rfl,rfl⟩
  ·have e:decide (M4 X q y)=false:=decide_eq_false fun h=>h2 h.2.1
   rw [e]
   refine es 2000 ?_;(simp only [RK,Sf,Cl.v,Ac,h1,h2,LZ,seval])
   exact Ar.mkZ hx [] ⟨rfl,rfl,rfl⟩
 ·have e:decide (M4 X q y)=false:=decide_eq_false fun h=>h1 h.1
  rw [e]
  refine es 2000 ?_;(simp only [RK,Sf,Cl.v,Ac,h1,LZ,seval])
  exact Ar.mkZ hx [] ⟨rfl,rfl,rfl⟩
theorem NE (ok:OkMv M) (n:Nat) (hn:n < 1000) (c:Nat→Cl) (X:Cl) (q:BitVec 64) (j0:Nat) (hj:j0 < n) (hs:M4 X q (c j0)) (hno:∀ j,j < j0→¬ M4 X q (c j)) :
 Ag M 452 [.lst 42 n (fun j=>(c j).v),.fn 352 (.st 2 (.fcons 0 (.imm X.v) (.fcons 1 (.imm (W q)) .fnil)))] [] 0 (Q3 (.int .i64 j0) [] 0):=by
 refine Ab ok.k452 rfl fun x hx=>?_
 refine es 2000 ?_;(simp only [WG,WH,LZ,seval])
 refine An (σ:=Nat) (fun i=>i≤j0) (fun i=>fr 19 [(8,.int .i64 i),(7,.int .i64 n),(1,.fn 352 (.st 2 (.fcons 0 (.imm X.v) (.fcons 1 (.imm (W q)) .fnil)))),(0,.lst 42 n fun j=>(c j).v)]) (fun _=>[]) (fun _=>0) (fun i=>j0 - i) 0 Aa ?_ ?_
 ·refine Ao.fr [] [] hx AQ Am ?_ ?_
  all_goals simp only [Int.natCast_zero,Cl.v,Ac,dg,implies_true,LY,seval]
 ·intro i hi
  refine es 2000 ?_
  have d0:((i:Int) < (n:Int))=True:=eq_true Aa
  have d2:(0≤(i:Int))=True:=eq_true Aa
  have hS:=I7 ok (c i) X q
  have z0:IntKind.i64.wrap ((i:Int) + 1)=((i + 1:Nat):Int):=AZ
  (simp only [d0,d2,LZ,seval])
  repeat refine sd ?_
  refine Wj ok.fn352 rfl rfl ?_
  by_cases h0:i=j0
  ·subst h0
   rw [decide_eq_true hs] at hS
   have zz:=C4 @Cl.v.eq_1 @Ac.eq_1 @dg.eq_1;refine Ce (hS) ?_
   (simp only [LZ,seval])
   exact Ar.mkZ hx [] ⟨rfl,rfl,rfl⟩
  ·rw [decide_eq_false (hno i Aa)] at hS
   have zz:=C4 @Cl.v.eq_1 @Ac.eq_1 @dg.eq_1;refine Ce (hS) ?_
   (simp only [z0,LZ,seval])
   refine ⟨i + 1,by omega,by omega,?_⟩
   refine Ao.fr [] [] hx AQ Am ?_ ?_
   all_goals simp only [Cl.v,Ac,dg,implies_true,LY,seval]
theorem M9 (ok:OkMv M) (n:Nat) (hn:n < 1000) (c:Nat→Cl) (X:Cl) (q:BitVec 64) (hno:∀ j,j < n→¬ M4 X q (c j)) :
 Ag M 452 [.lst 42 n (fun j=>(c j).v),.fn 352 (.st 2 (.fcons 0 (.imm X.v) (.fcons 1 (.imm (W q)) .fnil)))] [] 0 (Q3 (.int .i64 (-1)) [] 0):=by
 refine Ab ok.k452 rfl fun x hx=>?_
 refine es 2000 ?_;(simp only [WG,WH,LZ,seval])
 refine An (σ:=Nat) (fun i=>i≤n) (fun i=>fr 19 [(8,.int .i64 i),(7,.int .i64 n),(1,.fn 352 (.st 2 (.fcons 0 (.imm X.v) (.fcons 1 (.imm (W q)) .fnil)))),(0,.lst 42 n fun j=>(c j).v)]) (fun _=>[]) (fun _=>0) (fun i=>n - i) 0 Aa ?_ ?_
 ·refine Ao.fr [] [] hx AQ Am ?_ ?_
  all_goals simp only [Int.natCast_zero,Cl.v,Ac,dg,implies_true,LY,seval]
 ·intro i hi
  refine es 2000 ?_
  by_cases h0:i=n
  ·subst h0
   have d0:((i:Int) < (i:Int))=False:=eq_false Aa
   (simp only [d0,LZ,seval])
   exact Ar.mkZ hx [] ⟨rfl,rfl,rfl⟩
  ·have d0:((i:Int) < (n:Int))=True:=eq_true Aa
   have d2:(0≤(i:Int))=True:=eq_true Aa
   have hS:=I7 ok (c i) X q
   rw [decide_eq_false (hno i Aa)] at hS
   have z0:IntKind.i64.wrap ((i:Int) + 1)=((i + 1:Nat):Int):=AZ
   (simp only [d0,d2,LZ,seval])
   repeat refine sd ?_
   refine Wj ok.fn352 rfl rfl ?_
   have zz:=C4 @Cl.v.eq_1 @Ac.eq_1 @dg.eq_1;refine Ce (hS) ?_
   (simp only [z0,LZ,seval])
   refine ⟨i + 1,by omega,by omega,?_⟩
   refine Ao.fr [] [] hx AQ Am ?_ ?_
   all_goals simp only [Cl.v,Ac,dg,implies_true,LY,seval]
theorem Agj {P:Nat→Prop} (j:Nat) (h:P j):∃ i,i≤j∧P i∧∀ k,k < i→¬ P k:=by
 induction j using Nat.strongRecOn with
 | _ j ih =>
   by_cases h0:∃ k,k < j∧P k
   ·obtain ⟨k,hk,hp⟩:=h0
    obtain ⟨i,hi,hp,hno⟩:=ih k hk hp
    exact ⟨i,by omega,hp,hno⟩
   ·exact ⟨j,Nat.le_refl _,h,fun k hk hp=>h0 ⟨k,hk,hp⟩⟩
theorem IB (ok:OkMv M) (n:Nat) (hn:n < 1000) (c:Nat→Cl) (X:Cl) (q:BitVec 64) (h:∃ j,j < n∧M4 X q (c j)) :
 Ag M 351 [.lst 42 n (fun j=>(c j).v),.fn 352 (.st 2 (.fcons 0 (.imm X.v) (.fcons 1 (.imm (W q)) .fnil)))] [] 0 (Q3 (.bool true) [] 0):=by
 obtain ⟨j,hj,hs⟩:=h
 obtain ⟨j0,hj0,hs0,hno⟩:=Agj (P:=fun j=>M4 X q (c j)) j hs
 have h:=NE ok n hn c X q j0 Aa hs0 hno
 refine Ab ok.k351 rfl fun x hx=>?_
 have d2:(0≤(j0:Int))=True:=eq_true Aa
 refine es 2000 ?_;(simp only [Yv,W9,LZ,seval])
 have zz:=C4 @Cl.v.eq_1 @Ac.eq_1 @dg.eq_1;refine Ce (h) ?_
 (simp only [d2,LZ,seval])
 exact Ar.mkZ hx [] ⟨rfl,rfl,rfl⟩
theorem Fe (ok:OkMv M) (n:Nat) (hn:n < 1000) (c:Nat→Cl) (X:Cl) (q:BitVec 64) (h:¬ ∃ j,j < n∧M4 X q (c j)) :
 Ag M 351 [.lst 42 n (fun j=>(c j).v),.fn 352 (.st 2 (.fcons 0 (.imm X.v) (.fcons 1 (.imm (W q)) .fnil)))] [] 0 (Q3 (.bool false) [] 0):=by
 have h:=M9 ok n hn c X q (fun j hj hs=>h ⟨j,hj,hs⟩)
 refine Ab ok.k351 rfl fun x hx=>?_
 refine es 2000 ?_;(simp only [Yv,W9,LZ,seval])
 have zz:=C4 @Cl.v.eq_1 @Ac.eq_1 @dg.eq_1;refine Ce (h) ?_
 (simp only [LZ,seval])
 exact Ar.mkZ hx [] ⟨rfl,rfl,rfl⟩
end Mv
