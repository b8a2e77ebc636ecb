/- A part. -/
import Derived.Test.YtfljfijnobocoaaDoorHH
import Derived.Test.YtfljfijnobocoaaDoorHI
set_option linter.all false
set_option maxRecDepth 20000
set_option maxHeartbeats 8000000
namespace Mv
open Go
def Lb (P:List Fu) (w fr en:V) (b:Int) (cm:Nat):V:=.st 12 (.fcons 0 (FC P) (.fcons 1 w (.fcons 2 (.int .i64 b) (.fcons 3 (.int .i64 0) (.fcons 4 fr (.fcons 5 en (.fcons 6 (.map cm) (.fcons 7 .nils (.fcons 8 .nils (.fcons 9 .nils (.fcons 10 (.int .i64 0) (.fcons 11 (.int .i64 0) .fnil))))))))))))
structure OkLo (M:Seat):Prop where
 c:OkCk M
 i:OkI M
 k405:Ar M 405 PA=true
theorem QM {M:Seat} (ok:OkLo M) (P:List Fu) (B:Int) (op:Int) (d a b c:Nat) (n:Int) (hd:d < 16) (ha:a < 16) (hb:b < 16) (hc:c < 16) (h1:0≤op∧op≤35) (h2:-2147483648≤n∧n < 2147483648) :
 As M 405 [.ptr 0 [],.int .i64 op,.int .i64 d,.int .i64 a,.int .i64 b,.int .i64 c,.int .i64 n] [(0,Lb P .nils .nils .nils B 1)] 2 (Q3 (.int .i64 0) [(0,Lb P (.sl 2 [] 0 1 1) .nils .nils B 1),(2,.ar 1 1 fun _=>W (Bn op d a b c n))] 3):=by
 have hC:=Gr ok.i op d a b c n hd ha hb hc h1 h2;generalize Bn op d a b c n=w at *
 refine Ac ok.k405 rfl fun x hx=>?_;refine eX ?_;simp only [PA,YS,Lb,LZ,seval];refine Ap (hC) ?_;have z0:IntKind.i64.wrap 0=0:=rfl;simp only [EM,z0,seval];refine Ay.mk hx [0,1,322] [] (.int .i64 0) _ 3 Ab (by (simp only [Dz,seval])) (by simp only [DK,seval]) ?_ ⟨rfl,rfl,rfl⟩;simp only [Ak,LY,seval];intro j hj;obtain rfl:j=0:=Aa;simp only [if_true,LY,seval]
theorem Vv {M:Seat} (ok:OkLo M) (P:List Fu) (B:Int) (m:Nat) (hm:m < 1000) (f:Nat→BitVec 64) (op:Int) (d a b c:Nat) (n:Int) (hd:d < 16) (ha:a < 16) (hb:b < 16) (hc:c < 16) (h1:0≤op∧op≤35) (h2:-2147483648≤n∧n < 2147483648) :
 As M 405 [.ptr 0 [],.int .i64 op,.int .i64 d,.int .i64 a,.int .i64 b,.int .i64 c,.int .i64 n] [(0,Lb P (.sl 1 [] 0 m 1) .nils (.sl 3 [] 0 1 1) B 2),(1,.ar 1 m fun j=>W (f j))] 4 (Q3 (.int .i64 m) [(0,Lb P (.sl 4 [] 0 (m + 1) 1) .nils (.sl 3 [] 0 1 1) B 2),(4,.ar 1 (m + 1) fun j=>W (if j < m then f j else Bn op d a b c n))] 5):=by
 have hC:=Gr ok.i op d a b c n hd ha hb hc h1 h2;have w0:IntKind.i64.wrap (((m + 1:Nat):Int) - 1)=(m:Int):=B7;generalize Bn op d a b c n=w at *
 refine Ac ok.k405 rfl fun x hx=>?_;refine eX ?_;simp only [PA,YS,Lb,LZ,seval];refine Ap (hC) ?_;simp only [EM,w0,seval];refine ⟨by omega,Ay.mk hx [0,1,2,3,324] [] (.int .i64 m) _ 5 Ab (by (simp only [Dz,seval])) (by simp only [DK,seval]) ?_ ⟨rfl,rfl,rfl⟩⟩;simp only [Ak,LY,seval];intro j hj;by_cases h:j < m
 ·simp only [h,if_true,LY,seval]
 ·obtain rfl:j=m:=Aa;simp only [Nat.lt_irrefl,Nat.sub_self,Dh,LY,seval]
variable {M:Seat}
def mxW:BitVec 64:=18446744073709551615#64
def sn (m:Nat) (f:Nat→BitVec 64) (w:BitVec 64) (j:Nat):BitVec 64:=if j < m then f j else w
def cH (P:List Fu) (B:Int) (m:Nat) (f:Nat→BitVec 64):Hp:=[(0,Lb P (.sl 1 [] 0 m 1) .nils (.sl 3 [] 0 1 1) B 2),(1,.ar 1 m fun j=>W (f j))]
def ZI (P:List Fu) (B:Int) (m:Nat) (f:Nat→BitVec 64):Hp:=[(0,Lb P (.sl 4 [] 0 m 1) .nils (.sl 3 [] 0 1 1) B 2),(4,.ar 1 m fun j=>W (f j))]
structure OkLp (M:Seat):Prop where
 o:OkLo M
 k459:Ar M 459 XN=true
 k493:Ar M 493 Kp=true
 k516:Ar M 516 Ii=true
 k537:Ar M 537 UK=true
theorem DX (ok:OkLo M) (P:List Fu) (B:Int) (m:Nat) (hm:m < 1000) (f:Nat→BitVec 64) (op:Int) (d a b c:Nat) (n:Int) (hd:d < 16) (ha:a < 16) (hb:b < 16) (hc:c < 16) (h1:0≤op∧op≤35) (h2:-2147483648≤n∧n < 2147483648) :
 As M 405 [.ptr 0 [],.int .i64 op,.int .i64 d,.int .i64 a,.int .i64 b,.int .i64 c,.int .i64 n] (cH P B m f) 4 (Q3 (.int .i64 m) (ZI P B (m + 1) (sn m f (Bn op d a b c n))) 5) :=
 Vv ok P B m hm f op d a b c n hd ha hb hc h1 h2
theorem OW (ok:OkLp M) (P:List Fu) (B:Int) (m:Nat) (hm:m < 1000) (f:Nat→BitVec 64) :
 As M 537 [.ptr 0 [],.int .i64 0,W mxW] (cH P B m f) 4 (Q3 (.tup .fnil) (ZI P B (m + 1) (sn m f (Bn 26 0 0 0 0 (-1)))) 5):=by
 have hE:=DX ok.o P B m hm f 26 0 0 0 0 (-1) Ab Ab Ab Ab Ab Ab;have e1:mxW.toInt = -1:=Ab;have e2:(BitVec.setWidth 32 mxW).toInt = -1:=Ab;have e3:IntKind.i64.wrap (-1) = -1:=Ab;generalize Bn 26 0 0 0 0 (-1)=w at *
 unfold cH ZI at *
 simp only [Lb,Int.natCast_zero] at hE ⊢;refine Ac ok.k537 rfl fun x hx=>?_;refine eX ?_;simp only [UK,Afb,e1,e2,e3,LZ,seval];have zz:=@Ak;refine Hx [0,1,2,3] [0,1] (hE) ?_;simp only [Ad,AW,seval];have zz:=@Ak;exact DD hx [0,1,2,3,164] ⟨rfl,rfl,rfl⟩
def ex0:Ex:=.mk 26 mxW []
def IC:IrSt:=.mk 7 0 ex0 (.mk 0 0#64 []) [] []
theorem NS:AE ex0 = .st 3 (.fcons 0 (.int .i64 26) (.fcons 1 (W mxW) (.fcons 2 .nils .fnil))):=by simp only [ex0,AE,AF]
theorem Zq:GN IC = .st 10 (.fcons 0 (.int .i64 7) (.fcons 1 (.int .i64 0) (.fcons 2 (.st 3 (.fcons 0 (.int .i64 26) (.fcons 1 (W mxW) (.fcons 2 .nils .fnil)))) (.fcons 5 (.st 3 (.fcons 0 (.int .i64 0) (.fcons 1 (W 0#64) (.fcons 2 .nils .fnil)))) (.fcons 8 .nils (.fcons 9 .nils .fnil)))))):=by simp only [IC,GN,NS,AE,AF,DZ]
theorem IF:DZ [IC] = .lst 10 1 (Fb [IC]):=OH IC []
theorem YE:Fb [IC] 0 = .st 10 (.fcons 0 (.int .i64 7) (.fcons 1 (.int .i64 0) (.fcons 2 (.st 3 (.fcons 0 (.int .i64 26) (.fcons 1 (W mxW) (.fcons 2 .nils .fnil)))) (.fcons 5 (.st 3 (.fcons 0 (.int .i64 0) (.fcons 1 (W 0#64) (.fcons 2 .nils .fnil)))) (.fcons 8 .nils (.fcons 9 .nils .fnil)))))):=by
 rw [Jn [IC] 0 Ab];exact Zq
theorem QW (ok:OkLp M) (P:List Fu) (B:Int) (m:Nat) (hm:m < 1000) (f:Nat→BitVec 64) :
 As M 516 [.ptr 0 [],AE ex0,.int .i64 0] (cH P B m f) 4 (Q3 (.tup .fnil) (ZI P B (m + 1) (sn m f (Bn 26 0 0 0 0 (-1)))) 5):=by
 have hE:=OW ok P B m hm f;rw [NS];generalize Bn 26 0 0 0 0 (-1)=w at *
 unfold cH ZI at *
 simp only [Lb] at hE ⊢;refine Ac ok.k516 rfl fun x hx=>?_;refine eX ?_;simp only [Ii,Kl,LZ,seval];have zz:=@Ak;refine Hx [0,1,2,3] [0,1] (hE) ?_;simp only [Ad,AW,seval];have zz:=@Ak;exact DD hx [0,1,2,3,212] ⟨rfl,rfl,rfl⟩
theorem Q5 (ok:OkLp M) (P:List Fu) (B:Int) (m:Nat) (hm:m < 500) (f:Nat→BitVec 64) :
 As M 493 [.ptr 0 [],GN IC] (cH P B m f) 4 (Q3 (.tup .fnil) (ZI P B (m + 2) (sn (m + 1) (sn m f (Bn 26 0 0 0 0 (-1))) (Bn 0 0 0 0 0 0))) 5):=by
 have hE:=QW ok P B m Aa f;have hF:=DX ok.o P B (m + 1) Aa (sn m f (Bn 26 0 0 0 0 (-1))) 0 0 0 0 0 0 Ab Ab Ab Ab Ab Ab;rw [Zq];rw [NS] at hE;generalize Bn 26 0 0 0 0 (-1)=w at *
 generalize Bn 0 0 0 0 0 0=w' at *
 unfold cH ZI at *
 simp only [Lb,Int.natCast_zero] at hE hF ⊢;refine Ac ok.k493 rfl fun x hx=>?_;refine eX ?_;simp only [Kp,MS,LZ,seval];have zz:=@Ak;refine Hx [0,1,2,3] [0,1] (hE) ?_;simp only [Ad,AW,seval];have zz:=@Ak;refine Hx [0,324,2,3] [0,324] (hF) ?_;simp only [Ad,AW,seval];have zz:=@Ak;exact DD hx [0,1,2,3,356] ⟨rfl,rfl,rfl⟩
theorem Oe (ok:OkLp M) (P:List Fu) (B:Int) (m:Nat) (hm:m < 500) (f:Nat→BitVec 64) :
 As M 459 [.ptr 0 [],DZ [IC]] (cH P B m f) 4 (Q3 (.tup .fnil) (ZI P B (m + 2) (sn (m + 1) (sn m f (Bn 26 0 0 0 0 (-1))) (Bn 0 0 0 0 0 0))) 5):=by
 have hE:=Q5 ok P B m hm f;rw [Zq] at hE;have h0:=YE;rw [IF];generalize Bn 26 0 0 0 0 (-1)=w at *
 generalize Bn 0 0 0 0 0 0=w' at *
 generalize Fb [IC]=sf at *
 unfold cH ZI at *
 simp only [Lb] at hE ⊢;have z1:IntKind.i64.wrap 1=1:=rfl;refine Ac ok.k459 rfl fun x hx=>?_;refine eX ?_;simp only [XN,Ahy,LZ,seval];refine AJ ?_;refine eX ?_;simp only [h0,LZ,seval];repeat refine sd ?_
 have zz:=@Ak;refine Hx [0,1,2,3] [0,1] (hE) ?_;simp only [Ad,z1,AW,seval];refine AJ ?_;refine eX ?_;simp only [z1,LZ,seval];have zz:=@Ak;exact DD hx [0,1,2,3,164] ⟨rfl,rfl,rfl⟩
end Mv
namespace Mv
open Go
def fu0:Fu:=⟨0,0,[IC]⟩
def p0:List Fu:=[fu0]
theorem EG:FC p0 = .lst 3 1 (BW p0):=by simp only [p0,FC,List.length_nil]
theorem Ws:BW p0 0 = .st 3 (.fcons 0 (.int .i64 0) (.fcons 1 (.int .i64 0) (.fcons 2 (DZ [IC]) .fnil))):=by
 rw [MW p0 0 Ab];rfl
def s0W:BitVec 64:=Bn 28 0 14 15 0 0
def liW:BitVec 64:=Bn 26 0 0 0 0 (-1)
def hlW:BitVec 64:=Bn 0 0 0 0 0 0
def l0W:BitVec 64:=Bn 26 0 0 0 0 0
def w6 (f:Nat→BitVec 64):Nat→BitVec 64:=sn 5 (sn 4 (sn 3 (sn 2 (sn 1 f s0W) liW) hlW) l0W) hlW
structure OkLf (M:Seat):Prop where
 p:OkLp M
 k406:Ar M 406 XE=true
theorem Ud {M:Seat} (ok:OkLf M) (B:Int) (f:Nat→BitVec 64) :
 As M 406 [.ptr 0 [],.int .i64 0] [(0,Lb p0 (.sl 1 [] 0 1 1) .nils .nils B 2),(1,.ar 1 1 fun j=>W (f j))] 3
  (Q3 (.tup .fnil) [(0,Lb p0 (.sl 3 [] 0 6 1) (.sl 4 [] 0 1 1) (.sl 5 [] 0 1 1) B 2),(3,.ar 1 6 fun j=>W (w6 f j)),(4,.ar 1 1 fun _=>.int .i64 1),(5,.ar 1 1 fun _=>.int .i64 1)] 6):=by
 have hE1:=DX ok.p.o p0 B 1 Ab f 28 0 14 15 0 0 Ab Ab Ab Ab Ab Ab;have hB:=Oe ok.p p0 B 2 Ab (sn 1 f s0W);have hE2:=DX ok.p.o p0 B 4 Ab (sn 3 (sn 2 (sn 1 f s0W) liW) hlW) 26 0 0 0 0 0 Ab Ab Ab Ab Ab Ab;have hE3:=DX ok.p.o p0 B 5 Ab (sn 4 (sn 3 (sn 2 (sn 1 f s0W) liW) hlW) l0W) 0 0 0 0 0 0 Ab Ab Ab Ab Ab Ab;rw [show Bn 28 0 14 15 0 0=s0W from rfl] at hE1;rw [show Bn 26 0 0 0 0 (-1)=liW from rfl,show Bn 0 0 0 0 0 0=hlW from rfl] at hB;rw [show Bn 26 0 0 0 0 0=l0W from rfl] at hE2;rw [show Bn 0 0 0 0 0 0=hlW from rfl] at hE3;have h0:=Ws;rw [IF] at h0 hB;have hst:∀ H m z,Aw H m z (.lst 10 1 (Fb [IC])) (.lst 10 1 (Fb [IC]))=True:=fun H m z=>by rw [← IF];exact eq_true (Gx H m z _)
 have hrt:∀ a,(V.lst 10 1 (Fb [IC])).ren a = .lst 10 1 (Fb [IC]):=fun a=>by rw [← IF];exact Ja a _
 have hsl:∀ H m z,Aw H m z (.lst 3 1 (BW p0)) (.lst 3 1 (BW p0))=True:=fun H m z=>by rw [← EG];exact Ak H m z p0
 have hrl:∀ a,(V.lst 3 1 (BW p0)).ren a = .lst 3 1 (BW p0):=fun a=>by rw [← EG];exact Ad a p0
 unfold cH ZI at *
 simp only [Lb,EG,Int.natCast_zero] at hE1 hB hE2 hE3 ⊢;generalize BW p0=sf at *
 generalize Fb [IC]=tf at *
 unfold w6;generalize s0W=w1 at *
 generalize liW=w2 at *
 generalize hlW=w3 at *
 generalize l0W=w4 at *
 refine Ac ok.k406 rfl fun x hx=>?_;refine eX ?_;simp only [XE,Alm,h0,LZ,seval];have zz:=hsl;refine Hx [0,1,2,883] [0,1] (hE1) ?_;simp only [hrl,AW,seval];refine AJ ?_;refine eX ?_;simp only [LZ,seval];have zz:=BK hsl hst;refine Hx [0,1011,2,883] [0,1011] (hB) ?_;simp only [hrl,hrt,AW,seval];have zz:=hsl;refine Hx [0,1187,2,883] [0,1187] (hE2) ?_;simp only [hrl,AW,seval];refine AJ ?_;refine eX ?_;simp only [LZ,seval];have z1:IntKind.i64.wrap 1=1:=rfl;have z0:IntKind.i64.wrap 0=0:=rfl;have zz:=hsl;refine Hx [0,1219,2,883] [0,1219] (hE3) ?_;simp only [hrl,z1,z0,AW,seval];repeat refine sd ?_
 refine AJ ?_;refine eX ?_;simp only [LZ,seval];refine Ay.mk hx [0,1,2,1395,1811,883] [] (.tup .fnil) _ 6 Ab (by (simp only [Dz,seval])) (by simp only [DK,seval]) ?_ ⟨rfl,rfl,rfl⟩;simp only [hsl,LY,seval];intro j hj;obtain rfl:j=0:=Aa;simp only [if_true,LY,seval]
def Al2:LC:=(sr [A1 2 (.mv (.c .nils))] (.seq (sr [mt 3 0,A1 4 (.eq false true (.nils 0) (.t 3) (.c .nils))] (.cond (.t 4) (sr [A1 2 (.mv (.c .nils))] .ret) .skip)) (sr [A1 5 (.bsl 1 0 zU []),mt 6 0,
  aP 7 1 8 5 6,mt 2 7] .ret)))
def Ak9:LF:=⟨Al2,1,0,8,[.tmp 2]⟩
def Aj6:LC:=(sr [A1 2 (.mv (.c .nils))] (.seq (sr [mt 3 0,A1 4 (.eq false true (.nils 0) (.t 3) (.c .nils))] (.cond (.t 4) (sr [A1 2 (.mv (.c .nils))] .ret) .skip)) (sr [A1 5 (.bsl 1 0 zI []),mt 6 0,
  aP 7 1 8 5 6,mt 2 7] .ret)))
def Xb:LF:=⟨Aj6,1,0,8,[.tmp 2]⟩
variable {M:Seat}
structure OkLn (M:Seat):Prop where
 f:OkLf M
 k307:Ar M 307 Xz=true
 k409:Ar M 409 Xb=true
 k410:Ar M 410 Tx=true
 k460:Ar M 460 T9=true
theorem nsP (id n:Nat) (q:List Stp) (o:Nat) (h:0 < n):AQ true (ES.nils 0) (.sl id q o n 1) .nils=True:=by simp [AQ];exact h
theorem nsV (id n:Nat) (q:List Stp) (o:Nat):AX (ES.nils 0) (.sl id q o n 1) .nils=false:=rfl
theorem OR (ok:OkLn M) :
 As M 409 [.sl 0 [] 0 1 1] [(0,.ar 1 1 fun _=>.int .i64 1)] 1 (Q3 (.sl 1 [] 0 1 1) [(0,.ar 1 1 fun _=>.int .i64 1),(1,.ar 1 1 fun _=>.int .i64 1)] 2):=by
 refine Ac ok.k409 rfl fun x hx=>?_;have np:=nsP 0 1 [] 0 Ab;refine eX ?_;simp only [Xb,Aj6,np,nsV,LZ,seval];exact Ay.mkZ hx [0,81] ⟨rfl,rfl,rfl⟩
theorem N8 (ok:OkLn M):As M 460 [AE ex0,.nils] [] 0 (Q3 .nils [] 0):=by
 rw [NS];refine Ac ok.k460 rfl fun x hx=>?_;refine eX ?_;simp only [T9,Ae1,LZ,seval];refine AJ ?_;refine eX ?_;simp only [LZ,seval];exact Ay.mkZ hx [] ⟨rfl,rfl,rfl⟩
theorem Ki (ok:OkLn M):As M 410 [DZ [IC],.nils] [] 0 (Q3 .nils [] 0):=by
 have hC:=N8 ok;have h0:=YE;rw [NS] at hC;rw [IF];generalize Fb [IC]=sf at *
 have z1:IntKind.i64.wrap 1=1:=rfl;refine Ac ok.k410 rfl fun x hx=>?_;refine eX ?_;simp only [Tx,Adc,LZ,seval];refine AJ ?_;refine eX ?_;simp only [h0,LZ,seval];repeat refine sd ?_
 refine Ap (hC) ?_;simp only [z1,LZ,seval];refine AJ ?_;refine eX ?_;simp only [z1,LZ,seval];exact Ay.mkZ hx [] ⟨rfl,rfl,rfl⟩
theorem Qv (ok:OkLn M) (B:Int) (n:Nat) :
 As M 307 [.ptr 0 []] [(0,Lb p0 (.sl 1 [] 0 n 1) (.sl 2 [] 0 1 1) (.sl 3 [] 0 1 1) B 4),(2,.ar 1 1 fun _=>.int .i64 1)] 5 (Q3 (.int .i64 1) [(0,Lb p0 (.sl 1 [] 0 n 1) (.sl 2 [] 0 1 1) (.sl 3 [] 0 1 1) B 4),(2,.ar 1 1 fun _=>.int .i64 1)] 5):=by
 have hC:=OR ok;have hB:=Ki ok;have h0:=Ws;rw [IF] at h0 hB;have hst:∀ H m z,Aw H m z (.lst 10 1 (Fb [IC])) (.lst 10 1 (Fb [IC]))=True:=fun H m z=>by rw [← IF];exact eq_true (Gx H m z _)
 have hsl:∀ H m z,Aw H m z (.lst 3 1 (BW p0)) (.lst 3 1 (BW p0))=True:=fun H m z=>by rw [← EG];exact Ak H m z p0
 have hrl:∀ a,(V.lst 3 1 (BW p0)).ren a = .lst 3 1 (BW p0):=fun a=>by rw [← EG];exact Ad a p0
 simp only [Lb,EG];generalize BW p0=sf at *
 generalize Fb [IC]=tf at *
 have z0:IntKind.i64.wrap 0=0:=rfl;have z1:IntKind.i64.wrap 1=1:=rfl;have zm:IntKind.i64.wrap (-1) = -1:=rfl;refine Ac ok.k307 rfl fun x hx=>?_;refine eX ?_;simp only [Xz,Agy,LZ,seval];refine cnK [2] [2] (hC) (by constructor <;> (try simp only [LY,seval]) <;> exact q1) ?_;simp only [z0,AW,seval];refine AJ ?_;refine eX ?_;simp only [h0,LZ,seval];repeat refine sd ?_
 have zz:=hst;refine IQ (hB) ?_;simp only [LZ,seval];refine AJ ?_;refine eX ?_;simp only [z1,z0,LZ,seval];repeat refine sd ?_
 refine AJ ?_;refine eX ?_;simp only [zm,LZ,seval];have zz:=hsl;exact DD hx [0,1,2,3,4] ⟨rfl,rfl,rfl⟩
end Mv
namespace Mv
open Go
def w7 (B:Int):Nat→BitVec 64:=sn 6 (w6 (fun _=>Bn 26 14 0 0 0 (B - 512))) 18446744073709551615#64
structure OkLc (M:Seat):Prop where
 n:OkLn M
 k181:Ar M 181 YL=true
 k306:Ar M 306 Xu=true
theorem IB {M:Seat} (ok:OkLc M) (B:Int) (h1:512≤B) (h2:B < 600) :
 As M 306 [FC p0,.int .i64 B] [] 0 (Q3 (.ptr 0 []) [(0,Lb p0 (.sl 1 [] 0 7 1) (.sl 2 [] 0 1 1) (.sl 3 [] 0 1 1) B 4),(1,.ar 1 7 fun j=>W (w7 B j)),(2,.ar 1 1 fun _=>.int .i64 1)] 5):=by
 have hE:=QM ok.n.f.p.o p0 B 26 14 0 0 0 (B - 512) Ab Ab Ab Ab Ab ⟨by omega,by omega⟩;have hF:=Ud ok.n.f B (fun _=>Bn 26 14 0 0 0 (B - 512));have w0:IntKind.i64.wrap (B - 512)=B - 512:=Pt;have z1:IntKind.i64.wrap 1=1:=rfl;have hsl:∀ H m z,Aw H m z (.lst 3 1 (BW p0)) (.lst 3 1 (BW p0))=True:=fun H m z=>by rw [← EG];exact Ak H m z p0
 have hrl:∀ a,(V.lst 3 1 (BW p0)).ren a = .lst 3 1 (BW p0):=fun a=>by rw [← EG];exact Ad a p0
 unfold w7;generalize Bn 26 14 0 0 0 (B - 512)=wc at *
 generalize w6 (fun _=>wc)=wf at *
 simp only [Lb,EG,Int.natCast_zero] at hE hF ⊢;generalize BW p0=sf at *
 refine Ac ok.k306 rfl fun x hx=>?_;refine eX ?_;simp only [Xu,Ag0,w0,AW,seval];have zz:=hsl;refine Hx [80,48] [80] (hE) ?_;simp only [hrl,AW,seval];refine AJ ?_;refine eX ?_;simp only [LZ,seval];have zz:=hsl;refine Hx [80,160,48] [80,160] (hF) ?_;simp only [hrl,z1,AW,seval];refine AJ ?_;refine eX ?_;simp only [z1,AW,seval];refine AJ ?_;refine eX ?_;simp only [AW,seval];refine AJ ?_;refine eX ?_;simp only [AW,seval];refine Ay.mk hx [80,688,305,306,48] [] (.ptr 0 []) _ 5 Ab (by (simp only [Dz,seval])) (by simp only [DK,seval]) ?_ ⟨rfl,rfl,rfl⟩;simp only [hsl,LY,seval];intro j hj;by_cases h:j < 6
 ·simp only [sn,h,if_true,LY,seval]
 ·obtain rfl:j=6:=Aa;simp only [sn,Nat.lt_irrefl,Nat.sub_self,Dh,LY,seval]
theorem rg0:RgP p0 (fun _=>((List.range 1).map fun _=>2).sum) where
 ne:=Ab
 len:=Ab
 par i hi:=by
  obtain rfl:i=0:=by have:i < 1:=hi;omega
  exact ⟨by decide,by decide,by decide⟩
 par0:=rfl
 body i h:=by
  obtain rfl:i=0:=by have:i < 1:=h;omega
  show RB p0 0 16 [IC] _;refine RB.mk 15 [IC] (fun _=>2) Ab fun j hj=>?_;obtain rfl:j=0:=by have:j < 1:=hj;omega
  show RgS p0 0 15 IC 2;refine RgS.other 15 7 0 ex0 _ [] [] 1 Ab Ab ?_;exact RE.mk 7 26 mxW [] (fun _=>0) (.con _) Ab (fun j hj=>absurd hj BF)
 sum:=Ab
theorem KS {M:Seat} (ok:OkLc M) :
 As M 181 [FC p0] [] 0 (Q3 (AP (.st 2 (.fcons 0 (.sl 0 [] 0 7 1) (.fcons 1 (.int .i64 519) .fnil))) .nili) [(0,.ar 1 7 fun j=>W (w7 519 j))] 1):=by
 have hK:=Kv ok.n.f.p.o.c p0 _ rg0;have hA:=IB ok 512 Ab Ab;have hB:=IB ok 519 Ab Ab;have hN:=Qv ok.n 519 7;have hsl:∀ H m z,Aw H m z (.lst 3 1 (BW p0)) (.lst 3 1 (BW p0))=True:=fun H m z=>by rw [← EG];exact Ak H m z p0
 have hrl:∀ a,(V.lst 3 1 (BW p0)).ren a = .lst 3 1 (BW p0):=fun a=>by rw [← EG];exact Ad a p0
 generalize w7 519=wb at *
 generalize w7 512=wa at *
 simp only [Lb,EG] at hK hA hB hN ⊢;generalize BW p0=sf at *
 have z5:IntKind.i64.wrap 519=519:=rfl;refine Ac ok.k181 rfl fun x hx=>?_;refine eX ?_;simp only [YL,Aj2,LZ,seval];have zz:=hsl;refine IQ (hK) ?_;simp only [LZ,seval];have zz:=hsl;refine Hx [] [] (hA) ?_;simp only [hrl,z5,AW,seval];have zz:=hsl;refine Hx [] [] (hB) ?_;simp only [hrl,z5,AW,seval];have zz:=hsl;refine Hx [272,273,274,275,276] [272,274] (hN) ?_;simp only [hrl,z5,AW,seval];have zz:=@b7;exact DD hx [273] ⟨rfl,rfl,rfl⟩
structure In where
 op:Int
 d:Int
 a:Int
 b:Int
 c:Int
 n:Int
 raw:BitVec 64
instance:Inhabited In:=⟨⟨0,0,0,0,0,0,0#64⟩⟩
def G7 (n:Nat) (u:Nat→BitVec 64) (j:Nat):BitVec 64:=if j < n then u j else 0#64
theorem Ky {M:Seat} (okA:OkM M) (n:Nat) (hn:n≤8192) (u:Nat→BitVec 64):As M 74 [.lst 1 n (fun j=>W (u j))] [] 0 (Q3 (AP (.ptr 0 []) .nili) [(0,AL (G7 n u) (fun _=>0#64) 0#64 false 0#64)] 1):=by
 refine Ac okA.k74 rfl fun x hx=>?_;have e0:((8192:Int) < (n:Int))=False:=eq_false Aa;have m1:min n 8192=n:=Aa;have m2:∀ i:Nat,(0≤i)=True:=fun i=>eq_true (Nat.zero_le i);refine eX ?_;simp only [f74,c74,e0,m1,m2,LZ,seval];have zz:=Jr @b5 @G7.eq_1 @R4;exact DD hx [96] ⟨rfl,rfl,rfl⟩
structure Cl where
 par:Int
 pos:BitVec 64
 val:Dg
 pl:Int
 bond:Int
 us:BitVec 64
 at':BitVec 64
 st:Bool
 rs:Bool
 co:Bool
 by':Int
def Ap8 (u a:BitVec 64):V:=.st 2 (.fcons 0 (W u) (.fcons 1 (W a) .fnil))
def Cl.v (c:Cl):V:=.st 42 (.fcons 0 (.int .i64 c.par) (.fcons 1 (W c.pos) (.fcons 2 (dg c.val) (.fcons 34 (.int .i64 c.pl) (.fcons 35 (.int .i64 c.bond) (.fcons 36 (Ap8 c.us c.at') (.fcons 38 (.bool c.st) (.fcons 39 (.bool c.rs) (.fcons 40 (.bool c.co) (.fcons 41 (.int .i64 c.by') .fnil))))))))))
def Cl.zero:Cl:=⟨0,0#64,Dg.zero,0,0,0#64,0#64,false,false,false,0⟩
abbrev er (n:Int):V:=.ifc 74 (.int .i64 n)
variable {M:Seat}
def imV (w:V) (b:Int):V:=.st 2 (.fcons 0 w (.fcons 1 (.int .i64 b) .fnil))
def Aa9 (f:Nat→BitVec 64) (b k:Nat) (v:Nat→BitVec 64) (i:Nat):BitVec 64:=if b≤i∧i - b < k then v (i - b) else f i
structure OkLm (M:Seat):Prop where
 a:OkM M
 k108:Ar M 108 Aen=true
 k109:Ar M 109 Ain=true
 k244:Ar M 244 Wf=true
 k245:Ar M 245 Ak9=true
theorem Gj (ok:OkLm M) (b:Int):As M 244 [.int .i64 b] [] 0 (Q3 (.bool (decide (0≤b∧b≤6144))) [] 0):=by
 refine Ac ok.k244 rfl fun x hx=>?_;by_cases h0:0≤b
 ·by_cases h1:b≤6144
  ·refine eX ?_;simp only [Wf,Aap,h0,h1,LZ,seval];have zz:=BK h0 h1;exact DD hx [] ⟨rfl,rfl,rfl⟩
  ·refine eX ?_;simp only [Wf,Aap,h0,h1,LZ,seval];have zz:=BK h0 h1;exact DD hx [] ⟨rfl,rfl,rfl⟩
 ·refine eX ?_;simp only [Wf,Aap,h0,LZ,seval];have zz:=h0;exact DD hx [] ⟨rfl,rfl,rfl⟩
theorem Ny (ok:OkLm M) (n:Nat) (hn:0 < n) (hn2:n≤8192) (f:Nat→BitVec 64) :
 As M 245 [.lst 1 n fun j=>W (f j)] [] 0 (Q3 (.sl 0 [] 0 n 1) [(0,.ar 1 n fun j=>W (f j))] 1):=by
 have np:AQ true (ES.nils 0) (.lst 1 n fun j=>W (f j)) .nils=True:=by simp [AQ];exact hn
 have nv:AX (ES.nils 0) (.lst 1 n fun j=>W (f j)) .nils=false:=rfl;refine Ac ok.k245 rfl fun x hx=>?_;refine eX ?_;simp only [Ak9,Al2,np,nv,LZ,seval];refine ⟨by omega,?_⟩;exact Ay.mkZ hx [80] ⟨rfl,rfl,rfl⟩
theorem Ra (ok:OkLm M) (n:Nat) (u:Nat→BitVec 64) (b:Nat) (k:Nat) (v:Nat→BitVec 64) (h:b≤6144) (h1:n≤b) (h2:k≤2048) :
 As M 108 [imV (.lst 1 n fun j=>W (u j)) b,.lst 1 k fun j=>W (v j)] [] 0 (Q3 (AP (.ptr 0 []) .nili) [(0,AL (Aa9 (G7 n u) b k v) (fun _=>0#64) 0#64 false 0#64)] 1):=by
 have hR:=Gj ok b;rw [decide_eq_true ⟨by omega,by omega⟩] at hR;have hL:=Ky ok.a n Aa u;have d1:((b:Int) < (n:Int))=False:=eq_false Aa;have d2:((2048:Int) < (k:Int))=False:=eq_false Aa;refine Ac ok.k108 rfl fun x hx=>?_;refine eX ?_;simp only [Aen,Ai4,imV,LZ,seval];refine Ap (hR) ?_;simp only [d1,d2,LZ,seval];have zz:=@b5;refine cfY (hL) ?_;simp only [EM,AL,seval];refine ⟨by omega,by omega,by omega,by omega,by omega,Ay.mk hx [352] [] (AP (.ptr 0 []) .nili) _ 1 Ab (by (simp only [Dz,seval])) (by simp only [LV,EM,seval,LY]) ?_ ⟨rfl,rfl,rfl⟩⟩;simp only [AL,LY,seval];intro i hi;unfold Aa9;by_cases h3:b≤i∧i - b < k
 ·rw [if_pos h3,if_pos ⟨h3.1,by omega⟩];simp only [LY,seval]
 ·rw [if_neg h3,if_neg Aa];simp only [LY,seval]
theorem PE (ok:OkLm M) (n:Nat) (u:Nat→BitVec 64) (b:Nat) (h:b≤6144) (f g:Nat→BitVec 64) (pc:BitVec 64) (hl:Bool) (xt:BitVec 64) :
 As M 109 [imV (.lst 1 n fun j=>W (u j)) b,.ptr 0 []] [(0,AL f g pc hl xt)] 1 (Q3 (AP (.sl 1 [] 0 2048 1) .nili) [(0,AL f g pc hl xt),(1,.ar 1 2048 fun j=>W (f (b + j)))] 2):=by
 have hR:=Gj ok b;rw [decide_eq_true ⟨by omega,by omega⟩] at hR;have hC:=Ny ok 2048 Ab Ab (fun j=>f (b + j));have w0:IntKind.i64.wrap ((b:Int) + 2048)=((b + 2048:Nat):Int):=B7;refine Ac ok.k109 rfl fun x hx=>?_;refine eX ?_;simp only [Ain,Amd,imV,PG,seval];refine Ap (hR) ?_;have eb:b + 2048 - b=2048:=Aa;have hb:(b + 2048≤8192)=True:=eq_true Aa;simp only [w0,eb,LZ,seval];refine ⟨by omega,by omega,by omega,by omega,by omega,by omega,?_⟩;have zz:=hb;refine ofY (hC) ?_;simp only [LZ,seval];have zz:=BK @b7 @b5;exact DD hx [0,513] ⟨rfl,rfl,rfl⟩
end Mv
