/- A part. -/
import Derived.Test.YtfljfijnobocoaaDoorDJ
import Derived.Test.YtfljfijnobocoaaDoorDK
set_option linter.all false
set_option maxRecDepth 20000
set_option maxHeartbeats 8000000
namespace Mv
open Go
def cdV (P:List Fu) (w fr en:V) (b:Int) (cm:Nat):V:=.st 12 (.fcons 0 (fuL P) (.fcons 1 w (.fcons 2 (.int .i64 b) (.fcons 3 (.int .i64 0) (.fcons 4 fr (.fcons 5 en (.fcons 6 (.map cm) (.fcons 7 .nils (.fcons 8 .nils (.fcons 9 .nils (.fcons 10 (.int .i64 0) (.fcons 11 (.int .i64 0) .fnil))))))))))))
structure OkLo (M:Seat):Prop where
 c:OkCk M
 i:OkI M
 k405:Au M 405 Anb=true
theorem Als {M:Seat} (ok:OkLo M) (P:List Fu) (B:Int) (op:Int) (d a b c:Nat) (n:Int) (hd:d < 16) (ha:a < 16) (hb:b < 16) (hc:c < 16) (h1:0≤op∧op≤35) (h2:-2147483648≤n∧n < 2147483648) :
 Ag M 405 [.ptr 0 [],.int .i64 op,.int .i64 d,.int .i64 a,.int .i64 b,.int .i64 c,.int .i64 n] [(0,cdV P .nils .nils .nils B 1)] 2 (Q3 (.int .i64 0) [(0,cdV P (.sl 2 [] 0 1 1) .nils .nils B 1),(2,.ar 1 1 fun _=>W (QJ op d a b c n))] 3):=by
 have hC:=Fg ok.i op d a b c n hd ha hb hc h1 h2
 generalize QJ op d a b c n=w at *
 refine Ab ok.k405 rfl fun x hx=>?_
 refine es 2000 ?_;(simp only [Anb,Ano,cdV,LZ,seval])
 refine Ak (hC) ?_
 have z0:IntKind.i64.wrap 0=0:=rfl
 (simp only [AH,z0,seval])
 refine Ar.mk hx [0,1,322] [] (.int .i64 0) _ 3 Am (by (simp only [CU,seval])) (by simp only [OJ,seval]) ?_ ⟨rfl,rfl,rfl⟩
 simp only [sfu,LY,seval]
 intro j hj
 obtain rfl:j=0:=Aa
 simp only [if_true,LY,seval]
theorem Al9 {M:Seat} (ok:OkLo M) (P:List Fu) (B:Int) (m:Nat) (hm:m < 1000) (f:Nat→BitVec 64) (op:Int) (d a b c:Nat) (n:Int) (hd:d < 16) (ha:a < 16) (hb:b < 16) (hc:c < 16) (h1:0≤op∧op≤35) (h2:-2147483648≤n∧n < 2147483648) :
 Ag M 405 [.ptr 0 [],.int .i64 op,.int .i64 d,.int .i64 a,.int .i64 b,.int .i64 c,.int .i64 n] [(0,cdV P (.sl 1 [] 0 m 1) .nils (.sl 3 [] 0 1 1) B 2),(1,.ar 1 m fun j=>W (f j))] 4 (Q3 (.int .i64 m) [(0,cdV P (.sl 4 [] 0 (m + 1) 1) .nils (.sl 3 [] 0 1 1) B 2),(4,.ar 1 (m + 1) fun j=>W (if j < m then f j else QJ op d a b c n))] 5):=by
 have hC:=Fg ok.i op d a b c n hd ha hb hc h1 h2
 have w0:IntKind.i64.wrap (((m + 1:Nat):Int) - 1)=(m:Int):=AZ
 generalize QJ op d a b c n=w at *
 refine Ab ok.k405 rfl fun x hx=>?_
 refine es 2000 ?_;(simp only [Anb,Ano,cdV,LZ,seval])
 refine Ak (hC) ?_
 (simp only [AH,w0,seval])
 refine ⟨by omega,Ar.mk hx [0,1,2,3,324] [] (.int .i64 m) _ 5 Am (by (simp only [CU,seval])) (by simp only [OJ,seval]) ?_ ⟨rfl,rfl,rfl⟩⟩
 simp only [sfu,LY,seval]
 intro j hj
 by_cases h:j < m
 ·simp only [h,if_true,LY,seval]
 ·obtain rfl:j=m:=Aa
  simp only [Nat.lt_irrefl,Nat.sub_self,CL,LY,seval]
variable {M:Seat}
def Kv:BitVec 64:=18446744073709551615#64
def sn (m:Nat) (f:Nat→BitVec 64) (w:BitVec 64) (j:Nat):BitVec 64:=if j < m then f j else w
def cH (P:List Fu) (B:Int) (m:Nat) (f:Nat→BitVec 64):Hp:=[(0,cdV P (.sl 1 [] 0 m 1) .nils (.sl 3 [] 0 1 1) B 2),(1,.ar 1 m fun j=>W (f j))]
def cH' (P:List Fu) (B:Int) (m:Nat) (f:Nat→BitVec 64):Hp:=[(0,cdV P (.sl 4 [] 0 m 1) .nils (.sl 3 [] 0 1 1) B 2),(4,.ar 1 m fun j=>W (f j))]
structure OkLp (M:Seat):Prop where
 o:OkLo M
 k459:Au M 459 Anr=true
 k493:Au M 493 An2=true
 k516:Au M 516 Ani=true
 k537:Au M 537 An3=true
theorem Mm (ok:OkLo M) (P:List Fu) (B:Int) (m:Nat) (hm:m < 1000) (f:Nat→BitVec 64) (op:Int) (d a b c:Nat) (n:Int) (hd:d < 16) (ha:a < 16) (hb:b < 16) (hc:c < 16) (h1:0≤op∧op≤35) (h2:-2147483648≤n∧n < 2147483648) :
 Ag M 405 [.ptr 0 [],.int .i64 op,.int .i64 d,.int .i64 a,.int .i64 b,.int .i64 c,.int .i64 n] (cH P B m f) 4 (Q3 (.int .i64 m) (cH' P B (m + 1) (sn m f (QJ op d a b c n))) 5) :=
 Al9 ok P B m hm f op d a b c n hd ha hb hc h1 h2
theorem Alc (ok:OkLp M) (P:List Fu) (B:Int) (m:Nat) (hm:m < 1000) (f:Nat→BitVec 64) :
 Ag M 537 [.ptr 0 [],.int .i64 0,W Kv] (cH P B m f) 4 (Q3 (.tup .fnil) (cH' P B (m + 1) (sn m f (QJ 26 0 0 0 0 (-1)))) 5):=by
 have hE:=Mm ok.o P B m hm f 26 0 0 0 0 (-1) Am Am Am Am Am Am
 have e1:Kv.toInt = -1:=Am
 have e2:(BitVec.setWidth 32 Kv).toInt = -1:=Am
 have e3:IntKind.i64.wrap (-1) = -1:=Am
 generalize QJ 26 0 0 0 0 (-1)=w at *
 unfold cH cH' at *
 simp only [cdV,Int.natCast_zero] at hE ⊢
 refine Ab ok.k537 rfl fun x hx=>?_
 refine es 2000 ?_;(simp only [An3,Aop,e1,e2,e3,LZ,seval])
 have zz:=@sfu;refine Bw [0,1,2,3] [0,1] (hE) ?_
 (simp only [Hd,EE,seval])
 have zz:=@sfu;exact Bf hx [0,1,2,3,164] ⟨rfl,rfl,rfl⟩
def ex0:Ex:=.mk 26 Kv []
def st0:IrSt:=.mk 7 0 ex0 (.mk 0 0#64 []) [] []
theorem Alk:exV ex0 = .st 3 (.fcons 0 (.int .i64 26) (.fcons 1 (W Kv) (.fcons 2 .nils .fnil))):=by simp only [ex0,exV,exL]
theorem Amj:stV st0 = .st 10 (.fcons 0 (.int .i64 7) (.fcons 1 (.int .i64 0) (.fcons 2 (.st 3 (.fcons 0 (.int .i64 26) (.fcons 1 (W Kv) (.fcons 2 .nils .fnil)))) (.fcons 5 (.st 3 (.fcons 0 (.int .i64 0) (.fcons 1 (W 0#64) (.fcons 2 .nils .fnil)))) (.fcons 8 .nils (.fcons 9 .nils .fnil)))))):=by simp only [st0,stV,Alk,exV,exL,stL]
theorem Akn:stL [st0] = .lst 10 1 (stF [st0]):=Alg st0 []
theorem Amv:stF [st0] 0 = .st 10 (.fcons 0 (.int .i64 7) (.fcons 1 (.int .i64 0) (.fcons 2 (.st 3 (.fcons 0 (.int .i64 26) (.fcons 1 (W Kv) (.fcons 2 .nils .fnil)))) (.fcons 5 (.st 3 (.fcons 0 (.int .i64 0) (.fcons 1 (W 0#64) (.fcons 2 .nils .fnil)))) (.fcons 8 .nils (.fcons 9 .nils .fnil)))))):=by
 rw [Ak4 [st0] 0 Am];exact Amj
theorem Alp (ok:OkLp M) (P:List Fu) (B:Int) (m:Nat) (hm:m < 1000) (f:Nat→BitVec 64) :
 Ag M 516 [.ptr 0 [],exV ex0,.int .i64 0] (cH P B m f) 4 (Q3 (.tup .fnil) (cH' P B (m + 1) (sn m f (QJ 26 0 0 0 0 (-1)))) 5):=by
 have hE:=Alc ok P B m hm f
 rw [Alk]
 generalize QJ 26 0 0 0 0 (-1)=w at *
 unfold cH cH' at *
 simp only [cdV] at hE ⊢
 refine Ab ok.k516 rfl fun x hx=>?_
 refine es 2000 ?_;(simp only [Ani,An9,LZ,seval])
 have zz:=@sfu;refine Bw [0,1,2,3] [0,1] (hE) ?_
 (simp only [Hd,EE,seval])
 have zz:=@sfu;exact Bf hx [0,1,2,3,212] ⟨rfl,rfl,rfl⟩
theorem Alt (ok:OkLp M) (P:List Fu) (B:Int) (m:Nat) (hm:m < 500) (f:Nat→BitVec 64) :
 Ag M 493 [.ptr 0 [],stV st0] (cH P B m f) 4 (Q3 (.tup .fnil) (cH' P B (m + 2) (sn (m + 1) (sn m f (QJ 26 0 0 0 0 (-1))) (QJ 0 0 0 0 0 0))) 5):=by
 have hE:=Alp ok P B m Aa f
 have hF:=Mm ok.o P B (m + 1) Aa (sn m f (QJ 26 0 0 0 0 (-1))) 0 0 0 0 0 0 Am Am Am Am Am Am
 rw [Amj]
 rw [Alk] at hE
 generalize QJ 26 0 0 0 0 (-1)=w at *
 generalize QJ 0 0 0 0 0 0=w' at *
 unfold cH cH' at *
 simp only [cdV,Int.natCast_zero] at hE hF ⊢
 refine Ab ok.k493 rfl fun x hx=>?_
 refine es 2000 ?_;(simp only [An2,Aoq,LZ,seval])
 have zz:=@sfu;refine Bw [0,1,2,3] [0,1] (hE) ?_
 (simp only [Hd,EE,seval])
 have zz:=@sfu;refine Bw [0,324,2,3] [0,324] (hF) ?_
 (simp only [Hd,EE,seval])
 have zz:=@sfu;exact Bf hx [0,1,2,3,356] ⟨rfl,rfl,rfl⟩
theorem Alj (ok:OkLp M) (P:List Fu) (B:Int) (m:Nat) (hm:m < 500) (f:Nat→BitVec 64) :
 Ag M 459 [.ptr 0 [],stL [st0]] (cH P B m f) 4 (Q3 (.tup .fnil) (cH' P B (m + 2) (sn (m + 1) (sn m f (QJ 26 0 0 0 0 (-1))) (QJ 0 0 0 0 0 0))) 5):=by
 have hE:=Alt ok P B m hm f
 rw [Amj] at hE
 have h0:=Amv
 rw [Akn]
 generalize QJ 26 0 0 0 0 (-1)=w at *
 generalize QJ 0 0 0 0 0 0=w' at *
 generalize stF [st0]=sf at *
 unfold cH cH' at *
 simp only [cdV] at hE ⊢
 have z1:IntKind.i64.wrap 1=1:=rfl
 refine Ab ok.k459 rfl fun x hx=>?_
 refine es 2000 ?_;(simp only [Anr,Aol,LZ,seval])
 refine AW ?_
 refine es 2000 ?_
 (simp only [h0,LZ,seval])
 repeat refine sd ?_
 have zz:=@sfu;refine Bw [0,1,2,3] [0,1] (hE) ?_
 (simp only [Hd,z1,EE,seval])
 refine AW ?_
 refine es 2000 ?_
 (simp only [z1,LZ,seval])
 have zz:=@sfu;exact Bf hx [0,1,2,3,164] ⟨rfl,rfl,rfl⟩
def fu0:Fu:=⟨0,0,[st0]⟩
def p0:List Fu:=[fu0]
theorem Pf:fuL p0 = .lst 3 1 (I1 p0):=by simp only [p0,fuL,List.length_nil]
theorem Amp:I1 p0 0 = .st 3 (.fcons 0 (.int .i64 0) (.fcons 1 (.int .i64 0) (.fcons 2 (stL [st0]) .fnil))):=by
 rw [Ak7 p0 0 Am];rfl
def s0W:BitVec 64:=QJ 28 0 14 15 0 0
def liW:BitVec 64:=QJ 26 0 0 0 0 (-1)
def hlW:BitVec 64:=QJ 0 0 0 0 0 0
def l0W:BitVec 64:=QJ 26 0 0 0 0 0
def w6 (f:Nat→BitVec 64):Nat→BitVec 64:=sn 5 (sn 4 (sn 3 (sn 2 (sn 1 f s0W) liW) hlW) l0W) hlW
structure OkLf (M:Seat):Prop where
 p:OkLp M
 k406:Au M 406 Anx=true
theorem Amc {M:Seat} (ok:OkLf M) (B:Int) (f:Nat→BitVec 64) :
 Ag M 406 [.ptr 0 [],.int .i64 0] [(0,cdV p0 (.sl 1 [] 0 1 1) .nils .nils B 2),(1,.ar 1 1 fun j=>W (f j))] 3
  (Q3 (.tup .fnil) [(0,cdV p0 (.sl 3 [] 0 6 1) (.sl 4 [] 0 1 1) (.sl 5 [] 0 1 1) B 2),(3,.ar 1 6 fun j=>W (w6 f j)),(4,.ar 1 1 fun _=>.int .i64 1),(5,.ar 1 1 fun _=>.int .i64 1)] 6):=by
 have hE1:=Mm ok.p.o p0 B 1 Am f 28 0 14 15 0 0 Am Am Am Am Am Am
 have hB:=Alj ok.p p0 B 2 Am (sn 1 f s0W)
 have hE2:=Mm ok.p.o p0 B 4 Am (sn 3 (sn 2 (sn 1 f s0W) liW) hlW) 26 0 0 0 0 0 Am Am Am Am Am Am
 have hE3:=Mm ok.p.o p0 B 5 Am (sn 4 (sn 3 (sn 2 (sn 1 f s0W) liW) hlW) l0W) 0 0 0 0 0 0 Am Am Am Am Am Am
 rw [show QJ 28 0 14 15 0 0=s0W from rfl] at hE1
 rw [show QJ 26 0 0 0 0 (-1)=liW from rfl,show QJ 0 0 0 0 0 0=hlW from rfl] at hB
 rw [show QJ 26 0 0 0 0 0=l0W from rfl] at hE2
 rw [show QJ 0 0 0 0 0 0=hlW from rfl] at hE3
 have h0:=Amp
 rw [Akn] at h0 hB
 have hst:∀ H m z,Az H m z (.lst 10 1 (stF [st0])) (.lst 10 1 (stF [st0]))=True:=fun H m z=>by rw [← Akn];exact eq_true (Akf H m z _)
 have hrt:∀ a,(V.lst 10 1 (stF [st0])).ren a = .lst 10 1 (stF [st0]):=fun a=>by rw [← Akn];exact Akq a _
 have hsl:∀ H m z,Az H m z (.lst 3 1 (I1 p0)) (.lst 3 1 (I1 p0))=True:=fun H m z=>by rw [← Pf];exact sfu H m z p0
 have hrl:∀ a,(V.lst 3 1 (I1 p0)).ren a = .lst 3 1 (I1 p0):=fun a=>by rw [← Pf];exact Hd a p0
 unfold cH cH' at *
 simp only [cdV,Pf,Int.natCast_zero] at hE1 hB hE2 hE3 ⊢
 generalize I1 p0=sf at *
 generalize stF [st0]=tf at *
 unfold w6
 generalize s0W=w1 at *
 generalize liW=w2 at *
 generalize hlW=w3 at *
 generalize l0W=w4 at *
 refine Ab ok.k406 rfl fun x hx=>?_
 refine es 2000 ?_;(simp only [Anx,Aod,h0,LZ,seval])
 have zz:=hsl;refine Bw [0,1,2,883] [0,1] (hE1) ?_
 (simp only [hrl,EE,seval])
 refine AW ?_
 refine es 2000 ?_
 (simp only [LZ,seval])
 have zz:=Bb hsl hst;refine Bw [0,1011,2,883] [0,1011] (hB) ?_
 (simp only [hrl,hrt,EE,seval])
 have zz:=hsl;refine Bw [0,1187,2,883] [0,1187] (hE2) ?_
 (simp only [hrl,EE,seval])
 refine AW ?_
 refine es 2000 ?_
 (simp only [LZ,seval])
 have z1:IntKind.i64.wrap 1=1:=rfl
 have z0:IntKind.i64.wrap 0=0:=rfl
 have zz:=hsl;refine Bw [0,1219,2,883] [0,1219] (hE3) ?_
 (simp only [hrl,z1,z0,EE,seval])
 repeat refine sd ?_
 refine AW ?_
 refine es 2000 ?_
 (simp only [LZ,seval])
 refine Ar.mk hx [0,1,2,1395,1811,883] [] (.tup .fnil) _ 6 Am (by (simp only [CU,seval])) (by simp only [OJ,seval]) ?_ ⟨rfl,rfl,rfl⟩
 simp only [hsl,LY,seval]
 intro j hj
 obtain rfl:j=0:=Aa
 simp only [if_true,LY,seval]
def Aoe:LC:=(sr [A1 2 (.mv (.c .nils))] (.seq (sr [mt 3 0,A1 4 (.eq false true (.nils 0) (.t 3) (.c .nils))] (.cond (.t 4) (sr [A1 2 (.mv (.c .nils))] .ret) .skip)) (sr [A1 5 (.bsl 1 0 (.int .u64) []),mt 6 0,
  aP 7 1 8 5 6,mt 2 7] .ret)))
def Ann:LF:=⟨Aoe,1,0,8,[.tmp 2]⟩
def Aoo:LC:=(sr [A1 2 (.mv (.c .nils))] (.seq (sr [mt 3 0,A1 4 (.eq false true (.nils 0) (.t 3) (.c .nils))] (.cond (.t 4) (sr [A1 2 (.mv (.c .nils))] .ret) .skip)) (sr [A1 5 (.bsl 1 0 (.int .i64) []),mt 6 0,
  aP 7 1 8 5 6,mt 2 7] .ret)))
def Anm:LF:=⟨Aoo,1,0,8,[.tmp 2]⟩
variable {M:Seat}
structure OkLn (M:Seat):Prop where
 f:OkLf M
 k307:Au M 307 Ank=true
 k409:Au M 409 Anm=true
 k410:Au M 410 An6=true
 k460:Au M 460 Ant=true
theorem nsP (id n:Nat) (q:List Stp) (o:Nat) (h:0 < n):AD true (ES.nils 0) (.sl id q o n 1) .nils=True:=by simp [AD];exact h
theorem nsV (id n:Nat) (q:List Stp) (o:Nat):AK (ES.nils 0) (.sl id q o n 1) .nils=false:=rfl
theorem Ale (ok:OkLn M) :
 Ag M 409 [.sl 0 [] 0 1 1] [(0,.ar 1 1 fun _=>.int .i64 1)] 1 (Q3 (.sl 1 [] 0 1 1) [(0,.ar 1 1 fun _=>.int .i64 1),(1,.ar 1 1 fun _=>.int .i64 1)] 2):=by
 refine Ab ok.k409 rfl fun x hx=>?_
 have np:=nsP 0 1 [] 0 Am
 refine es 2000 ?_;(simp only [Anm,Aoo,np,nsV,LZ,seval])
 exact Ar.mkZ hx [0,81] ⟨rfl,rfl,rfl⟩
theorem Ak8 (ok:OkLn M):Ag M 460 [exV ex0,.nils] [] 0 (Q3 .nils [] 0):=by
 rw [Alk]
 refine Ab ok.k460 rfl fun x hx=>?_
 refine es 2000 ?_;(simp only [Ant,Aof,LZ,seval])
 refine AW ?_
 refine es 2000 ?_
 (simp only [LZ,seval])
 exact Ar.mkZ hx [] ⟨rfl,rfl,rfl⟩
theorem Akv (ok:OkLn M):Ag M 410 [stL [st0],.nils] [] 0 (Q3 .nils [] 0):=by
 have hC:=Ak8 ok
 have h0:=Amv
 rw [Alk] at hC
 rw [Akn]
 generalize stF [st0]=sf at *
 have z1:IntKind.i64.wrap 1=1:=rfl
 refine Ab ok.k410 rfl fun x hx=>?_
 refine es 2000 ?_;(simp only [An6,Aoc,LZ,seval])
 refine AW ?_
 refine es 2000 ?_
 (simp only [h0,LZ,seval])
 repeat refine sd ?_
 refine Ak (hC) ?_
 (simp only [z1,LZ,seval])
 refine AW ?_
 refine es 2000 ?_
 (simp only [z1,LZ,seval])
 exact Ar.mkZ hx [] ⟨rfl,rfl,rfl⟩
theorem Alr (ok:OkLn M) (B:Int) (n:Nat) :
 Ag M 307 [.ptr 0 []] [(0,cdV p0 (.sl 1 [] 0 n 1) (.sl 2 [] 0 1 1) (.sl 3 [] 0 1 1) B 4),(2,.ar 1 1 fun _=>.int .i64 1)] 5 (Q3 (.int .i64 1) [(0,cdV p0 (.sl 1 [] 0 n 1) (.sl 2 [] 0 1 1) (.sl 3 [] 0 1 1) B 4),(2,.ar 1 1 fun _=>.int .i64 1)] 5):=by
 have hC:=Ale ok
 have hB:=Akv ok
 have h0:=Amp
 rw [Akn] at h0 hB
 have hst:∀ H m z,Az H m z (.lst 10 1 (stF [st0])) (.lst 10 1 (stF [st0]))=True:=fun H m z=>by rw [← Akn];exact eq_true (Akf H m z _)
 have hsl:∀ H m z,Az H m z (.lst 3 1 (I1 p0)) (.lst 3 1 (I1 p0))=True:=fun H m z=>by rw [← Pf];exact sfu H m z p0
 have hrl:∀ a,(V.lst 3 1 (I1 p0)).ren a = .lst 3 1 (I1 p0):=fun a=>by rw [← Pf];exact Hd a p0
 simp only [cdV,Pf]
 generalize I1 p0=sf at *
 generalize stF [st0]=tf at *
 have z0:IntKind.i64.wrap 0=0:=rfl
 have z1:IntKind.i64.wrap 1=1:=rfl
 have zm:IntKind.i64.wrap (-1) = -1:=rfl
 refine Ab ok.k307 rfl fun x hx=>?_
 refine es 2000 ?_;(simp only [Ank,An7,LZ,seval])
 refine cnK [2] [2] (hC) (by constructor <;> (try simp only [LY,seval]) <;> exact q1) ?_
 (simp only [z0,EE,seval])
 refine AW ?_
 refine es 2000 ?_
 (simp only [h0,LZ,seval])
 repeat refine sd ?_
 have zz:=hst;refine Ce (hB) ?_
 (simp only [LZ,seval])
 refine AW ?_
 refine es 2000 ?_
 (simp only [z1,z0,LZ,seval])
 repeat refine sd ?_
 refine AW ?_
 refine es 2000 ?_
 (simp only [zm,LZ,seval])
 have zz:=hsl;exact Bf hx [0,1,2,3,4] ⟨rfl,rfl,rfl⟩
def w7 (B:Int):Nat→BitVec 64:=sn 6 (w6 (fun _=>QJ 26 14 0 0 0 (B - 512))) 18446744073709551615#64
structure OkLc (M:Seat):Prop where
 n:OkLn M
 k181:Au M 181 Ans=true
 k306:Au M 306 Anw=true
theorem Akm {M:Seat} (ok:OkLc M) (B:Int) (h1:512≤B) (h2:B < 600) :
 Ag M 306 [fuL p0,.int .i64 B] [] 0 (Q3 (.ptr 0 []) [(0,cdV p0 (.sl 1 [] 0 7 1) (.sl 2 [] 0 1 1) (.sl 3 [] 0 1 1) B 4),(1,.ar 1 7 fun j=>W (w7 B j)),(2,.ar 1 1 fun _=>.int .i64 1)] 5):=by
 have hE:=Als ok.n.f.p.o p0 B 26 14 0 0 0 (B - 512) Am Am Am Am Am ⟨by omega,by omega⟩
 have hF:=Amc ok.n.f B (fun _=>QJ 26 14 0 0 0 (B - 512))
 have w0:IntKind.i64.wrap (B - 512)=B - 512:=by rw [AY Aa]
 have z1:IntKind.i64.wrap 1=1:=rfl
 have hsl:∀ H m z,Az H m z (.lst 3 1 (I1 p0)) (.lst 3 1 (I1 p0))=True:=fun H m z=>by rw [← Pf];exact sfu H m z p0
 have hrl:∀ a,(V.lst 3 1 (I1 p0)).ren a = .lst 3 1 (I1 p0):=fun a=>by rw [← Pf];exact Hd a p0
 unfold w7
 generalize QJ 26 14 0 0 0 (B - 512)=wc at *
 generalize w6 (fun _=>wc)=wf at *
 simp only [cdV,Pf,Int.natCast_zero] at hE hF ⊢
 generalize I1 p0=sf at *
 refine Ab ok.k306 rfl fun x hx=>?_
 refine es 2000 ?_;(simp only [Anw,Aom,w0,EE,seval])
 have zz:=hsl;refine Bw [80,48] [80] (hE) ?_
 (simp only [hrl,EE,seval])
 refine AW ?_
 refine es 2000 ?_
 (simp only [LZ,seval])
 have zz:=hsl;refine Bw [80,160,48] [80,160] (hF) ?_
 (simp only [hrl,z1,EE,seval])
 refine AW ?_
 refine es 2000 ?_
 (simp only [z1,EE,seval])
 refine AW ?_
 refine es 2000 ?_
 (simp only [EE,seval])
 refine AW ?_
 refine es 2000 ?_
 (simp only [EE,seval])
 refine Ar.mk hx [80,688,305,306,48] [] (.ptr 0 []) _ 5 Am (by (simp only [CU,seval])) (by simp only [OJ,seval]) ?_ ⟨rfl,rfl,rfl⟩
 simp only [hsl,LY,seval]
 intro j hj
 by_cases h:j < 6
 ·simp only [sn,h,if_true,LY,seval]
 ·obtain rfl:j=6:=Aa
  simp only [sn,Nat.lt_irrefl,Nat.sub_self,CL,LY,seval]
theorem rg0:RgP p0 (fun _=>((List.range 1).map fun _=>2).sum) where
 ne:=Am
 len:=Am
 par i hi:=by
  obtain rfl:i=0:=by have:i < 1:=hi;omega
  exact ⟨by decide,by decide,by decide⟩
 par0:=rfl
 body i h:=by
  obtain rfl:i=0:=by have:i < 1:=h;omega
  show RB p0 0 16 [st0] _
  refine RB.mk 15 [st0] (fun _=>2) Am fun j hj=>?_
  obtain rfl:j=0:=by have:j < 1:=hj;omega
  show RgS p0 0 15 st0 2
  refine RgS.other 15 7 0 ex0 _ [] [] 1 Am Am ?_
  exact RE.mk 7 26 Kv [] (fun _=>0) (.con _) Am (fun j hj=>absurd hj B5)
 sum:=Am
theorem Ak2 {M:Seat} (ok:OkLc M) :
 Ag M 181 [fuL p0] [] 0 (Q3 (Ah (.st 2 (.fcons 0 (.sl 0 [] 0 7 1) (.fcons 1 (.int .i64 519) .fnil))) .nili) [(0,.ar 1 7 fun j=>W (w7 519 j))] 1):=by
 have hK:=Alm ok.n.f.p.o.c p0 _ rg0
 have hA:=Akm ok 512 Am Am
 have hB:=Akm ok 519 Am Am
 have hN:=Alr ok.n 519 7
 have hsl:∀ H m z,Az H m z (.lst 3 1 (I1 p0)) (.lst 3 1 (I1 p0))=True:=fun H m z=>by rw [← Pf];exact sfu H m z p0
 have hrl:∀ a,(V.lst 3 1 (I1 p0)).ren a = .lst 3 1 (I1 p0):=fun a=>by rw [← Pf];exact Hd a p0
 generalize w7 519=wb at *
 generalize w7 512=wa at *
 simp only [cdV,Pf] at hK hA hB hN ⊢
 generalize I1 p0=sf at *
 have z5:IntKind.i64.wrap 519=519:=rfl
 refine Ab ok.k181 rfl fun x hx=>?_
 refine es 2000 ?_;(simp only [Ans,Aor,LZ,seval])
 have zz:=hsl;refine Ce (hK) ?_
 (simp only [LZ,seval])
 have zz:=hsl;refine Bw [] [] (hA) ?_
 (simp only [hrl,z5,EE,seval])
 have zz:=hsl;refine Bw [] [] (hB) ?_
 (simp only [hrl,z5,EE,seval])
 have zz:=hsl;refine Bw [272,273,274,275,276] [272,274] (hN) ?_
 (simp only [hrl,z5,EE,seval])
 have zz:=@Ah.eq_1;exact Bf hx [273] ⟨rfl,rfl,rfl⟩
end Mv
