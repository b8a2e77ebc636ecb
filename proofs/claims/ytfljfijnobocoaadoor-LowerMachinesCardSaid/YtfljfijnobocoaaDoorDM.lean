/- A part. -/
import Derived.Test.YtfljfijnobocoaaDoorDL
set_option linter.all false
set_option maxRecDepth 20000
set_option maxHeartbeats 16000000
namespace Mv
open Go
structure In where
 op:Int
 d:Int
 a:Int
 b:Int
 c:Int
 n:Int
 raw:BitVec 64
instance:Inhabited In:=⟨⟨0,0,0,0,0,0,0#64⟩⟩
def YH (n:Nat) (u:Nat→BitVec 64) (j:Nat):BitVec 64:=if j < n then u j else 0#64
theorem Oq {M:Seat} (okA:OkM M) (n:Nat) (hn:n≤8192) (u:Nat→BitVec 64):Ag M 74 [.lst 1 n (fun j=>W (u j))] [] 0 (Q3 (Ah (.ptr 0 []) .nili) [(0,A3 (YH n u) (fun _=>0#64) 0#64 false 0#64)] 1):=by
 refine Ab okA.k74 rfl fun x hx=>?_
 have e0:((8192:Int) < (n:Int))=False:=eq_false Aa
 have m1:min n 8192=n:=Aa
 have m2:∀ i:Nat,(0≤i)=True:=fun i=>eq_true (Nat.zero_le i)
 refine es 2000 ?_;(simp only [f74,c74,e0,m1,m2,LZ,seval])
 have zz:=C4 @A3.eq_1 @YH.eq_1 @NM;exact Bf hx [96] ⟨rfl,rfl,rfl⟩
structure Cl where
 par:Int
 pos:BitVec 64
 val:Dg
 pl:Int
 bond:Int
 us:BitVec 64
 at':BitVec 64
 st:Bool
 rs:Bool
 co:Bool
 by':Int
def Ac (u a:BitVec 64):V:=.st 2 (.fcons 0 (W u) (.fcons 1 (W a) .fnil))
def Cl.v (c:Cl):V:=.st 42 (.fcons 0 (.int .i64 c.par) (.fcons 1 (W c.pos) (.fcons 2 (dg c.val) (.fcons 34 (.int .i64 c.pl) (.fcons 35 (.int .i64 c.bond) (.fcons 36 (Ac c.us c.at') (.fcons 38 (.bool c.st) (.fcons 39 (.bool c.rs) (.fcons 40 (.bool c.co) (.fcons 41 (.int .i64 c.by') .fnil))))))))))
def Cl.zero:Cl:=⟨0,0#64,Dg.zero,0,0,0#64,0#64,false,false,false,0⟩
abbrev er (n:Int):V:=.ifc 74 (.int .i64 n)
variable {M:Seat}
def imV (w:V) (b:Int):V:=.st 2 (.fcons 0 w (.fcons 1 (.int .i64 b) .fnil))
def Alq (f:Nat→BitVec 64) (b k:Nat) (v:Nat→BitVec 64) (i:Nat):BitVec 64:=if b≤i∧i - b < k then v (i - b) else f i
structure OkLm (M:Seat):Prop where
 a:OkM M
 k108:Au M 108 Amk=true
 k109:Au M 109 Amg=true
 k244:Au M 244 Amq=true
 k245:Au M 245 Ann=true
theorem I4 (ok:OkLm M) (b:Int):Ag M 244 [.int .i64 b] [] 0 (Q3 (.bool (decide (0≤b∧b≤6144))) [] 0):=by
 refine Ab ok.k244 rfl fun x hx=>?_
 by_cases h0:0≤b
 ·by_cases h1:b≤6144
  ·refine es 2000 ?_;(simp only [Amq,Am3,h0,h1,LZ,seval])
   have zz:=Bb h0 h1;exact Bf hx [] ⟨rfl,rfl,rfl⟩
  ·refine es 2000 ?_;(simp only [Amq,Am3,h0,h1,LZ,seval])
   have zz:=Bb h0 h1;exact Bf hx [] ⟨rfl,rfl,rfl⟩
 ·refine es 2000 ?_;(simp only [Amq,Am3,h0,LZ,seval])
  have zz:=h0;exact Bf hx [] ⟨rfl,rfl,rfl⟩
theorem Ak9 (ok:OkLm M) (n:Nat) (hn:0 < n) (hn2:n≤8192) (f:Nat→BitVec 64) :
 Ag M 245 [.lst 1 n fun j=>W (f j)] [] 0 (Q3 (.sl 0 [] 0 n 1) [(0,.ar 1 n fun j=>W (f j))] 1):=by
 have np:AD true (ES.nils 0) (.lst 1 n fun j=>W (f j)) .nils=True:=by simp [AD];exact hn
 have nv:AK (ES.nils 0) (.lst 1 n fun j=>W (f j)) .nils=false:=rfl
 refine Ab ok.k245 rfl fun x hx=>?_
 refine es 2000 ?_;(simp only [Ann,Aoe,np,nv,LZ,seval])
 refine ⟨by omega,?_⟩
 exact Ar.mkZ hx [80] ⟨rfl,rfl,rfl⟩
theorem Ald (ok:OkLm M) (n:Nat) (u:Nat→BitVec 64) (b:Int) (k:Nat) (v:Nat→BitVec 64) (h:¬ (0≤b∧b≤6144)) :
 Ag M 108 [imV (.lst 1 n fun j=>W (u j)) b,.lst 1 k fun j=>W (v j)] [] 0 (Q3 (Ah .nilp (er 2)) [] 0):=by
 have hR:=I4 ok b
 rw [decide_eq_false h] at hR
 refine Ab ok.k108 rfl fun x hx=>?_
 refine es 2000 ?_;(simp only [Amk,Am9,imV,LZ,seval])
 refine Ak (hR) ?_
 (simp only [LZ,seval])
 have zz:=@Ah.eq_1;exact Bf hx [] ⟨rfl,rfl,rfl⟩
theorem Alf (ok:OkLm M) (n:Nat) (u:Nat→BitVec 64) (b:Int) (k:Nat) (v:Nat→BitVec 64) (h:0≤b∧b≤6144) (h5:b < n ∨ 2048 < k) :
 Ag M 108 [imV (.lst 1 n fun j=>W (u j)) b,.lst 1 k fun j=>W (v j)] [] 0 (Q3 (Ah .nilp (er 5)) [] 0):=by
 have hR:=I4 ok b
 rw [decide_eq_true h] at hR
 refine Ab ok.k108 rfl fun x hx=>?_
 refine es 2000 ?_;(simp only [Amk,Am9,imV,LZ,seval])
 refine Ak (hR) ?_
 by_cases h1:b < (n:Int)
 ·(simp only [h1,LZ,seval])
  have zz:=@Ah.eq_1;exact Bf hx [] ⟨rfl,rfl,rfl⟩
 ·have h2:((2048:Int) < (k:Int))=True:=eq_true Aa
  (simp only [h1,h2,LZ,seval])
  have zz:=@Ah.eq_1;exact Bf hx [] ⟨rfl,rfl,rfl⟩
theorem Akw (ok:OkLm M) (n:Nat) (u:Nat→BitVec 64) (b:Nat) (k:Nat) (v:Nat→BitVec 64) (h:b≤6144) (h1:n≤b) (h2:k≤2048) :
 Ag M 108 [imV (.lst 1 n fun j=>W (u j)) b,.lst 1 k fun j=>W (v j)] [] 0 (Q3 (Ah (.ptr 0 []) .nili) [(0,A3 (Alq (YH n u) b k v) (fun _=>0#64) 0#64 false 0#64)] 1):=by
 have hR:=I4 ok b
 rw [decide_eq_true ⟨by omega,by omega⟩] at hR
 have hL:=Oq ok.a n Aa u
 have d1:((b:Int) < (n:Int))=False:=eq_false Aa
 have d2:((2048:Int) < (k:Int))=False:=eq_false Aa
 refine Ab ok.k108 rfl fun x hx=>?_
 refine es 2000 ?_;(simp only [Amk,Am9,imV,LZ,seval])
 refine Ak (hR) ?_
 (simp only [d1,d2,LZ,seval])
 have zz:=@A3.eq_1;refine Kb (hL) ?_
 (simp only [AH,A3,seval])
 refine ⟨by omega,by omega,by omega,by omega,by omega,Ar.mk hx [352] [] (Ah (.ptr 0 []) .nili) _ 1 Am (by (simp only [CU,seval])) (by simp only [LV,AH,seval,LY]) ?_ ⟨rfl,rfl,rfl⟩⟩
 simp only [A3,LY,seval]
 intro i hi
 unfold Alq
 by_cases h3:b≤i∧i - b < k
 ·rw [if_pos h3,if_pos ⟨h3.1,by omega⟩]
  simp only [LY,seval]
 ·rw [if_neg h3,if_neg Aa]
  simp only [LY,seval]
theorem Akc (ok:OkLm M) (n:Nat) (u:Nat→BitVec 64) (b:Int) :
 Ag M 109 [imV (.lst 1 n fun j=>W (u j)) b,.nilp] [] 0 (Q3 (Ah .nils (er 1)) [] 0):=by
 refine Ab ok.k109 rfl fun x hx=>?_
 refine es 2000 ?_;(simp only [Amg,Am6,imV,LZ,seval])
 have zz:=@Ah.eq_1;exact Bf hx [] ⟨rfl,rfl,rfl⟩
theorem Alu (ok:OkLm M) (n:Nat) (u:Nat→BitVec 64) (b:Int) (h:¬ (0≤b∧b≤6144)) :
 Ag M 109 [imV (.lst 1 n fun j=>W (u j)) b,.ptr 0 []] [] 1 (Q3 (Ah .nils (er 2)) [] 1):=by
 have hR:=I4 ok b
 rw [decide_eq_false h] at hR
 refine Ab ok.k109 rfl fun x hx=>?_
 refine es 2000 ?_;(simp only [Amg,Am6,imV,LZ,seval])
 refine Ak (hR) ?_
 (simp only [LZ,seval])
 have zz:=@Ah.eq_1;exact Bf hx [0] ⟨rfl,rfl,rfl⟩
theorem Aku (ok:OkLm M) (n:Nat) (u:Nat→BitVec 64) (b:Nat) (h:b≤6144) (f g:Nat→BitVec 64) (pc:BitVec 64) (hl:Bool) (xt:BitVec 64) :
 Ag M 109 [imV (.lst 1 n fun j=>W (u j)) b,.ptr 0 []] [(0,A3 f g pc hl xt)] 1 (Q3 (Ah (.sl 1 [] 0 2048 1) .nili) [(0,A3 f g pc hl xt),(1,.ar 1 2048 fun j=>W (f (b + j)))] 2):=by
 have hR:=I4 ok b
 rw [decide_eq_true ⟨by omega,by omega⟩] at hR
 have hC:=Ak9 ok 2048 Am Am (fun j=>f (b + j))
 have w0:IntKind.i64.wrap ((b:Int) + 2048)=((b + 2048:Nat):Int):=AZ
 refine Ab ok.k109 rfl fun x hx=>?_
 refine es 2000 ?_;(simp only [Amg,Am6,imV,Zt,seval])
 refine Ak (hR) ?_
 have eb:b + 2048 - b=2048:=Aa
 have hb:(b + 2048≤8192)=True:=eq_true Aa
 (simp only [w0,eb,LZ,seval])
 refine ⟨by omega,by omega,by omega,by omega,by omega,by omega,?_⟩
 have zz:=hb;refine ofY (hC) ?_
 (simp only [LZ,seval])
 have zz:=Bb @Ah.eq_1 @A3.eq_1;exact Bf hx [0,513] ⟨rfl,rfl,rfl⟩
def lF0:Nat→BitVec 64:=Alq (YH 7 (w7 519)) 519 1 (fun _=>7#64)
def lG0:Nat→BitVec 64:=fun _=>0#64
def lG1:Nat→BitVec 64:=FI lG0 14 7#64
def lF1:Nat→BitVec 64:=FI lF0 (7#64:BitVec 64).toNat (lG1 (pF (QJ 28 0 14 15 0 0) 44))
def lG2:Nat→BitVec 64:=FI lG1 (pF (QJ 26 0 0 0 0 (-1)) 52) (BitVec.ofInt 64 (pN (QJ 26 0 0 0 0 (-1))))
def lXt:BitVec 64:=lG2 (pF (QJ 0 0 0 0 0 0) 48)
def lxM (i:Nat):Mc :=
 if i=0 then ⟨lF0,lG0,0#64,false,0#64⟩
 else if i=1 then ⟨lF0,lG1,1#64,false,0#64⟩
 else if i=2 then ⟨lF1,lG1,2#64,false,0#64⟩
 else if i=3 then ⟨lF1,lG2,3#64,false,0#64⟩
 else ⟨lF1,lG2,3#64,true,lXt⟩
theorem Amy {M:Seat} (ok:OkV M):∀ i,i < 4→(lxM i).hl=false∧Mz M (lxM i) (lxM (i + 1)):=by
 intro i hi
 match i,hi with
 | 0,_=>exact ⟨rfl,Np ok lF0 lG0 0#64 0#64 Am (QJ 26 14 0 0 0 7) Am Am Am⟩
 | 1,_=>exact ⟨rfl,Jl ok lF0 lG1 1#64 0#64 Am (QJ 28 0 14 15 0 0) Am Am Am 7#64 Am Am⟩
 | 2,_=>exact ⟨rfl,Np ok lF1 lG1 2#64 0#64 Am (QJ 26 0 0 0 0 (-1)) Am Am Am⟩
 | 3,_=>exact ⟨rfl,Aky ok lF1 lG2 3#64 0#64 Am (QJ 0 0 0 0 0 0) Am Am Am⟩
structure OkL13 (M:Seat):Prop where
 c:OkLc M
 m:OkLm M
 v:OkV M
 s:OkS M
 k106:Au M 106 Anz=true
theorem Akb {M:Seat} (ok:OkL13 M):Ag M 106 [] [] 0 (Q3 (.bool true) [] 0):=by
 have hC:=Ak2 ok.c
 have hM:=Akw ok.m 7 (w7 519) 519 1 (fun _=>7#64) Am Am Am
 have hS:=Tc ok.m.a ok.s
 have hr:=Amw ok.v lxM 4 1000 Am Am (Amy ok.v) (.inl rfl)
 have hD:=Aku ok.m 7 (w7 519) 519 Am lF1 lG2 3#64 true lXt
 have e7:lF1 519=7#64:=Am
 have exq:lXt=18446744073709551615#64:=Am
 rw [show (lxM 0).v=A3 lF0 (fun _=>0#64) 0#64 false 0#64 from rfl,show (lxM 4).v=A3 lF1 lG2 3#64 true lXt from rfl] at hr
 rw [show Alq (YH 7 (w7 519)) 519 1 (fun _=>7#64)=lF0 from rfl] at hM
 generalize lF0=F0 at *
 generalize lF1=F1 at *
 rw [exq] at hr hD
 generalize lG2=G2 at *
 generalize w7 519=wb at *
 have h0:=Amp
 have g0:=Amv
 rw [Pf] at hC
 rw [Akn] at h0
 generalize I1 p0=sf at *
 generalize stF [st0]=tf at *
 simp only [EZ,Zm] at hS
 simp only [imV] at hM hD
 refine Ab ok.k106 rfl fun x hx=>?_
 refine es 2000 ?_;(simp only [Anz,Aon,LZ,seval])
 refine cfK (hC) (by (try simp only [LY,seval]) <;> first | exact q1 | (intro i hi;obtain rfl:i=0:=Aa;simp only [h0,if_true,LY,seval];intro i hi;obtain rfl:i=0:=Aa;simp only [g0,Kv,if_true,LY,seval])) (by simp only [LX]) ?_
 (simp only [NC,seval])
 refine cfK (hM) (by (try simp only [A3,LY,seval]) <;> first | exact q1 | (intro i hi;obtain rfl:i=0:=Aa;simp only [if_true,LY,seval])) (by simp only [A3,LX]) ?_
 (simp only [NC,A3,seval])
 have zz:=C4 @Du @RP @J3;refine Kb (hS) ?_
 (simp only [Iu,EE,seval])
 have zz:=@A3.eq_1;refine Bw [272,480] [272] (hr) ?_
 (simp only [NC,A3,seval])
 have zz:=@A3.eq_1;refine SM [272] (hD) ?_
 (simp only [NC,A3,e7,seval])
 exact Ar.mkZ hx [] ⟨rfl,rfl,rfl⟩
structure OkLM (M:Seat):Prop where
 f:OkL13 M
 k26:Au M 26 f26=true
 is:∀ a b:Int,Ag M 63 [.ifc 74 (.int .i64 a),.ifc 74 (.int .i64 b)] [] 0 (Q3 (.bool (decide (a=b))) [] 0)
theorem Ak1 {M:Seat} (ok:OkLM M) (n:Nat) (hn:n * 8≤140737488351232) (u:Nat→BitVec 64) (base:Int) (k:Nat) (v:Nat→BitVec 64) (h:¬ (0≤base∧base≤6144)) :
 Ag M 26 [.lst 1 n fun j=>W (u j),.int .i64 base,.lst 1 k fun j=>W (v j)] [] 0 (Q3 (.bool true) [] 0):=by
 have hD:=Akc ok.f.m n u base
 have hF:=Akb ok.f
 simp only [imV,er] at hD
 have hM:=Ald ok.f.m n u base k v h
 have hL:=Amd ok.f.m.a
 have hE:=Alu ok.f.m n u base h
 simp only [imV,er] at hM hE
 have hi:=ok.is 1 1
 have hj:=ok.is 2 2
 by_cases h0:base < 0
 ·refine Ab ok.k26 rfl fun x hx=>?_
  refine es 2000 ?_;(simp only [f26,c26,LZ,seval])
  refine ⟨by omega,?_⟩
  refine Ak (hM) ?_
  (simp only [AH,seval])
  refine Ak (hD) ?_
  (simp only [AH,seval])
  refine Ak (hF) ?_
  (simp only [LZ,seval])
  refine Ak (hi) ?_
  (simp only [decide_true,h0,LZ,seval])
  have zz:=@A3.eq_1;refine Kb (hL) ?_
  (simp only [AH,A3,seval])
  refine Wx [592] [] (hE) (by constructor <;> (try simp only [LY,seval]) <;> exact q1) (by simp only [LX]) ?_
  (simp only [AH,seval])
  refine Ak (hj) ?_
  (simp only [decide_true,LZ,seval])
  refine Ak (hj) ?_
  (simp only [decide_true,LZ,seval])
  exact Ar.mkZ hx [] ⟨rfl,rfl,rfl⟩
 ·have h1:6144 < base:=Aa
  refine Ab ok.k26 rfl fun x hx=>?_
  refine es 2000 ?_;(simp only [f26,c26,LZ,seval])
  refine ⟨by omega,?_⟩
  refine Ak (hM) ?_
  (simp only [AH,seval])
  refine Ak (hD) ?_
  (simp only [AH,seval])
  refine Ak (hF) ?_
  (simp only [LZ,seval])
  refine Ak (hi) ?_
  (simp only [decide_true,h0,h1,LZ,seval])
  have zz:=@A3.eq_1;refine Kb (hL) ?_
  (simp only [AH,A3,seval])
  refine Wx [592] [] (hE) (by constructor <;> (try simp only [LY,seval]) <;> exact q1) (by simp only [LX]) ?_
  (simp only [AH,seval])
  refine Ak (hj) ?_
  (simp only [decide_true,LZ,seval])
  refine Ak (hj) ?_
  (simp only [decide_true,LZ,seval])
  exact Ar.mkZ hx [] ⟨rfl,rfl,rfl⟩
variable {M:Seat}
theorem Akz (ok:OkLM M) (n:Nat) (hn:n * 8≤140737488351232) (u:Nat→BitVec 64) (b:Nat) (k:Nat) (v:Nat→BitVec 64) (hb:b≤6144) (h5:(b:Int) < n ∨ 2048 < k) :
 Ag M 26 [.lst 1 n fun j=>W (u j),.int .i64 b,.lst 1 k fun j=>W (v j)] [] 0 (Q3 (.bool true) [] 0):=by
 have hD:=Akc ok.f.m n u b
 have hF:=Akb ok.f
 have hM:=Alf ok.f.m n u b k v ⟨by omega,by omega⟩ h5
 simp only [imV,er] at hD hM
 have hi:=ok.is 1 1
 have hj:=ok.is 5 5
 have h0:((b:Int) < 0)=False:=eq_false Aa
 have h1:(6144 < (b:Int))=False:=eq_false Aa
 by_cases h2:(b:Int) < n
 ·refine Ab ok.k26 rfl fun x hx=>?_
  refine es 2000 ?_;(simp only [f26,c26,LZ,seval])
  refine ⟨by omega,?_⟩
  refine Ak (hM) ?_
  (simp only [AH,seval])
  refine Ak (hD) ?_
  (simp only [AH,seval])
  refine Ak (hF) ?_
  (simp only [LZ,seval])
  refine Ak (hi) ?_
  (simp only [decide_true,h0,h1,h2,LZ,seval])
  refine Ak (hj) ?_
  (simp only [decide_true,LZ,seval])
  exact Ar.mkZ hx [] ⟨rfl,rfl,rfl⟩
 ·have h3:(2048:Int) < (k:Int):=Aa
  refine Ab ok.k26 rfl fun x hx=>?_
  refine es 2000 ?_;(simp only [f26,c26,LZ,seval])
  refine ⟨by omega,?_⟩
  refine Ak (hM) ?_
  (simp only [AH,seval])
  refine Ak (hD) ?_
  (simp only [AH,seval])
  refine Ak (hF) ?_
  (simp only [LZ,seval])
  refine Ak (hi) ?_
  (simp only [decide_true,h0,h1,h2,h3,LZ,seval])
  refine Ak (hj) ?_
  (simp only [decide_true,LZ,seval])
  exact Ar.mkZ hx [] ⟨rfl,rfl,rfl⟩
theorem Akx (ok:OkLM M) (n:Nat) (hn:n * 8≤140737488351232) (u:Nat→BitVec 64) (b:Nat) (k:Nat) (v:Nat→BitVec 64) (hb:b≤6144) (h2':n≤b) (h3':k≤2048) :
 Ag M 26 [.lst 1 n fun j=>W (u j),.int .i64 b,.lst 1 k fun j=>W (v j)] [] 0 (Q3 (.bool true) [] 0):=by
 have hD:=Akc ok.f.m n u b
 have hF:=Akb ok.f
 have hi:=ok.is 1 1
 have hM:=Akw ok.f.m n u b k v Aa Aa Aa
 have h0:((b:Int) < 0)=False:=eq_false Aa
 have h1:(6144 < (b:Int))=False:=eq_false Aa
 have h2:((b:Int) < (n:Int))=False:=eq_false Aa
 have h3:((2048:Int) < (k:Int))=False:=eq_false Aa
 have hE:=Aku ok.f.m n u b Aa (Alq (YH n u) b k v) (fun _=>0#64) 0#64 false 0#64
 have hF0:∀ i,Alq (YH n u) b k v i=if b≤i∧i - b < k then v (i - b) else YH n u i:=fun i=>rfl
 generalize Alq (YH n u) b k v=F at *
 simp only [imV,A3,er] at hM hE hD
 refine Ab ok.k26 rfl fun x hx=>?_
 refine es 2000 ?_;(simp only [f26,c26,LZ,seval])
 refine ⟨by omega,?_⟩
 refine QB (hM) ?_
 (simp only [AH,seval])
 refine Ak (hD) ?_
 (simp only [AH,seval])
 refine Ak (hF) ?_
 (simp only [LZ,seval])
 refine Ak (hi) ?_
 (simp only [decide_true,h0,h1,h2,h3,LZ,seval])
 refine Wx [160] [160] (hE) (by constructor <;> (try simp only [LY,seval]) <;> exact q1) (by simp only [LX]) ?_
 (simp only [AH,seval])
 have hu:∀ m z H,Az H m z (.lst 1 n fun j=>W (u j)) (.lst 1 n fun j=>W (u j))=True:=fun m z H=>by simp only [LY,seval]
 refine An (σ:=Nat) (fun i=>i≤8192) (fun i=>fr 223 [(0,.lst 1 n fun j=>W (u j)),(1,.int .i64 b),(2,.lst 1 k fun j=>W (v j)),(7,.ptr 1 []),(8,.ptr 0 []),(16,.sl 2 [] 0 2048 1),(137,.ar 1 8192 fun j=>W (F j)),(138,.int .i64 i)])
  (fun _=>[(0,A3 F (fun _=>0#64) 0#64 false 0#64),(1,imV (.sl 3 [] 0 n 1) b),(2,.ar 1 2048 fun j=>W (F (b + j))),(3,.ar 1 n fun j=>W (u j))]) (fun _=>4) (fun i=>8192 - i) 0 Aa ?_ ?_
 ·refine Ao.fr [160,96,1184,48] [] hx AQ Am ?_ ?_
  ·simp only [Int.natCast_zero,LY,seval]
  ·simp only [A3,imV,LY,seval]
 ·intro i hi1
  simp only [A3,imV]
  refine es 2000 ?_
  by_cases h8:i=8192
  ·subst h8
   have d0:(((8192:Nat):Int) < 8192)=False:=eq_false Aa
   (simp only [d0,LZ,seval])
   refine An (σ:=Nat) (fun i=>i≤2048) (fun i=>fr 223 [(0,.lst 1 n fun j=>W (u j)),(1,.int .i64 b),(2,.lst 1 k fun j=>W (v j)),(7,.ptr 1 []),(8,.ptr 0 []),(16,.sl 2 [] 0 2048 1),(193,.int .i64 2048),(194,.int .i64 i)])
    (fun i=>[(0,A3 F (fun _=>0#64) 0#64 false 0#64),(1,imV (.sl 3 [] 0 n 1) b),(2,.ar 1 2048 fun j=>W (if j < i then F (b + j) + 1#64 else F (b + j))),(3,.ar 1 n fun j=>W (u j))]) (fun _=>4) (fun i=>2048 - i) 0 Aa ?_ ?_
   ·refine Ao.fr [0,1,2,3] [] hx AQ Am ?_ ?_
    ·simp only [Int.natCast_zero,LY,seval]
    ·simp only [A3,imV,Nat.not_lt_zero,if_false,LY,seval]
   ·intro q hq
    simp only [A3,imV]
    refine es 2000 ?_
    by_cases h9:q=2048
    ·subst h9
     have d1:(((2048:Nat):Int) < 2048)=False:=eq_false Aa
     (simp only [d1,LZ,seval])
     refine Wx [0] [0] (hE) (by constructor <;> (try simp only [LY,seval]) <;> exact q1) (by simp only [LX]) ?_
     (simp only [AH,seval])
     repeat refine sd ?_
     exact Ar.mkZ hx [] ⟨rfl,rfl,rfl⟩
    ·have d1:((q:Int) < 2048)=True:=eq_true Aa
     have w2:IntKind.i64.wrap ((q:Int) + 1)=((q + 1:Nat):Int):=AZ
     have d2:(0≤(q:Int))=True:=eq_true Aa
     (simp only [d1,w2,d2,Nat.lt_irrefl,if_false,LZ,seval])
     refine ⟨by omega,by omega,q + 1,by omega,by omega,?_⟩
     refine Ao.fr [0,1,2,3] [] hx AQ Am ?_ ?_
     ·simp only [LY,seval]
     ·simp only [A3,imV,LY,seval]
      intro j hj
      by_cases hj1:j=q
      ·subst hj1
       rw [if_pos (Nat.lt_succ_self _),if_pos rfl];simp only [LY,seval]
      ·rw [if_neg hj1]
       by_cases hj2:j < q
       ·rw [if_pos hj2,if_pos Aa];simp only [LY,seval]
       ·rw [if_neg hj2,if_neg Aa];simp only [LY,seval]
  ·have d0:((i:Int) < 8192)=True:=eq_true Aa
   have w1:IntKind.i64.wrap ((i:Int) + 1)=((i + 1:Nat):Int):=AZ
   have d3:(0≤(i:Int))=True:=eq_true Aa
   by_cases c1:i < n
   ·have e1:((i:Int) < (n:Int))=True:=eq_true Aa
    have e2:((b:Int)≤(i:Int))=False:=eq_false Aa
    have ef:F i=u i:=by rw [hF0,if_neg Aa];unfold YH;rw [if_pos c1]
    (simp only [d0,d3,e1,e2,w1,ef,LZ,seval])
    refine ⟨i + 1,by omega,by omega,?_⟩
    refine Ao.fr [0,1,2,3] [] hx AQ Am ?_ ?_
    ·simp only [LY,seval]
    ·simp only [A3,imV,LY,seval]
   have e1:((i:Int) < (n:Int))=False:=eq_false Aa
   by_cases c2:i < b
   ·have e2:((b:Int)≤(i:Int))=False:=eq_false Aa
    have ef:F i=0#64:=by rw [hF0,if_neg Aa];unfold YH;rw [if_neg c1]
    (simp only [d0,d3,e1,e2,w1,ef,LZ,seval])
    refine ⟨i + 1,by omega,by omega,?_⟩
    refine Ao.fr [0,1,2,3] [] hx AQ Am ?_ ?_
    ·simp only [LY,seval]
    ·simp only [A3,imV,LY,seval]
   have e2:((b:Int)≤(i:Int))=True:=eq_true Aa
   obtain ⟨q,rfl⟩:∃ q,i=b + q:=⟨i - b,by omega⟩
   have w3:IntKind.i64.wrap (((b + q:Nat):Int) - (b:Int))=(q:Int):=AZ
   have d4:(0≤(q:Int))=True:=eq_true Aa
   have eq1:b + q - b=q:=Aa
   by_cases c3:q < k
   ·have e3:((q:Int) < (k:Int))=True:=eq_true Aa
    have e4:((q:Int) < 2048)=True:=eq_true Aa
    have ef:F (b + q)=v q:=by rw [hF0,eq1,if_pos ⟨by omega,c3⟩]
    (simp only [d0,d3,d4,e1,e2,e3,e4,w1,w3,ef,LZ,seval])
    refine ⟨by omega,b + q + 1,by omega,by omega,?_⟩
    refine Ao.fr [0,1,2,3] [] hx AQ Am ?_ ?_
    ·simp only [LY,seval]
    ·simp only [A3,imV,LY,seval]
   have e3:((q:Int) < (k:Int))=False:=eq_false Aa
   have ef:F (b + q)=0#64:=by rw [hF0,eq1,if_neg Aa];unfold YH;rw [if_neg c1]
   by_cases c4:q < 2048
   ·have e4:((q:Int) < 2048)=True:=eq_true Aa
    (simp only [d0,d3,d4,e1,e2,e3,e4,w1,w3,ef,LZ,seval])
    refine ⟨by omega,b + q + 1,by omega,by omega,?_⟩
    refine Ao.fr [0,1,2,3] [] hx AQ Am ?_ ?_
    ·simp only [LY,seval]
    ·simp only [A3,imV,LY,seval]
   ·have e4:((q:Int) < 2048)=False:=eq_false Aa
    (simp only [d0,d3,d4,e1,e2,e3,e4,w1,w3,ef,LZ,seval])
    refine ⟨b + q + 1,by omega,by omega,?_⟩
    refine Ao.fr [0,1,2,3] [] hx AQ Am ?_ ?_
    ·simp only [LY,seval]
    ·simp only [A3,imV,LY,seval]
theorem Akh (ok:OkLM M) (n:Nat) (hn:n * 8≤140737488351232) (u:Nat→BitVec 64) (base:Int) (k:Nat) (v:Nat→BitVec 64) :
 Ag M 26 [.lst 1 n fun j=>W (u j),.int .i64 base,.lst 1 k fun j=>W (v j)] [] 0 (Q3 (.bool true) [] 0):=by
 by_cases h:0≤base∧base≤6144
 ·obtain ⟨b,rfl⟩:∃ b:Nat,base=b:=⟨base.toNat,by omega⟩
  by_cases h5:(b:Int) < n ∨ 2048 < k
  ·exact Akz ok n hn u b k v Aa h5
  ·exact Akx ok n hn u b k v Aa Aa Aa
 ·exact Ak1 ok n hn u base k v h
end Mv
