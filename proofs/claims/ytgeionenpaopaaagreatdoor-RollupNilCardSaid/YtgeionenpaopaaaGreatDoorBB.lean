/- A part. -/
import Derived.Test.YtgeionenpaopaaaGreatDoorBA
set_option linter.all false
set_option maxRecDepth 20000
set_option maxHeartbeats 16000000
namespace Mv
open Go
variable {M:Seat}
def riB (v:BitVec 64) (n:Nat) (j:Nat):BitVec 64:=if j < n then v else 0#64
def riI (v:BitVec 64):Nat→BitVec 64
 | 0=>0#64
 | n + 1=>riI v n + v
theorem Arr (ok:OkRu M) (v:BitVec 64) (hv:v=1#64 ∨ v=1000#64):As M 176 [W v] [] 0 (Q3 (.ptr 0 []) [(0,F1 (riB v 8) (riI v 8) 0#64 .nils 0#64)] 1):=by
 have hN:=Asf ok.l;refine Ac ok.k176 rfl fun x hx=>?_;refine eX ?_;simp only [Axv,Az2,LZ,seval];have zz:=@c3;refine cfY (hN) ?_;simp only [F1,LZ,seval];refine Au (σ:=Nat) (fun n=>n≤8) (fun n=>fr 20 [(0,W v),(3,.ptr 0 []),(6,.int .i64 n)]) (fun n=>[(0,F1 (riB v n) (riI v n) 0#64 .nils 0#64)]) (fun _=>1) (fun n=>8 - n) 0 (Nat.zero_le _) ?_ ?_
 ·refine Av.fr [16] [] hx Bg Ab ?_ ?_
  ·simp only [LY,seval]
  ·simp only [F1,riB,riI,Nat.not_lt_zero,if_false,LY,seval]
 intro n hn;refine eX ?_;by_cases h8:n=8
 ·subst h8;simp only [LZ,seval];have zz:=@c3;exact DD hx [0] ⟨rfl,rfl,rfl⟩
 have hb:¬ 281474976710656#64 < v:=by rcases hv with rfl | rfl <;> decide
 have hP:=Atj ok.l (riB v n) (riI v n) 0#64 0#64 n Aa v hb (by
  have:n=0 ∨ n=1 ∨ n=2 ∨ n=3 ∨ n=4 ∨ n=5 ∨ n=6 ∨ n=7:=Aa
  rcases hv with rfl | rfl <;> rcases this with rfl | rfl | rfl | rfl | rfl | rfl | rfl | rfl <;> decide)
 have d0:((n:Int) < 8)=True:=eq_true Aa;simp only [d0,LZ,seval];have zz:=@c3;refine cmY [0] (hP) ?_;simp only [F1,LZ,seval];have wi:IntKind.i64.wrap ((n:Int) + 1)=((n + 1:Nat):Int):=B7;refine ⟨n + 1,by omega,by omega,?_⟩;refine Av.fr [0] [] hx Bg Ab ?_ ?_
 ·simp only [wi,LY,seval]
 ·simp only [F1,riI,LY,seval];intro j hj;by_cases h1:j=n
  ·simp [riB,h1]
  ·by_cases h2:j < n
   ·simp [riB,h1,h2,show j < n + 1 by omega]
   ·simp [riB,h1,h2,show ¬ j < n + 1 by omega]
theorem Avo (A:List V) (H:Hp) (n:Nat) (zk zv:Z):Ag A H n (.mkmap zk zv)=⟨True,.map n,(n,.mp 0 (fun _=>zk.v 0) (fun _=>zv.v 0)) :: H⟩:=rfl
theorem Atk (ok:OkRu M) (r o:Dg):As M 170 [.ptr 0 [],Ap8 100#64 0#64,E3 r o] [] 1 (fun y H' k'=>y=AP (.ptr 1 []) .nili∧H'=[(1,L3 (.ptr 0 []) 100#64 0#64 .nils .nils (.sl 2 [] 0 1 64) (.map 3)),(2,.ar 64 1 fun _=>E3 r o),(3,.mp 0 (fun _=>dg Dg.zero) fun _=>.bool false)]∧k'=4):=by
 have hC:=Ars ok;refine Ac ok.k170 rfl fun x hx=>?_;refine eX ?_;simp only [Au5,Avt,Ap8,E3,LZ,seval];have zz:=@b7;refine IQ (hC) ?_;simp only [Avo,LZ,seval];refine Ay.mk hx [0,273,225,241] [] (AP (.ptr 1 []) .nili) [(1,L3 (.ptr 0 []) 100#64 0#64 .nils .nils (.sl 2 [] 0 1 64) (.map 3)),(2,.ar 64 1 fun _=>E3 r o),(3,.mp 0 (fun _=>dg Dg.zero) fun _=>.bool false)] 4 Ab (by (simp only [Dz,seval])) (by simp only [LV,EM,seval,LY]) ?_ ⟨rfl,rfl,rfl⟩;simp only [L3,Ap8,E3,dg,LY,seval];intro j hj;obtain rfl:j=0:=Aa;simp only [if_true,LY,seval]
theorem As4 (ok:OkRu M) (r o:Dg):As M 135 [E3 r o] [] 0 (fun y H' k'=>y = .ptr 0 []∧H'=[(0,L3 (.ptr 1 []) 100#64 0#64 .nils .nils (.sl 2 [] 0 1 64) (.map 3)),(1,F1 (riB 1000#64 8) (riI 1000#64 8) 0#64 .nils 0#64),(2,.ar 64 1 fun _=>E3 r o),(3,.mp 0 (fun _=>dg Dg.zero) fun _=>.bool false)]∧k'=4):=by
 have hR:=Arr ok 1000#64 (.inr rfl);have hC:=Atk ok r o;simp only [Ap8,E3] at hC;refine Ac ok.k135 rfl fun x hx=>?_;refine eX ?_;simp only [Axd,Az0,E3,LZ,seval];have zz:=@c3;refine ofY (hR) ?_;simp only [F1,LZ,seval];have zz:=aq4 @c6 @b7 @b8 @a6;refine onY [176] [] (hC) ?_;simp only [EM,L3,Ap8,E3,seval];have zz:=aq5 @c6 @b7 @b8 @c3 @a6;exact DD hx [224,176,225,226] ⟨rfl,rfl,rfl⟩
theorem Avi (ok:OkRu M) (r o:Dg):As M 285 [.lst 64 1 fun _=>E3 r o] [] 0 (fun y H' k'=>y = .sl 0 [] 0 1 64∧H'=[(0,.ar 64 1 fun _=>E3 r o)]∧k'=1):=by
 have np:AQ true (ES.nils 0) (.lst 64 1 fun _=>E3 r o) .nils=True:=by simp [AQ]
 have nv:AX (ES.nils 0) (.lst 64 1 fun _=>E3 r o) .nils=false:=rfl;refine Ac ok.k285 rfl fun x hx=>?_;refine eX ?_;simp only [Awh,A0t,np,nv,LZ,seval];have zz:=BK @b8 @a6;exact DD hx [80] ⟨rfl,rfl,rfl⟩
theorem Ash (ok:OkRu M) (r o:Dg):As M 177 [.ptr 0 []] [(0,L3 (.ptr 1 []) 100#64 0#64 .nils .nils (.sl 2 [] 0 1 64) (.map 3)),(2,.ar 64 1 fun _=>E3 r o)] 4
 (fun y H' k'=>y = .sl 4 [] 0 1 64∧H'=[(0,L3 (.ptr 1 []) 100#64 0#64 .nils .nils (.sl 2 [] 0 1 64) (.map 3)),(2,.ar 64 1 fun _=>E3 r o),(4,.ar 64 1 fun _=>E3 r o)]∧k'=5):=by
 have h:=Avi ok r o;refine Ac ok.k177 rfl fun x hx=>?_;refine eX ?_;simp only [Avx,Aw0,L3,Ap8,LZ,seval];have zz:=BK @b8 @a6;refine cfY (h) ?_;simp only [L3,Ap8,E3,LZ,seval];have zz:=aq4 @c6 @b7 @b8 @a6;exact DD hx [0,1,2,3,116] ⟨rfl,rfl,rfl⟩
theorem Auy (ok:OkRu M):As M 365 [.nils,.junk] [] 0 (fun y H' k'=>y = .int .i64 (-1)∧H'=[]∧k'=0):=by
 refine Ac ok.k365 rfl fun x hx=>?_;refine eX ?_;simp only [Awn,A0b,LZ,seval];refine AJ ?_;refine eX ?_;simp only [LZ,seval];exact Ay.mkZ hx [] ⟨rfl,rfl,rfl⟩
theorem Avb (ok:OkRu M):As M 278 [.nils,.junk] [] 0 (fun y H' k'=>y = .bool false∧H'=[]∧k'=0):=by
 have h:=Auy ok;refine Ac ok.k278 rfl fun x hx=>?_;refine eX ?_;simp only [Axx,Az1,LZ,seval];refine Ap (h) ?_;simp only [LZ,seval];exact Ay.mkZ hx [] ⟨rfl,rfl,rfl⟩
theorem Asw (ok:OkRu M):As M 171 [.ptr 0 [],.lst 1 1 fun _=>B 1#8] [(0,L3 (.ptr 1 []) 100#64 0#64 .nils .nils (.sl 2 [] 0 1 64) (.map 3))] 4
 (fun y H' k'=>y=AP (.int .i64 0) .nili∧H'=[(0,L3 (.ptr 1 []) 100#64 0#64 (.sl 4 [] 0 1 1) .nils (.sl 2 [] 0 1 64) (.map 3)),(4,.ar 1 1 fun _=>.lst 1 1 fun _=>B 1#8)]∧k'=5):=by
 have h:=Asi ok.t 1#8;refine Ac ok.k171 rfl fun x hx=>?_;refine eX ?_;simp only [Av9,Awg,L3,Ap8,LZ,seval];refine Aw2 (h) ?_;simp only [L3,Ap8,wz0,LZ,seval];refine Ay.mk hx [0,1,2,3,564] [468] (AP (.int .i64 0) .nili) [(0,L3 (.ptr 1 []) 100#64 0#64 (.sl 4 [] 0 1 1) .nils (.sl 2 [] 0 1 64) (.map 3)),(4,.ar 1 1 fun _=>.lst 1 1 fun _=>B 1#8)] 5 Ab (by (simp only [Dz,seval])) (by simp only [LV,EM,seval,LY]) ?_ ⟨rfl,rfl,rfl⟩;simp only [L3,Ap8,LY,seval];intro j hj;obtain rfl:j=0:=Aa;simp only [if_true,LY,seval];rfl
theorem Arn (ok:OkRu M) (r o f:Dg) (p:Int) (t:BitVec 64):As M 172 [.ptr 0 [],E3 r o,dg f,.int .i64 p,W t] [(0,L3 (.ptr 1 []) 100#64 0#64 .nils .nils (.sl 2 [] 0 1 64) (.map 3))] 4
 (fun y H' k'=>y=AP (.int .i64 0) (er 4)∧H'=[(0,L3 (.ptr 1 []) 100#64 0#64 .nils .nils (.sl 2 [] 0 1 64) (.map 3))]∧k'=4):=by
 refine Ac ok.k172 rfl fun x hx=>?_;refine eX ?_;simp only [Auk,Awa,L3,Ap8,E3,wz0,LZ,seval];have zz:=Jr @b5 @c6 @b7;exact DD hx [0,1,2,3] ⟨rfl,rfl,rfl⟩
def clR (v:Dg) (p:Int) (t:BitVec 64):Cl:=⟨-1,1#64,v,p,0,0#64,t,false,false,false,p⟩
theorem Ati (ok:OkRu M) (s v:Dg) (p:Nat) (b:Nat→BitVec 64) (i o k:BitVec 64) (hp:p < 8) (hb:¬ b p < 1#64) :
 As M 112 [ruV 20 100#64 0#64 s,.ptr 0 [],.int .i64 p,dg v,W 0#64] [(0,F1 b i o .nils k)] 1 (Q3 (AP (.ptr 2 []) .nili) [(0,F1 (fun j=>if j=p then b p - 1#64 else b j) i o (.sl 1 [] 0 1 2) (k + 1#64)),(1,.ar 2 1 fun _=>bnV 1#64 false),(2,gmV 20 100#64 0#64 s (.ptr 0 []) (.sl 3 [] 0 1 42)),(3,.ar 42 1 fun _=>(clR v p 0#64).v)] 4):=by
 have hB:=Aug ok.n 0;rw [show (if (0:Int) < 0 then 0#64 else BitVec.ofInt 64 0 + 1#64)=1#64 from rfl] at hB;have hL:=As6 ok.l b i o k p hp 1#64 hb;have hC:=Ars ok;refine Ac ok.n.k112 rfl fun x hx=>?_;refine eX ?_;simp only [Axr,A0v,ruV,Ap8,LZ,seval];have zz:=@b7;refine IQ (hC) ?_;simp only [LZ,seval];refine Ap (hB) ?_;simp only [LZ,seval];have zz:=BK @c3 @bnV.eq_1;refine cmY [0] (hL) ?_;simp only [EM,F1,bnV,seval];refine Ay.mk hx [0,465,817,785] [] (AP (.ptr 2 []) .nili) _ 4 Ab (by (simp only [Dz,seval])) (by simp only [LV,AP,LY,seval]) ?_ ⟨rfl,rfl,rfl⟩;simp only [F1,bnV,gmV,ruV,Ap8,clR,Cl.v,dg,LY,seval,implies_true];intro j hj;obtain rfl:j=0:=Aa;simp only [if_true,LY,seval,implies_true]
end Mv
namespace Mv
open Go
inductive Ex where
 | mk (op:Int) (n:BitVec 64) (as:List Ex)
inductive IrSt where
 | mk (kind n:Int) (a b:Ex) (body els:List IrSt)
structure Fu where
 params:Int
 locals:Int
 body:List IrSt
mutual
def AE:Ex→V
 | .mk op n as=>.st 3 (.fcons 0 (.int .i64 op) (.fcons 1 (W n) (.fcons 2 (AF as) .fnil)))
def AF:List Ex→V
 | []=>.nils
 | x :: r=>.lst 3 (r.length + 1) (fun i=>match i with | 0=>AE x | i + 1=>F7 r i)
def F7:List Ex→Nat→V
 | [],_=>.junk
 | x :: r,i=>match i with | 0=>AE x | i + 1=>F7 r i
end
mutual
def GN:IrSt→V
 | .mk kind n a b body els=>.st 10 (.fcons 0 (.int .i64 kind) (.fcons 1 (.int .i64 n) (.fcons 2 (AE a) (.fcons 5 (AE b) (.fcons 8 (DZ body) (.fcons 9 (DZ els) .fnil))))))
def DZ:List IrSt→V
 | []=>.nils
 | x :: r=>.lst 10 (r.length + 1) (fun i=>match i with | 0=>GN x | i + 1=>Fb r i)
def Fb:List IrSt→Nat→V
 | [],_=>.junk
 | x :: r,i=>match i with | 0=>GN x | i + 1=>Fb r i
end
def fuV (f:Fu):V:=.st 3 (.fcons 0 (.int .i64 f.params) (.fcons 1 (.int .i64 f.locals) (.fcons 2 (DZ f.body) .fnil)))
def BW:List Fu→Nat→V
 | [],_=>.junk
 | x :: r,i=>match i with | 0=>fuV x | i + 1=>BW r i
def FC:List Fu→V
 | []=>.nils
 | x :: r=>.lst 3 (r.length + 1) (BW (x :: r))
theorem KC (x:Ex) (r:List Ex):AF (x :: r) = .lst 3 (r.length + 1) (F7 (x :: r)):=by
 simp only [AF];congr 1
theorem OH (x:IrSt) (r:List IrSt):DZ (x :: r) = .lst 10 (r.length + 1) (Fb (x :: r)):=by
 simp only [DZ];congr 1
theorem M7:∀ (l:List Ex) (i:Nat) (h:i < l.length),F7 l i=AE l[i]
 | x :: r,0,_=>by simp only [F7];rfl
 | x :: r,i + 1,h=>by simp only [F7];exact M7 r i V0
theorem Jn:∀ (l:List IrSt) (i:Nat) (h:i < l.length),Fb l i=GN l[i]
 | x :: r,0,_=>by simp only [Fb];rfl
 | x :: r,i + 1,h=>by simp only [Fb];exact Jn r i V0
theorem MW:∀ (l:List Fu) (i:Nat) (h:i < l.length),BW l i=fuV l[i]
 | x :: r,0,_=>by simp only [BW];rfl
 | x :: r,i + 1,h=>by simp only [BW];exact MW r i V0
mutual
theorem A9 (a:List Nat):∀ x,(AE x).ren a=AE x
 | .mk op n as=>by simp only [AE,V.ren,W,Abz a as]
theorem Abz (a:List Nat):∀ l,(AF l).ren a=AF l
 | []=>rfl
 | x :: r => by
   simp only [AF,V.ren]
   congr 1
   funext i;cases i with
   | zero=>exact A9 a x
   | succ i=>exact R0 a r i
theorem R0 (a:List Nat):∀ l i,(F7 l i).ren a=F7 l i
 | [],_=>rfl
 | x :: r,0=>by simp only [F7];exact A9 a x
 | x :: r,i + 1=>by simp only [F7];exact R0 a r i
end
mutual
theorem SV (a:List Nat):∀ x,(GN x).ren a=GN x
 | .mk kind n p q b e=>by simp only [GN,V.ren,W,A9,Ja a b,Ja a e]
theorem Ja (a:List Nat):∀ l,(DZ l).ren a=DZ l
 | []=>rfl
 | x :: r => by
   simp only [DZ,V.ren]
   congr 1
   funext i;cases i with
   | zero=>exact SV a x
   | succ i=>exact Se a r i
theorem Se (a:List Nat):∀ l i,(Fb l i).ren a=Fb l i
 | [],_=>rfl
 | x :: r,0=>by simp only [Fb];exact SV a x
 | x :: r,i + 1=>by simp only [Fb];exact Se a r i
end
theorem H7 (a:List Nat):∀ l i,(BW l i).ren a=BW l i
 | [],_=>rfl
 | x :: r,0=>by simp only [BW,fuV,V.ren,Ja]
 | x :: r,i + 1=>by simp only [BW];exact H7 a r i
theorem Ad (a:List Nat):∀ l,(FC l).ren a=FC l
 | []=>rfl
 | x :: r=>by simp only [FC,V.ren];congr 1;funext i;exact H7 a _ i
mutual
theorem EY (H:Hp) (m z:List Nat):∀ x,Aw H m z (AE x) (AE x)
 | .mk op n as => by
   have h:=SZ H m z as;simp only [AE,LY,seval,h]
theorem SZ (H:Hp) (m z:List Nat):∀ l,Aw H m z (AF l) (AF l)
 | []=>by simp only [AF,LY,seval]
 | x :: r => by
   simp only [AF,LY,seval];intro i _;cases i with
   | zero=>exact EY H m z x
   | succ i=>exact SQ H m z r i
theorem SQ (H:Hp) (m z:List Nat):∀ l i,Aw H m z (F7 l i) (F7 l i)
 | [],_=>by simp only [F7,Aw]
 | x :: r,0=>by simp only [F7];exact EY H m z x
 | x :: r,i + 1=>by simp only [F7];exact SQ H m z r i
end
mutual
theorem NG (H:Hp) (m z:List Nat):∀ x,Aw H m z (GN x) (GN x)
 | .mk kind n p q b e => by
   have h1:=Gx H m z b;have h2:=Gx H m z e;have h3:=EY H m z p;have h4:=EY H m z q;simp only [GN,LY,seval,h1,h2,h3,h4]
theorem Gx (H:Hp) (m z:List Nat):∀ l,Aw H m z (DZ l) (DZ l)
 | []=>by simp only [DZ,LY,seval]
 | x :: r => by
   simp only [DZ,LY,seval];intro i _;cases i with
   | zero=>exact NG H m z x
   | succ i=>exact SO H m z r i
theorem SO (H:Hp) (m z:List Nat):∀ l i,Aw H m z (Fb l i) (Fb l i)
 | [],_=>by simp only [Fb,Aw]
 | x :: r,0=>by simp only [Fb];exact NG H m z x
 | x :: r,i + 1=>by simp only [Fb];exact SO H m z r i
end
theorem RL (H:Hp) (m z:List Nat):∀ l i,Aw H m z (BW l i) (BW l i)
 | [],_=>by simp only [BW,Aw]
 | x :: r, 0 => by
   have h:=Gx H m z x.body;simp only [BW,fuV,LY,seval,h]
 | x :: r,i + 1=>by simp only [BW];exact RL H m z r i
theorem En (H:Hp) (m z:List Nat):∀ l,Aw H m z (FC l) (FC l)
 | []=>by simp only [FC,LY,seval]
 | x :: r => by
   simp only [FC,LY,seval];intro i _;exact RL H m z _ i
theorem Ak (H:Hp) (m z:List Nat) (l:List Fu):Aw H m z (FC l) (FC l)=True:=eq_true (En H m z l)
theorem sex (H:Hp) (m z:List Nat) (l:Ex):Aw H m z (AE l) (AE l)=True:=eq_true (EY H m z l)
theorem GL (H:Hp) (m z:List Nat) (l:List Ex):Aw H m z (AF l) (AF l)=True:=eq_true (SZ H m z l)
theorem sst (H:Hp) (m z:List Nat) (l:IrSt):Aw H m z (GN l) (GN l)=True:=eq_true (NG H m z l)
theorem Dr (H:Hp) (m z:List Nat) (l:List IrSt):Aw H m z (DZ l) (DZ l)=True:=eq_true (Gx H m z l)
structure IrS where
 d:Nat→BitVec 64
 fuel:Nat
 used:Nat
 over:Bool
 out:Bool
 exit:BitVec 64
structure Rs where
 v:BitVec 64
 back:Bool
 s:IrS
 L:Nat→BitVec 64
def OC (s:IrS):IrS:=if s.over then s else if s.used=s.fuel then { s with over:=true,out:=true } else { s with used:=s.used + 1 }
def VO (s:IrS):Bool:=!s.over && !decide (s.used=s.fuel)
def Aim (s:IrS) (x:BitVec 64):IrS:=if s.over then s else { s with over:=true,exit:=x }
def Aml (f:Ex→IrS→Option Rs):List Ex→IrS→Option (List (BitVec 64) × IrS)
 | [],s=>some ([],s)
 | x :: r, s => match f x s with
   | some q => match Aml f r q.s with
     | some (vs,s')=>some (q.v :: vs,s')
     | none=>none
   | none=>none
def evB (f:IrSt→IrS→(Nat→BitVec 64)→Option Rs):List IrSt→IrS→(Nat→BitVec 64)→Option Rs
 | [],s,L=>some ⟨0#64,false,s,L⟩
 | x :: r, s, L => match f x s L with
   | some q=>if q.back || q.s.over then some ⟨q.v,true,q.s,q.L⟩ else evB f r q.s q.L
   | none=>none
inductive Tk where
 | e (x:Ex)
 | b (l:List IrSt)
 | s (x:IrSt)
 | l (x:IrSt)
 | c (i:Nat) (as:List (BitVec 64))
def ev (ap:Int→BitVec 64→BitVec 64→BitVec 64→Option (BitVec 64)) (P:List Fu):Nat→Tk→IrS→(Nat→BitVec 64)→Nat→Option Rs
 | 0,_,_,_,_=>none
 | k + 1, .e (.mk op n as), s, L, nl =>
   if VO s=false then some ⟨0#64,false,OC s,L⟩
   else if op=26 then some ⟨n,false,OC s,L⟩
   else if op=27 then (if n.toNat < nl then some ⟨L n.toNat,false,OC s,L⟩ else none)
   else if 1000≤as.length then none
   else match Aml (fun x s=>ev ap P k (.e x) s L nl) as (OC s) with
    | none=>none
    | some (vs, s) =>
      if s.over then some ⟨0#64,false,s,L⟩
      else if op=28 then (if vs.getD 0 0#64 < 2048#64 then some ⟨s.d (vs.getD 0 0#64).toNat,false,s,L⟩ else some ⟨0#64,false,Aim s 18446744073709551614#64,L⟩)
      else if op=29 then (match ev ap P k (.c n.toNat vs) s L nl with
       | some q=>some ⟨q.v,false,q.s,L⟩
       | none=>none)
      else if op=30 ∨ op=31 then none
      else match ap op (vs.getD 0 0#64) (vs.getD 1 0#64) (vs.getD 2 0#64) with
       | some v=>some ⟨v,false,s,L⟩
       | none=>none
 | k + 1,.b l,s,L,nl=>if 1000000≤l.length then none else evB (fun x s L=>ev ap P k (.s x) s L nl) l s L
 | k + 1, .s (.mk kind n a b body els), s, L, nl =>
   if kind=4 then ev ap P k (.l (.mk kind n a b body els)) s L nl
   else if VO s=false then some ⟨0#64,true,OC s,L⟩
   else match ev ap P k (.e a) (OC s) L nl with
    | none=>none
    | some q =>
      if q.s.over then some ⟨0#64,true,q.s,L⟩
      else if kind=1 then (if 0≤n∧n < nl then some ⟨0#64,false,q.s,fun j=>if j=n.toNat then q.v else L j⟩ else none)
      else if kind=2 then (match ev ap P k (.e b) q.s L nl with
       | none=>none
       | some p =>
         if p.s.over then some ⟨0#64,true,p.s,L⟩
         else if q.v < 2048#64 then some ⟨0#64,false,{ p.s with d:=fun j=>if j=q.v.toNat then p.v else p.s.d j },L⟩
         else some ⟨0#64,true,Aim p.s 18446744073709551614#64,L⟩)
      else if kind=3 then (if q.v=0#64 then ev ap P k (.b els) q.s L nl else ev ap P k (.b body) q.s L nl)
      else if kind=5 then some ⟨q.v,true,q.s,L⟩
      else if kind=7 then some ⟨0#64,true,Aim q.s q.v,L⟩
      else some ⟨0#64,false,q.s,L⟩
 | k + 1, .l (.mk kind n a b body els), s, L, nl =>
   if VO s=false then some ⟨0#64,true,OC s,L⟩
   else match ev ap P k (.e a) (OC s) L nl with
    | none=>none
    | some q =>
      if q.s.over then some ⟨0#64,true,q.s,L⟩
      else if q.v=0#64 then some ⟨0#64,false,q.s,L⟩
      else match ev ap P k (.b body) q.s L nl with
       | none=>none
       | some p=>if p.back then some ⟨p.v,true,p.s,p.L⟩ else ev ap P k (.l (.mk kind n a b body els)) p.s p.L nl
 | k + 1, .c i as, s, L, _ => match P[i]? with
   | none=>none
   | some f =>
     if 0≤f.locals∧f.locals < 1000 then (match ev ap P k (.b f.body) s (fun j=>if j < f.locals.toNat then as.getD j 0#64 else 0#64) f.locals.toNat with
      | none=>none
      | some q=>some ⟨q.v,false,q.s,L⟩)
     else none
theorem Bs (l:List Ex) (h:l ≠ []):AF l = .lst 3 l.length (F7 l):=by
 cases l with
 | nil=>exact absurd rfl h
 | cons x r=>exact KC x r
theorem Bq (l:List IrSt) (h:l ≠ []):DZ l = .lst 10 l.length (Fb l):=by
 cases l with
 | nil=>exact absurd rfl h
 | cons x r=>exact OH x r
theorem AU (l:List Ex):(AF l).solid=true:=KA
theorem AY (l:List Ex):(AF l).size=1:=KA
theorem AZ (l:List Ex):(AF l).isAgg=false:=KA
theorem A8 (l:List IrSt):(DZ l).solid=true:=KA
theorem A7 (l:List IrSt):(DZ l).size=1:=KA
theorem A6 (l:List IrSt):(DZ l).isAgg=false:=KA
theorem Al (x:Ex):(AE x).solid=true:=by cases x;rfl
theorem An (x:Ex):(AE x).size=3:=by cases x;rfl
theorem Am (x:Ex):(AE x).isAgg=true:=by cases x;rfl
theorem Aaw (x:IrSt):(GN x).solid=true:=by cases x;rfl
theorem Aea (x:IrSt):(GN x).size=10:=by cases x;rfl
theorem Aab (x:IrSt):(GN x).isAgg=true:=by cases x;rfl
theorem Dk (l:List Fu):(FC l).solid=true:=KA
theorem Dl (l:List Fu):(FC l).size=1:=KA
theorem Dj (l:List Fu):(FC l).isAgg=false:=KA
theorem BD (l:List Fu) (h:l ≠ []):FC l = .lst 3 l.length (BW l):=by
 cases l with
 | nil=>exact absurd rfl h
 | cons x r=>rfl
theorem CP (l:List Ex) (H:Hp):MY 0 (AF l) H=⟨True,.int .i64 l.length,H⟩:=KA
theorem NH (l:List IrSt) (H:Hp):MY 0 (DZ l) H=⟨True,.int .i64 l.length,H⟩:=KA
theorem Cy (H:Hp) (m z:List Nat) (l:List Ex):B5 H m z (AF l) (AF l)=True:=by
 cases l with
 | nil=>exact eq_true rfl
 | cons x r=>exact GL H m z (x :: r)
theorem B9 (H:Hp) (m z:List Nat) (l:List IrSt):B5 H m z (DZ l) (DZ l)=True:=by
 cases l with
 | nil=>exact eq_true rfl
 | cons x r=>exact Dr H m z (x :: r)
theorem B6 (H:Hp) (m z:List Nat) (l:Ex):B5 H m z (AE l) (AE l)=True:=by
 cases l;exact sex H m z _
theorem svs (H:Hp) (m z:List Nat) (l:IrSt):B5 H m z (GN l) (GN l)=True:=by
 cases l;exact sst H m z _
inductive BV where
 | j
 | vo
 | i (k:Int)
 | w (k:BitVec 64)
 | x (e:Ex)
 | s (t:IrSt)
 | u (f:Fu)
 | nl
 | xl (l:List Ex)
 | sl (l:List IrSt)
 | ul (l:List Fu)
 | f (k:Nat)
 | p (id:Nat)
 | q (id n sz:Nat)
 | uf (a b:Int) (id n:Nat)
def BV.den:BV→V
 | .j=>.junk
 | .i k=>.int .i64 k
 | .w k=>W k
 | .x e=>AE e
 | .s y=>GN y
 | .u F=>fuV F
 | .nl=>.nils
 | .xl l=>AF l
 | .sl l=>DZ l
 | .ul l=>FC l
 | .f k=>.fn k (.st 0 .fnil)
 | .p id=>.ptr id []
 | .q id n sz=>.sl id [] 0 n sz
 | .vo=>.tup .fnil
 | .uf a b id n=>.st 3 (.fcons 0 (.int .i64 a) (.fcons 1 (.int .i64 b) (.fcons 2 (.sl id [] 0 n 10) .fnil)))
def BV.clo:BV→Bool
 | .j | .vo | .p _ | .q .. | .uf .. | .f _=>false
 | _=>true
inductive BB where
 | a (sz:Nat) (l:List BV)
 | c (v:BV)
def exs:List BV→Option (List Ex)
 | []=>some []
 | .x e :: r=>(exs r).map (e :: ·)
 | _=>none
def sts:List BV→Option (List IrSt)
 | []=>some []
 | .s e :: r=>(sts r).map (e :: ·)
 | _=>none
def fus:List BV→Option (List Fu)
 | []=>some []
 | .u e :: r=>(fus r).map (e :: ·)
 | _=>none
abbrev BH:=List (Nat × BB)
def BR:BB→V→Prop
 | .a sz l,v=>∃ g,v = .ar sz l.length g∧∀ i (h:i < l.length),g i=l[i].den
 | .c b,v=>v=b.den
def HR:BH→Hp→Prop
 | [],[]=>True
 | (i,b) :: r,(j,v) :: s=>(i=j∧BR b v)∧HR r s
 | _,_=>False
def R3:BH→Nat→Option BB
 | [],_=>none
 | (i,b) :: r,j=>if i=j then some b else R3 r j
def At4:BH→Nat→BB→BH
 | [],_,_=>[]
 | (i,b) :: r,j,c=>if i=j then (i,c) :: r else (i,b) :: At4 r j c
def Asb:BH→Nat→BH
 | [],_=>[]
 | (i,b) :: r,j=>if i=j then Asb r j else (i,b) :: Asb r j
def Aq6:BH→List Nat→BH
 | h,[]=>h
 | h,i :: r=>Asb (Aq6 h r) i
abbrev BA:=List (Nat × BV)
def blk:BA→Nat→BV
 | [],_=>.j
 | (i,b) :: r,j=>if i=j then b else blk r j
def dA (A:BA):List (Nat × V):=A.map fun p=>(p.1,p.2.den)
def Av3 (nt:Nat) (A:BA):Option Nat→BV→Option BA
 | none,_=>some A
 | some d,b=>if d < nt then some ((d,b) :: A) else none
theorem Arz {k:Int} (h:0≤k∧k < 18446744073709551616):W (BitVec.ofInt 64 k) = .int .u64 k:=by
 have:((BitVec.ofInt 64 k).toNat:Int)=k:=by
  rw [BitVec.toNat_ofInt];omega
 rw [W,this]
def Azw:V→Option BV
 | .int .i64 k=>some (.i k)
 | .int .u64 k=>if 0≤k∧k < 18446744073709551616 then some (.w (BitVec.ofInt 64 k)) else none
 | .nils=>some .nl
 | _=>none
def bx (A:BA):X→Option BV
 | .t i=>some (blk A i)
 | .c v=>Azw v
 | .fn f=>some (.f f)
 | .g _=>none
def bxs (A:BA):List X→Option (List BV)
 | []=>some []
 | x :: r => match bx A x, bxs A r with
   | some b,some l=>some (b :: l)
   | _,_=>none
theorem Ar1 {nt:Nat}:∀ (A:BA),(A.all fun p=>decide (p.1 < nt))=true→∀ t,(fr nt (dA A)).getD t .junk=(blk A t).den
 | [],_,t=>Ih nt t
 | (i, b) :: r, h, t => by
   simp only [List.all_cons,Bool.and_eq_true,decide_eq_true_eq] at h;simp only [dA,List.map_cons,blk];by_cases e:i=t
   ·subst e;rw [if_pos rfl];exact Fj h.1
   ·rw [if_neg e,Kq e];exact Ar1 r h.2 t
theorem Arm:∀ {h:BH} {H:Hp},HR h H→∀ {j b},R3 h j=some b→Af H j=true∧BR b (hget H j)
 | [],[],_,j,b,e=>by simp [R3] at e
 | (i, c) :: r, (i', v) :: s, h, j, b, e => by
   obtain ⟨⟨rfl,h1⟩,h2⟩:=h;simp only [R3] at e;simp only [Af,hget];by_cases k:i=j
   ·rw [if_pos k] at e;cases e;subst k;simp [h1]
   ·rw [if_neg k] at e;have:=Arm h2 e;simp only [if_neg k];exact ⟨by simp [this.1],this.2⟩
 | [],_ :: _,h,_,_,_=>h.elim
 | _ :: _,[],h,_,_,_=>h.elim
theorem Au4:∀ {h:BH} {H:Hp},HR h H→∀ {j b v},BR b v→HR (At4 h j b) (BC H j v)
 | [],[],_,j,b,v,_=>trivial
 | (i, c) :: r, (i', w) :: s, h, j, b, v, e => by
   obtain ⟨⟨rfl,h1⟩,h2⟩:=h;simp only [At4,BC];by_cases k:i=j
   ·rw [if_pos k,if_pos k];exact ⟨⟨rfl,e⟩,h2⟩
   ·rw [if_neg k,if_neg k];exact ⟨⟨rfl,h1⟩,Au4 h2 e⟩
 | [],_ :: _,h,_,_,_,_=>h.elim
 | _ :: _,[],h,_,_,_,_=>h.elim
theorem As8:∀ {h:BH} {H:Hp},HR h H→∀ j,HR (Asb h j) (CT H j)
 | [],[],_,j=>trivial
 | (i, c) :: r, (i', w) :: s, h, j => by
   obtain ⟨⟨rfl,h1⟩,h2⟩:=h;simp only [Asb,CT];by_cases k:i=j
   ·rw [if_pos k,if_pos k];exact As8 h2 j
   ·rw [if_neg k,if_neg k];exact ⟨⟨rfl,h1⟩,As8 h2 j⟩
 | [],_ :: _,h,_=>h.elim
 | _ :: _,[],h,_=>h.elim
theorem Ara {h:BH} {H:Hp} (e:HR h H):∀ z,HR (Aq6 h z) (AH H z)
 | []=>e
 | i :: r=>As8 (Ara e r) i
abbrev ltA (nt:Nat) (A:BA):Prop:=(A.all fun p=>decide (p.1 < nt))=true
theorem L1 {nt:Nat} {A:BA} (hA:ltA nt A) {x:X} {b:BV} (e:bx A x=some b):x.ev (fr nt (dA A))=b.den:=by
 cases x with
 | t i=>cases e;exact Ar1 A hA i
 | fn f=>cases e;rfl
 | g j=>cases e
 | c v =>
   simp only [bx] at e;unfold Azw at e;split at e
   ·cases e;rfl
   ·split at e
    ·rename_i h;cases e;exact (Arz h).symm
    ·cases e
   ·cases e;rfl
   ·cases e
theorem Arv {nt:Nat} {A:BA} (hA:ltA nt A):∀ {xs:List X} {bs:List BV},bxs A xs=some bs→xs.map (X.ev (fr nt (dA A)))=bs.map BV.den
 | [],bs,e=>by cases e;rfl
 | x :: r, bs, e => by
   simp only [bxs] at e;split at e
   ·rename_i b l e1 e2;cases e;simp only [List.map_cons,L1 hA e1,Arv hA e2]
   ·cases e
theorem Arx {nt:Nat} {A A':BA} (hA:ltA nt A) {d:Option Nat} {b:BV} (e:Av3 nt A d b=some A'):ltA nt A'∧put (fr nt (dA A)) d b.den=fr nt (dA A'):=by
 cases d with
 | none=>cases e;exact ⟨hA,rfl⟩
 | some d =>
   simp only [Av3] at e;split at e
   ·rename_i h;cases e;exact ⟨by simp only [ltA,List.all_cons,Bool.and_eq_true,decide_eq_true_eq];exact ⟨h,hA⟩,rfl⟩
   ·cases e
def Ax6 (h:BH):BV→Option (BV × List Nat)
 | .q id n sz => match R3 h id with
   | some (.a sz' l)=>if sz'=sz∧l.length=n∧0 < n then
    (if sz=10 then (sts l).map fun e=>(.sl e,[id]) else if sz=3 then (match exs l with
     | some e=>some (.xl e,[id])
     | none=>none) else none) else none
   | _=>none
 | b=>if b.clo then some (b,[]) else none
def Atu (h:BH):List BV→Option (List BV × List Nat)
 | []=>some ([],[])
 | b :: r => match Ax6 h b, Atu h r with
   | some (c,z),some (l,y)=>some (c :: l,z ++ y)
   | _,_=>none
theorem Auu:∀ {l:List BV} {e:List Ex},exs l=some e→l.length=e.length∧∀ i (h:i < l.length) (h':i < e.length),l[i] = .x e[i]
 | [],e,h=>by cases h;exact ⟨rfl,fun i h=>absurd h (Nat.not_lt_zero _)⟩
 | b :: r, e, h => by
   unfold exs at h;split at h
   ·rename_i h0;cases h0
   ·rename_i a r' h0;cases h0;cases hr:exs r with
    | none=>rw [hr] at h;cases h
    | some y =>
      rw [hr] at h;cases h;have:=Auu hr;refine ⟨by simp [this.1],fun i h1 h2=>?_⟩;cases i with
      | zero=>rfl
      | succ i=>exact this.2 i Uz (by simpa using h2)
   ·cases h
theorem Atn:∀ {l:List BV} {e:List IrSt},sts l=some e→l.length=e.length∧∀ i (h:i < l.length) (h':i < e.length),l[i] = .s e[i]
 | [],e,h=>by cases h;exact ⟨rfl,fun i h=>absurd h (Nat.not_lt_zero _)⟩
 | b :: r, e, h => by
   unfold sts at h;split at h
   ·rename_i h0;cases h0
   ·rename_i a r' h0;cases h0;cases hr:sts r with
    | none=>rw [hr] at h;cases h
    | some y =>
      rw [hr] at h;cases h;have:=Atn hr;refine ⟨by simp [this.1],fun i h1 h2=>?_⟩;cases i with
      | zero=>rfl
      | succ i=>exact this.2 i Uz (by simpa using h2)
   ·cases h
theorem Att (H:Hp) (m z:List Nat) (b:BV) (h:b.clo=true):B5 H m z b.den b.den:=by
 cases b <;> first | cases h | skip
 case i k=>simp only [BV.den,LY,seval]
 case w k=>simp only [BV.den,W,LY,seval]
 case nl=>simp only [BV.den,LY,seval]
 case x e=>exact of_eq_true (B6 H m z e)
 case s e=>exact of_eq_true (svs H m z e)
 case u F =>
  have h:=Gx H m z F.body;show Aw H m z (fuV F) (fuV F);simp only [fuV,LY,seval,h]
 case xl l=>exact of_eq_true (Cy H m z l)
 case sl l=>exact of_eq_true (B9 H m z l)
 case ul l =>
  cases l with
  | nil=>exact rfl
  | cons x r=>exact En H m z (x :: r)
theorem Av8 (a:List Nat) (b:BV) (h:b.clo=true):b.den.ren a=b.den:=by
 cases b <;> first | cases h | skip
 case i k=>simp only [BV.den,V.ren]
 case w k=>simp only [BV.den,W,V.ren]
 case nl=>simp only [BV.den,V.ren]
 case x e=>exact A9 a e
 case s e=>exact SV a e
 case u F=>simp only [BV.den,fuV,V.ren,Ja]
 case xl l=>exact Abz a l
 case sl l=>exact Ja a l
 case ul l=>exact Ad a l
theorem Atp {h:BH} {H:Hp} (hr:HR h H) {id n sz:Nat} {l:List BV} (e:R3 h id=some (.a sz l)) (hn:l.length=n) {z:List Nat} (hz:id ∈ z) {f:Nat→V} (hf:∀ i (h:i < l.length),Aw H [] z (f i) l[i].den):B5 H [] z (.lst sz n f) (.sl id [] 0 n sz):=by
 obtain ⟨h1,g,h2,h3⟩:=Arm hr e;have hc:z.contains id=true:=by simpa using hz
 simp only [B5,Aw,TG,h1,h2,V.solid,Bool.and_true,hc,and_self,true_and,V.get,V.ok];refine ⟨by omega,fun i hi=>?_⟩;rw [Nat.zero_add,h3 i Aa];exact hf i Aa
theorem Avy {h:BH} {H:Hp} (hr:HR h H) {b b':BV} {z:List Nat} (e:Ax6 h b=some (b',z)) (z':List Nat) (hz:∀ i ∈ z,i ∈ z'):B5 H [] z' b'.den b.den:=by
 unfold Ax6 at e;split at e
 ·rename_i id n sz;split at e;case h_2=>cases e
  rename_i sz' l hl;split at e;case isFalse=>cases e
  rename_i hh;obtain ⟨rfl,hn,hp⟩:=hh;split at e
  ·rename_i h10;subst h10;cases hs:sts l with
   | none=>rw [hs] at e;cases e
   | some t =>
     rw [hs] at e;cases e;have ht:=Atn hs;show B5 H [] z' (DZ t) _;rw [Bq t (by intro h0;subst h0;simp at ht;subst ht;simp at hn;omega),← ht.1,hn];refine Atp hr hl hn (hz id BF) fun i hi=>?_;rw [ht.2 i hi Aa,Jn t i Aa];exact NG H [] z' _
  ·split at e;case isFalse=>cases e
   rename_i h3;subst h3;split at e
   ·rename_i t hs;cases e;have ht:=Auu hs;show B5 H [] z' (AF t) _;rw [Bs t (by intro h0;subst h0;simp at ht;subst ht;simp at hn;omega),← ht.1,hn];refine Atp hr hl hn (hz id BF) fun i hi=>?_;rw [ht.2 i hi Aa,M7 t i Aa];exact EY H [] z' _
   ·cases e
 ·split at e
  ·rename_i hc;cases e;exact Att H [] z' b hc
  ·cases e
theorem Asx {h:BH} {H:Hp} (hr:HR h H):∀ {us us':List BV} {z:List Nat},Atu h us=some (us',z)→∀ z':List Nat,(∀ i ∈ z,i ∈ z')→Bh H [] z' (us'.map BV.den) (us.map BV.den)
 | [],us',z,e,z',_=>by cases e;trivial
 | b :: r, us', z, e, z', hz => by
   simp only [Atu] at e;split at e
   ·rename_i c y l w e1 e2;cases e;exact ⟨Avy hr e1 z' fun i hi=>hz i (by simp [hi]),Asx hr e2 z' fun i hi=>hz i (by simp [hi])⟩
   ·cases e
structure BCon (M:Seat) (con:Nat→List BV→Option BV) (fns:List Nat):Prop where
 run:∀ f us b,con f us=some b→As M f (us.map BV.den) [] 0 (Q3 b.den [] 0)
 fn:∀ f,fns.contains f=true→Fs M f
theorem Ar4 {M:Seat} {f:Nat} {us us0:List V} {H:Hp} {n:Nat} {K:V→Hp→Prop} {v:V} (z:List Nat) (hr:As M f us0 [] 0 (Q3 v [] 0)) (hv:∀ a,v.ren a=v) (hus:Bh H [] z us0 us) (hK:K v (AH H z)):Bk M f us H n K :=
 EE hr False [] z List.nodup_nil BF rfl BF hus trivial fun v' H' k' h=>by
  obtain ⟨rfl,rfl,rfl⟩:=h;refine ⟨⟨by omega,False.elim⟩,?_⟩;rw [hv];simpa [Bf] using hK
def Asm (con:Nat→List BV→Option BV) (h:BH) (f:Nat) (us:List BV):Option (BV × List Nat) :=
 match Atu h us with
 | some (vs, z) => match con f vs with
   | some b=>if b.clo then some (b,z) else none
   | none=>none
 | none=>none
theorem Arj {M:Seat} {con:Nat→List BV→Option BV} {fns:List Nat} (hc:BCon M con fns) {h:BH} {H:Hp} (hr:HR h H) {f:Nat} {us:List BV} {b:BV} {z:List Nat} (e:Asm con h f us=some (b,z)) {n:Nat} {K:V→Hp→Prop} (hK:K b.den (AH H z)):Bk M f (us.map BV.den) H n K:=by
 unfold Asm at e;split at e;case h_2=>cases e
 rename_i vs y e1;split at e;case h_2=>cases e
 rename_i c e2;split at e;case isFalse=>cases e
 rename_i hcl;cases e;exact Ar4 z (hc.run f vs b e2) (fun a=>Av8 a b hcl) (Asx hr e1 z fun i hi=>hi) hK
end Mv
