/- A part. -/
import Derived.Test.YtfljfijnobocoaaDoorDF
set_option linter.all false
set_option maxRecDepth 20000
set_option maxHeartbeats 4000000
namespace Mv
open Go
inductive Ex where
 | mk (op:Int) (n:BitVec 64) (as:List Ex)
inductive IrSt where
 | mk (kind n:Int) (a b:Ex) (body els:List IrSt)
structure Fu where
 params:Int
 locals:Int
 body:List IrSt
mutual
def exV:Ex→V
 | .mk op n as=>.st 3 (.fcons 0 (.int .i64 op) (.fcons 1 (W n) (.fcons 2 (exL as) .fnil)))
def exL:List Ex→V
 | []=>.nils
 | x :: r=>.lst 3 (r.length + 1) (fun i=>match i with | 0=>exV x | i + 1=>exF r i)
def exF:List Ex→Nat→V
 | [],_=>.junk
 | x :: r,i=>match i with | 0=>exV x | i + 1=>exF r i
end
mutual
def stV:IrSt→V
 | .mk kind n a b body els=>.st 10 (.fcons 0 (.int .i64 kind) (.fcons 1 (.int .i64 n) (.fcons 2 (exV a) (.fcons 5 (exV b) (.fcons 8 (stL body) (.fcons 9 (stL els) .fnil))))))
def stL:List IrSt→V
 | []=>.nils
 | x :: r=>.lst 10 (r.length + 1) (fun i=>match i with | 0=>stV x | i + 1=>stF r i)
def stF:List IrSt→Nat→V
 | [],_=>.junk
 | x :: r,i=>match i with | 0=>stV x | i + 1=>stF r i
end
def fuV (f:Fu):V:=.st 3 (.fcons 0 (.int .i64 f.params) (.fcons 1 (.int .i64 f.locals) (.fcons 2 (stL f.body) .fnil)))
def I1:List Fu→Nat→V
 | [],_=>.junk
 | x :: r,i=>match i with | 0=>fuV x | i + 1=>I1 r i
def fuL:List Fu→V
 | []=>.nils
 | x :: r=>.lst 3 (r.length + 1) (I1 (x :: r))
theorem Aml (x:Ex) (r:List Ex):exL (x :: r) = .lst 3 (r.length + 1) (exF (x :: r)):=by
 simp only [exL];congr 1
theorem Alg (x:IrSt) (r:List IrSt):stL (x :: r) = .lst 10 (r.length + 1) (stF (x :: r)):=by
 simp only [stL];congr 1
theorem Al2:∀ (l:List Ex) (i:Nat) (h:i < l.length),exF l i=exV l[i]
 | x :: r,0,_=>by simp only [exF];rfl
 | x :: r,i + 1,h=>by simp only [exF];exact Al2 r i Ke
theorem Ak4:∀ (l:List IrSt) (i:Nat) (h:i < l.length),stF l i=stV l[i]
 | x :: r,0,_=>by simp only [stF];rfl
 | x :: r,i + 1,h=>by simp only [stF];exact Ak4 r i Ke
theorem Ak7:∀ (l:List Fu) (i:Nat) (h:i < l.length),I1 l i=fuV l[i]
 | x :: r,0,_=>by simp only [I1];rfl
 | x :: r,i + 1,h=>by simp only [I1];exact Ak7 r i Ke
mutual
theorem Ala (a:List Nat):∀ x,(exV x).ren a=exV x
 | .mk op n as=>by simp only [exV,V.ren,W,Anc a as]
theorem Anc (a:List Nat):∀ l,(exL l).ren a=exL l
 | []=>rfl
 | x :: r => by
   simp only [exL,V.ren]
   congr 1
   funext i
   cases i with
   | zero=>exact Ala a x
   | succ i=>exact Aly a r i
theorem Aly (a:List Nat):∀ l i,(exF l i).ren a=exF l i
 | [],_=>rfl
 | x :: r,0=>by simp only [exF];exact Ala a x
 | x :: r,i + 1=>by simp only [exF];exact Aly a r i
end
mutual
theorem Al4 (a:List Nat):∀ x,(stV x).ren a=stV x
 | .mk kind n p q b e=>by simp only [stV,V.ren,W,Ala,Akq a b,Akq a e]
theorem Akq (a:List Nat):∀ l,(stL l).ren a=stL l
 | []=>rfl
 | x :: r => by
   simp only [stL,V.ren]
   congr 1
   funext i
   cases i with
   | zero=>exact Al4 a x
   | succ i=>exact Alz a r i
theorem Alz (a:List Nat):∀ l i,(stF l i).ren a=stF l i
 | [],_=>rfl
 | x :: r,0=>by simp only [stF];exact Al4 a x
 | x :: r,i + 1=>by simp only [stF];exact Alz a r i
end
theorem Al0 (a:List Nat):∀ l i,(I1 l i).ren a=I1 l i
 | [],_=>rfl
 | x :: r,0=>by simp only [I1,fuV,V.ren,Akq]
 | x :: r,i + 1=>by simp only [I1];exact Al0 a r i
theorem Hd (a:List Nat):∀ l,(fuL l).ren a=fuL l
 | []=>rfl
 | x :: r=>by simp only [fuL,V.ren];congr 1;funext i;exact Al0 a _ i
mutual
theorem Akj (H:Hp) (m z:List Nat):∀ x,Az H m z (exV x) (exV x)
 | .mk op n as => by
   have h:=Alx H m z as
   simp only [exV,LY,seval,h]
theorem Alx (H:Hp) (m z:List Nat):∀ l,Az H m z (exL l) (exL l)
 | []=>by simp only [exL,LY,seval]
 | x :: r => by
   simp only [exL,LY,seval]
   intro i _
   cases i with
   | zero=>exact Akj H m z x
   | succ i=>exact Al7 H m z r i
theorem Al7 (H:Hp) (m z:List Nat):∀ l i,Az H m z (exF l i) (exF l i)
 | [],_=>by simp only [exF,Az]
 | x :: r,0=>by simp only [exF];exact Akj H m z x
 | x :: r,i + 1=>by simp only [exF];exact Al7 H m z r i
end
mutual
theorem Al5 (H:Hp) (m z:List Nat):∀ x,Az H m z (stV x) (stV x)
 | .mk kind n p q b e => by
   have h1:=Akf H m z b
   have h2:=Akf H m z e
   have h3:=Akj H m z p
   have h4:=Akj H m z q
   simp only [stV,LY,seval,h1,h2,h3,h4]
theorem Akf (H:Hp) (m z:List Nat):∀ l,Az H m z (stL l) (stL l)
 | []=>by simp only [stL,LY,seval]
 | x :: r => by
   simp only [stL,LY,seval]
   intro i _
   cases i with
   | zero=>exact Al5 H m z x
   | succ i=>exact Alw H m z r i
theorem Alw (H:Hp) (m z:List Nat):∀ l i,Az H m z (stF l i) (stF l i)
 | [],_=>by simp only [stF,Az]
 | x :: r,0=>by simp only [stF];exact Al5 H m z x
 | x :: r,i + 1=>by simp only [stF];exact Alw H m z r i
end
theorem Al1 (H:Hp) (m z:List Nat):∀ l i,Az H m z (I1 l i) (I1 l i)
 | [],_=>by simp only [I1,Az]
 | x :: r, 0 => by
   have h:=Akf H m z x.body
   simp only [I1,fuV,LY,seval,h]
 | x :: r,i + 1=>by simp only [I1];exact Al1 H m z r i
theorem Akp (H:Hp) (m z:List Nat):∀ l,Az H m z (fuL l) (fuL l)
 | []=>by simp only [fuL,LY,seval]
 | x :: r => by
   simp only [fuL,LY,seval]
   intro i _
   exact Al1 H m z _ i
theorem sfu (H:Hp) (m z:List Nat) (l:List Fu):Az H m z (fuL l) (fuL l)=True:=eq_true (Akp H m z l)
theorem sex (H:Hp) (m z:List Nat) (l:Ex):Az H m z (exV l) (exV l)=True:=eq_true (Akj H m z l)
theorem Aoh (H:Hp) (m z:List Nat) (l:List Ex):Az H m z (exL l) (exL l)=True:=eq_true (Alx H m z l)
theorem Aos (H:Hp) (m z:List Nat) (l:List IrSt):Az H m z (stL l) (stL l)=True:=eq_true (Akf H m z l)
structure IrS where
 d:Nat→BitVec 64
 fuel:Nat
 used:Nat
 over:Bool
 out:Bool
 exit:BitVec 64
structure Rs where
 v:BitVec 64
 back:Bool
 s:IrS
 L:Nat→BitVec 64
def All (s:IrS):IrS:=if s.over then s else if s.used=s.fuel then { s with over:=true,out:=true } else { s with used:=s.used + 1 }
def Amh (s:IrS):Bool:=!s.over && !decide (s.used=s.fuel)
def Anu (s:IrS) (x:BitVec 64):IrS:=if s.over then s else { s with over:=true,exit:=x }
def Aoi (f:Ex→IrS→Option Rs):List Ex→IrS→Option (List (BitVec 64) × IrS)
 | [],s=>some ([],s)
 | x :: r, s => match f x s with
   | some q => match Aoi f r q.s with
     | some (vs,s')=>some (q.v :: vs,s')
     | none=>none
   | none=>none
def evB (f:IrSt→IrS→(Nat→BitVec 64)→Option Rs):List IrSt→IrS→(Nat→BitVec 64)→Option Rs
 | [],s,L=>some ⟨0#64,false,s,L⟩
 | x :: r, s, L => match f x s L with
   | some q=>if q.back || q.s.over then some ⟨q.v,true,q.s,q.L⟩ else evB f r q.s q.L
   | none=>none
inductive Tk where
 | e (x:Ex)
 | b (l:List IrSt)
 | s (x:IrSt)
 | l (x:IrSt)
 | c (i:Nat) (as:List (BitVec 64))
def ev (ap:Int→BitVec 64→BitVec 64→BitVec 64→Option (BitVec 64)) (P:List Fu):Nat→Tk→IrS→(Nat→BitVec 64)→Nat→Option Rs
 | 0,_,_,_,_=>none
 | k + 1, .e (.mk op n as), s, L, nl =>
   if Amh s=false then some ⟨0#64,false,All s,L⟩
   else if op=26 then some ⟨n,false,All s,L⟩
   else if op=27 then (if n.toNat < nl then some ⟨L n.toNat,false,All s,L⟩ else none)
   else if 1000≤as.length then none
   else match Aoi (fun x s=>ev ap P k (.e x) s L nl) as (All s) with
    | none=>none
    | some (vs, s) =>
      if s.over then some ⟨0#64,false,s,L⟩
      else if op=28 then (if vs.getD 0 0#64 < 2048#64 then some ⟨s.d (vs.getD 0 0#64).toNat,false,s,L⟩ else some ⟨0#64,false,Anu s 18446744073709551614#64,L⟩)
      else if op=29 then (match ev ap P k (.c n.toNat vs) s L nl with
       | some q=>some ⟨q.v,false,q.s,L⟩
       | none=>none)
      else if op=30 ∨ op=31 then none
      else match ap op (vs.getD 0 0#64) (vs.getD 1 0#64) (vs.getD 2 0#64) with
       | some v=>some ⟨v,false,s,L⟩
       | none=>none
 | k + 1,.b l,s,L,nl=>if 1000000≤l.length then none else evB (fun x s L=>ev ap P k (.s x) s L nl) l s L
 | k + 1, .s (.mk kind n a b body els), s, L, nl =>
   if kind=4 then ev ap P k (.l (.mk kind n a b body els)) s L nl
   else if Amh s=false then some ⟨0#64,true,All s,L⟩
   else match ev ap P k (.e a) (All s) L nl with
    | none=>none
    | some q =>
      if q.s.over then some ⟨0#64,true,q.s,L⟩
      else if kind=1 then (if 0≤n∧n < nl then some ⟨0#64,false,q.s,fun j=>if j=n.toNat then q.v else L j⟩ else none)
      else if kind=2 then (match ev ap P k (.e b) q.s L nl with
       | none=>none
       | some p =>
         if p.s.over then some ⟨0#64,true,p.s,L⟩
         else if q.v < 2048#64 then some ⟨0#64,false,{ p.s with d:=fun j=>if j=q.v.toNat then p.v else p.s.d j },L⟩
         else some ⟨0#64,true,Anu p.s 18446744073709551614#64,L⟩)
      else if kind=3 then (if q.v=0#64 then ev ap P k (.b els) q.s L nl else ev ap P k (.b body) q.s L nl)
      else if kind=5 then some ⟨q.v,true,q.s,L⟩
      else if kind=7 then some ⟨0#64,true,Anu q.s q.v,L⟩
      else some ⟨0#64,false,q.s,L⟩
 | k + 1, .l (.mk kind n a b body els), s, L, nl =>
   if Amh s=false then some ⟨0#64,true,All s,L⟩
   else match ev ap P k (.e a) (All s) L nl with
    | none=>none
    | some q =>
      if q.s.over then some ⟨0#64,true,q.s,L⟩
      else if q.v=0#64 then some ⟨0#64,false,q.s,L⟩
      else match ev ap P k (.b body) q.s L nl with
       | none=>none
       | some p=>if p.back then some ⟨p.v,true,p.s,p.L⟩ else ev ap P k (.l (.mk kind n a b body els)) p.s p.L nl
 | k + 1, .c i as, s, L, _ => match P[i]? with
   | none=>none
   | some f =>
     if 0≤f.locals∧f.locals < 1000 then (match ev ap P k (.b f.body) s (fun j=>if j < f.locals.toNat then as.getD j 0#64 else 0#64) f.locals.toNat with
      | none=>none
      | some q=>some ⟨q.v,false,q.s,L⟩)
     else none
theorem Alv (l:List Ex) (h:l ≠ []):exL l = .lst 3 l.length (exF l):=by
 cases l with
 | nil=>exact absurd rfl h
 | cons x r=>exact Aml x r
theorem I2 (l:List IrSt) (h:l ≠ []):stL l = .lst 10 l.length (stF l):=by
 cases l with
 | nil=>exact absurd rfl h
 | cons x r=>exact Alg x r
theorem Ps (l:List Ex):(exL l).solid=true:=by cases l <;> rfl
theorem Ake (l:List Ex):(exL l).size=1:=by cases l <;> rfl
theorem Akd (l:List Ex):(exL l).isAgg=false:=by cases l <;> rfl
theorem E0 (l:List IrSt):(stL l).solid=true:=by cases l <;> rfl
theorem Ck (l:List IrSt):(stL l).size=1:=by cases l <;> rfl
theorem EA (l:List IrSt):(stL l).isAgg=false:=by cases l <;> rfl
theorem EJ (x:Ex):(exV x).solid=true:=by cases x;rfl
theorem Gs (x:Ex):(exV x).size=3:=by cases x;rfl
theorem Ga (x:Ex):(exV x).isAgg=true:=by cases x;rfl
theorem I3 (l:List Fu) (h:l ≠ []):fuL l = .lst 3 l.length (I1 l):=by
 cases l with
 | nil=>exact absurd rfl h
 | cons x r=>rfl
theorem Ak6 (l:List Ex) (H:Hp):O2 0 (exL l) H=⟨True,.int .i64 l.length,H⟩:=by cases l <;> rfl
theorem Am2 (l:List IrSt) (H:Hp):O2 0 (stL l) H=⟨True,.int .i64 l.length,H⟩:=by cases l <;> rfl
theorem Aok (H:Hp) (m z:List Nat) (l:List Ex):Bi H m z (exL l) (exL l)=True:=by
 cases l with
 | nil=>exact eq_true rfl
 | cons x r=>exact Aoh H m z (x :: r)
theorem Akt (H:Hp) (m z:List Nat) (l:List IrSt):Bi H m z (stL l) (stL l)=True:=by
 cases l with
 | nil=>exact eq_true rfl
 | cons x r=>exact Aos H m z (x :: r)
theorem svx (H:Hp) (m z:List Nat) (l:Ex):Bi H m z (exV l) (exV l)=True:=by
 cases l;exact sex H m z _
def Aoj:LC:=(sr [mn 2] (sr [mt 6 0,A1 7 (.build (.st (.cons (.int .i64) (.cons .bool (.cons .bool (.cons .slice (.cons (.int .i64) .nil)))))) [(.f 3,1,(.t 6))]),
  bX 8 7,mt 3 8] (.seq (sr [mt 9 0,
  lN 10 0 9,
  mI 11 0] (.block 0 (.loop (sr [ak 12 .lss 11 10] (.seq (Dd 12 0) (.seq (.block 1 (sr [mt 13 11,ia 14 3 9 11,la 15 3 14,A1 5 (.alloc (.st (.cons (.int .i64) (.cons (.int .i64) (.cons .slice .nil))))),mt 4 13,sb 3 5 15] (sr [mt 16 3,mt 17 4,nc 18 16,fa 19 4 18,sb 1 19 17] (sr [mt 20 3,mt 21 3,nc 22 21,fa 23 2 22,lb 24 1 23,mt 25 24,A2 26 25 false (.fadr 0 (.t 5)),A2 27 25 false (.load false 1 (.t 26)),A2 28 25 false (.ari .lss (.t 27) (cI 0)),
  BV 29 25 28,mt 30 29,A2 31 30 false (.fadr 0 (.t 5)),A2 32 30 false (.load false 1 (.t 31)),A2 33 30 false (.fadr 1 (.t 5)),A2 34 30 false (.load false 1 (.t 33)),A2 35 30 false (.ari .gtr (.t 32) (.t 34)),
  BV 36 30 35,mt 37 36,A2 38 37 false (.fadr 1 (.t 5)),A2 39 37 false (.load false 1 (.t 38)),A2 40 37 false (.ari .gtr (.t 39) (cI 24)),
  BV 41 37 40,mt 42 41,mg 43 42 false 4,A2 44 42 false (.ari .eql (.t 43) (cI 0)),mg 45 42 false 44,A2 46 45 true (.fadr 0 (.t 5)),A2 47 45 true (.load false 1 (.t 46)),A2 48 45 true (.ari .neq (.t 47) (cI 0)),A2 49 42 false (.pick (.t 45) (.t 48) (.c (.bool false))),
  BV 50 42 49,nc 51 20,fa 52 2 51,sb 1 52 50] (.reg [mt 53 3,fa 54 2 5,lb 55 1 54,kl 56 287 [(.t 53),(.t 55),(cI 16)]]))))) (.reg [aI 57 .add 11 1,mt 11 57]))))))) (.seq (.block 2 (sr [mt 59 3,nc 60 59,fa 61 1 60,lb 62 1 61,mt 58 62] (.cond (.t 58) (sr [A1 63 (.mkif 74 (cI 13)),mt 2 63] .ret) (sr [mt 65 3,nc 66 65,fa 67 0 66,lb 68 1 67,aI 69 .gtr 68 6000,mt 70 69,mg 71 70 false 0,A2 72 70 false (.len 0 (.t 71)),A2 73 70 false (.ari .gtr (.t 72) (cI 64)),
  BV 74 70 73,mt 64 74] (.cond (.t 64) (sr [A1 75 (.mkif 74 (cI 5)),mt 2 75] .ret) (sr [mt 77 3,nc 78 77,fa 79 2 78,lb 80 1 79,mt 81 80,mg 82 81 false 0,A2 83 81 false (.len 0 (.t 82)),A2 84 81 false (.ari .eql (.t 83) (cI 0)),
  BV 85 81 84,mt 76 85] (.cond (.t 76) (sr [A1 86 (.mkif 74 (cI 3)),mt 2 86] .ret) .skip))))))) (sr [mn 2] .ret)))))
def Anl:LF:=⟨Aoj,1,0,87,[.tmp 2]⟩
def An1:LC:=(.seq (sr [mt 12 2,aI 13 .eql 12 0,mt 14 13,mg 15 14 true 1,A2 16 14 true (.len 0 (.t 15)),A2 17 14 true (.ari .gtr (.t 16) (cI 0)),
 Fq 18 14 17] (.cond (.t 18) (sr [mt 19 0,nc 20 19,fa 21 1 20,A0 (.store 1 (.t 21) (.c (.bool true)))] .ret) .skip)) (sr [mt 22 1,
  lN 23 0 22,
  mI 24 0] (.block 0 (.loop (sr [ak 25 .lss 24 23] (.seq (Dd 25 0) (.seq (.block 1 (sr [ia 26 10 22 24,la 27 10 26,A1 7 (.alloc (.st (.cons (.int .i64) (.cons (.int .i64) (.cons (.st (.cons (.int .i64) (.cons (.int .u64) (.cons .slice .nil)))) (.cons (.st (.cons (.int .i64) (.cons (.int .u64) (.cons .slice .nil)))) (.cons .slice (.cons .slice .nil)))))))),sb 10 7 27] (sr [mt 28 0,nc 29 28,fa 30 0 29,lb 31 1 30,aI 32 .add 31 1,nc 33 28,fa 34 0 33,sb 1 34 32] (sr [fa 36 0 7,lb 37 1 36,kl 38 367 [(.t 37)],mt 35 38,ee 39 35 0,ee 40 35 1,ee 41 35 2,ee 42 35 3,mt 8 39,mt 9 40,mt 10 41,mt 11 42] (.seq (.regd [⟨0,0,mt 43 0⟩,⟨1,0,mt 44 0⟩,⟨2,2,nc 45 44⟩,⟨3,6,fa 46 2 45⟩,⟨4,14,lb 47 1 46⟩,⟨5,30,mt 48 47⟩,⟨6,62,mg 49 48 false 8⟩,⟨7,126,A2 50 48 false (.un .not (.t 49))⟩,⟨8,254,BV 51 48 50⟩,⟨9,510,mt 52 51⟩,⟨10,1022,A2 53 52 false (.fadr 0 (.t 7))⟩,⟨11,2046,A2 54 52 false (.load false 1 (.t 53))⟩,⟨12,4094,A2 55 52 false (.ari .eql (.t 54) (cI 1))⟩,⟨13,8190,mg 56 52 false 55⟩,⟨14,16382,A2 57 56 true (.fadr 1 (.t 7))⟩,⟨15,32766,A2 58 56 true (.load false 1 (.t 57))⟩,⟨16,65534,A2 59 56 true (.ari .lss (.t 58) (cI 0))⟩,⟨17,131070,mg 60 56 true 59⟩,⟨18,262142,A2 61 60 false (.fadr 1 (.t 7))⟩,⟨19,524286,A2 62 60 false (.load false 1 (.t 61))⟩,⟨20,262142,mg 63 60 false 0⟩,⟨21,1310718,A2 64 60 false (.nilc (.t 63))⟩,⟨22,3407870,A2 65 60 false (.fadr 3 (.t 64))⟩,⟨23,7602174,A2 66 60 false (.load false 1 (.t 65))⟩,⟨24,262142,mg 67 60 false 0⟩,⟨25,17039358,A2 68 60 false (.nilc (.t 67))⟩,⟨26,50593790,A2 69 60 false (.fadr 4 (.t 68))⟩,⟨27,117702654,A2 70 60 false (.load false 1 (.t 69))⟩,⟨28,267649022,A2 71 60 false (.isl 3 (.t 66) (.t 70))⟩,⟨29,536084478,A2 72 60 false (.fadr 1 (.t 71))⟩,⟨30,1072955390,A2 73 60 false (.load false 1 (.t 72))⟩,⟨31,2147483646,A2 74 60 false (.ari .geq (.t 62) (.t 73))⟩,⟨32,4294967294,A2 75 56 true (.pick (.t 60) (.c (.bool true)) (.t 74))⟩,⟨33,8589934590,A2 76 52 false (.pick (.t 56) (.t 75) (.c (.bool false)))⟩,⟨34,17179869182,BV 77 52 76⟩,⟨35,34359738367,nc 78 43⟩,⟨36,68719476735,fa 79 2 78⟩,⟨37,137438953471,sb 1 79 77⟩]) (.seq (sr [mt 80 8] (.cond (.t 80) (.reg [mt 81 0,fa 82 2 7,la 83 3 82,kl 84 368 [(.t 81),(.t 83),(cI 8)]]) .skip)) (.seq (sr [mt 85 9] (.cond (.t 85) (.reg [mt 86 0,fa 87 5 7,la 88 3 87,kl 89 368 [(.t 86),(.t 88),(cI 8)]]) .skip)) (.seq (sr [mt 90 10] (.cond (.t 90) (.reg [mt 91 0,fa 92 8 7,lb 93 1 92,mt 94 2,aI 95 .sub 94 1,kl 96 287 [(.t 91),(.t 93),(.t 95)]]) .skip)) (sr [mt 97 11] (.cond (.t 97) (.reg [mt 98 0,fa 99 9 7,lb 100 1 99,mt 101 2,aI 102 .sub 101 1,kl 103 287 [(.t 98),(.t 100),(.t 102)]]) .skip)))))))))) (.reg [aI 104 .add 24 1,mt 24 104]))))))))
def Am1:LF:=⟨An1,3,0,105,[]⟩
def Aoa:LC:=(sr [A1 2 (.mv (.c (.bool false))),A1 3 (.mv (.c (.bool false))),A1 4 (.mv (.c (.bool false))),A1 5 (.mv (.c (.bool false)))] (.seq (sr [mt 6 0] (.block 0 (.seq (sr [aI 8 .eql 6 1,mt 7 8] (.cond (.t 7) .skip (sr [aI 9 .eql 6 5,mt 7 9] (.cond (.t 7) .skip (sr [aI 10 .eql 6 6,mt 7 10] (.cond (.t 7) .skip (.reg [aI 11 .eql 6 7,mt 7 11]))))))) (.cond (.t 7) (sr [A1 2 (.mv (.c (.bool true))),A1 3 (.mv (.c (.bool false))),A1 4 (.mv (.c (.bool false))),A1 5 (.mv (.c (.bool false)))] .ret) (sr [aI 13 .eql 6 2,mt 12 13] (.cond (.t 12) (sr [A1 2 (.mv (.c (.bool true))),A1 3 (.mv (.c (.bool true))),A1 4 (.mv (.c (.bool false))),A1 5 (.mv (.c (.bool false)))] .ret) (sr [aI 15 .eql 6 3,mt 14 15] (.cond (.t 14) (sr [A1 2 (.mv (.c (.bool true))),A1 3 (.mv (.c (.bool false))),A1 4 (.mv (.c (.bool true))),A1 5 (.mv (.c (.bool true)))] .ret) (sr [aI 17 .eql 6 4,mt 16 17] (.cond (.t 16) (sr [A1 2 (.mv (.c (.bool true))),A1 3 (.mv (.c (.bool false))),A1 4 (.mv (.c (.bool true))),A1 5 (.mv (.c (.bool false)))] .ret) .skip)))))))))) (sr [A1 2 (.mv (.c (.bool false))),A1 3 (.mv (.c (.bool false))),A1 4 (.mv (.c (.bool false))),A1 5 (.mv (.c (.bool false)))] .ret)))
def An5:LF:=⟨Aoa,1,0,18,[.tmp 2,.tmp 3,.tmp 4,.tmp 5]⟩
def Aog:LC:=(sr [bX 4 1] (sr [mt 8 0,nc 9 8,fa 10 0 9,lb 11 1 10,aI 12 .add 11 1,nc 13 8,fa 14 0 13,sb 1 14 12] (.seq (sr [mt 15 2,aI 16 .eql 15 0] (.cond (.t 16) (sr [mt 17 0,nc 18 17,fa 19 1 18,A0 (.store 1 (.t 19) (.c (.bool true)))] .ret) .skip)) (sr [mt 20 0,la 21 3 4,kl 22 458 [(.t 20),(.t 21)]] (sr [fa 23 2 4,lb 24 1 23,
  lN 25 0 24,
  mI 26 0] (.block 0 (.loop (sr [ak 27 .lss 26 25] (.seq (Dd 27 0) (.seq (.block 1 (sr [ia 28 3 24 26,la 29 3 28,A1 7 (.alloc (.st (.cons (.int .i64) (.cons (.int .u64) (.cons .slice .nil))))),sb 3 7 29] (.reg [mt 30 0,la 31 3 7,mt 32 2,aI 33 .sub 32 1,kl 34 368 [(.t 30),(.t 31),(.t 33)]]))) (.reg [aI 35 .add 26 1,mt 26 35])))))))))))
def Anp:LF:=⟨Aog,3,0,36,[]⟩
def Alb:LC:=(sr [bX 3 1] (sr [fa 7 0 3,lb 8 1 7,kl 9 492 [(.t 8)],mt 6 9,ee 10 6 0,ee 11 6 1,mt 4 10,mt 5 11] (.seq (sr [fa 12 0 3,lb 13 1 12] (.block 0 (sr [aI 15 .eql 13 26,mt 14 15] (.cond (.t 14) (.reg [mI 4 0,mn 5]) (sr [aI 17 .eql 13 27,mt 16 17] (.cond (.t 16) (sr [mI 4 0,mn 5]
 (.regd [⟨0,0,mt 18 0⟩,⟨1,0,mt 19 0⟩,⟨2,2,nc 20 19⟩,⟨3,6,fa 21 2 20⟩,⟨4,14,lb 22 1 21⟩,⟨5,30,mt 23 22⟩,⟨6,62,A2 24 23 false (.fadr 1 (.t 3))⟩,⟨7,126,A2 25 23 false (.load false 1 (.t 24))⟩,⟨8,62,mg 26 23 false 0⟩,⟨9,318,A2 27 23 false (.nilc (.t 26))⟩,⟨10,830,A2 28 23 false (.fadr 3 (.t 27))⟩,⟨11,1854,A2 29 23 false (.load false 1 (.t 28))⟩,⟨12,62,mg 30 23 false 0⟩,⟨13,4158,A2 31 23 false (.nilc (.t 30))⟩,⟨14,12350,A2 32 23 false (.fadr 4 (.t 31))⟩,⟨15,28734,A2 33 23 false (.load false 1 (.t 32))⟩,⟨16,65342,A2 34 23 false (.isl 3 (.t 29) (.t 33))⟩,⟨17,130878,A2 35 23 false (.fadr 1 (.t 34))⟩,⟨18,261950,A2 36 23 false (.load false 1 (.t 35))⟩,⟨19,524094,A2 37 23 false (.mm true (cI 0) (.t 36))⟩,⟨20,1048382,A2 38 23 false (.conv .u64 (.t 37))⟩,⟨21,2097150,A2 39 23 false (.ari .geq (.t 25) (.t 38))⟩,⟨22,4194302,BV 40 23 39⟩,⟨23,8388607,nc 41 18⟩,⟨24,16777215,fa 42 2 41⟩,⟨25,33554431,sb 1 42 40⟩])) (sr [aI 44 .eql 13 28,mt 43 44] (.cond (.t 43) (.reg [mI 4 1,mn 5]) (.seq (sr [aI 46 .eql 13 30,mt 45 46] (.cond (.t 45) .skip (.reg [aI 47 .eql 13 31,mt 45 47]))) (.cond (.t 45) (.reg [mI 4 2,mn 5]) (sr [aI 49 .eql 13 29,mt 48 49] (.cond (.t 48) (.seq (.seq (.regd [⟨0,0,fa 50 1 3⟩,⟨1,1,lb 51 1 50⟩,⟨2,0,mt 52 0⟩,⟨3,4,nc 53 52⟩,⟨4,12,fa 54 4 53⟩,⟨5,28,lb 55 1 54⟩,⟨6,60,cVv 56 .u64 55⟩,⟨7,127,ak 57 .leq 51 56⟩,⟨8,255,mt 58 57⟩,⟨9,511,A2 59 58 false (.fadr 1 (.t 3))⟩,⟨10,1023,A2 60 58 false (.load false 1 (.t 59))⟩,⟨11,511,mg 61 58 false 0⟩,⟨12,2559,A2 62 58 false (.nilc (.t 61))⟩,⟨13,6655,A2 63 58 false (.fadr 3 (.t 62))⟩,⟨14,14847,A2 64 58 false (.load false 1 (.t 63))⟩,⟨15,31231,A2 65 58 false (.len 0 (.t 64))⟩,⟨16,63999,A2 66 58 false (.conv .u64 (.t 65))⟩,⟨17,131071,A2 67 58 false (.ari .geq (.t 60) (.t 66))⟩,⟨18,262143,BV 68 58 67⟩]) (.cond (.t 68) (sr [mt 69 0,nc 70 69,fa 71 2 70,A0 (.store 1 (.t 71) (.c (.bool true)))] .ret) .skip))
 (.regd [⟨0,0,mt 72 0⟩,⟨1,1,nc 73 72⟩,⟨2,3,fa 74 3 73⟩,⟨3,7,lb 75 1 74⟩,⟨4,0,fa 76 1 3⟩,⟨5,16,lb 77 1 76⟩,⟨6,63,ia 78 3 75 77⟩,⟨7,127,fa 79 0 78⟩,⟨8,255,lb 80 1 79⟩,⟨9,511,mt 4 80⟩,⟨10,1023,mn 5⟩])) .skip)))))))))))) (.reg [mt 81 0,mt 82 0,nc 83 82,fa 84 2 83,lb 85 1 84,mt 86 85,mg 87 86 false 5,A2 88 86 false (.eq true true (.iface [74]) (.t 87) (.c .nili)),
  BV 89 86 88,mt 90 89,mg 91 90 false 4,A2 92 90 false (.fadr 2 (.t 3)),A2 93 90 false (.load false 1 (.t 92)),A2 94 90 false (.len 0 (.t 93)),A2 95 90 false (.ari .neq (.t 91) (.t 94)),
  BV 96 90 95,nc 97 81,fa 98 2 97,sb 1 98 96]))))
def Ak5:LF:=⟨Alb,2,0,99,[]⟩
def Ali:LC:=(sr [mI 2 0,mn 3] (.seq (.block 0 (sr [mt 5 0,aI 6 .lss 5 1,mt 7 6,mg 8 7 false 0,A2 9 7 false (.ari .gtr (.t 8) (cI 25)),
  BV 10 7 9,mt 4 10] (.cond (.t 4) (sr [A1 11 (.mkif 74 (cI 10)),
  mI 2 0,mt 3 11] .ret) (sr [mt 13 0,aI 14 .eql 13 8,mt 15 14,mg 16 15 false 0,A2 17 15 false (.ari .eql (.t 16) (cI 9)),
  BV 18 15 17,mt 12 18] (.cond (.t 12) (sr [mI 2 3,mn 3] .ret) (sr [mt 20 0,aI 21 .eql 20 21,mt 22 21,mg 23 22 false 0,A2 24 22 false (.ari .eql (.t 23) (cI 25)),
  BV 25 22 24,mt 19 25] (.cond (.t 19) (sr [mI 2 1,mn 3] .ret) .skip))))))) (sr [mI 2 2,mn 3] .ret)))
def Ak3:LF:=⟨Ali,1,0,26,[.tmp 2,.tmp 3]⟩
end Mv
