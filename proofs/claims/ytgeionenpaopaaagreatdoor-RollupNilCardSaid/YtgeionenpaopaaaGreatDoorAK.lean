/- A part. -/
import Derived.Test.YtgeionenpaopaaaGreatDoorAJ
set_option linter.all false
namespace Mv
open Go
theorem Ba {A B:List V} {x:X} (h:∀ t ∈ x.ts,A.getD t .junk=B.getD t .junk):x.ev A=x.ev B:=by
 cases x <;> simp only [X.ev];exact h _ (by simp [X.ts])
theorem Fd {A B:List V}:∀ (ps:List (Stp × Nat × X)) (c:V),(∀ t ∈ RX (ps.map fun q=>q.2.2),A.getD t .junk=B.getD t .junk)→BY c A ps=BY c B ps∧(Bu c A ps ↔ Bu c B ps)
 | [],c,_=>⟨rfl,Iff.rfl⟩
 | (s, sz, x) :: r, c, h => by
   have hx:x.ev A=x.ev B:=Ba fun t ht=>h t (by simp [RX,ht]);have hr:=Fd r (V.set (x.ev B) [s] c) (fun t ht=>h t (by simp only [RX,List.map_cons,List.flatMap_cons,List.mem_append];exact .inr ht));simp only [BY,Bu,hx];exact ⟨hr.1,by rw [hr.2]⟩
theorem I7 {A B:List V}:∀ (xs:List X) (n:Nat),(∀ t ∈ RX xs,A.getD t .junk=B.getD t .junk)→DN A xs n=DN B xs n∧(C5 A xs ↔ C5 B xs)
 | [],_,_=>⟨rfl,Iff.rfl⟩
 | x :: r, n, h => by
   have hx:x.ev A=x.ev B:=Ba fun t ht=>h t (by simp [RX,ht]);have hr:=I7 r (n + 1) (fun t ht=>h t (by simp only [RX,List.flatMap_cons,List.mem_append];exact .inr ht));simp only [DN,C5,hx,hr.1,hr.2];exact ⟨trivial,trivial⟩
theorem Iq {A B:List V}:∀ (xs:List X),(∀ t ∈ RX xs,A.getD t .junk=B.getD t .junk)→xs.map (X.ev A)=xs.map (X.ev B)
 | [],_=>rfl
 | x :: r, h => by
   have hx:x.ev A=x.ev B:=Ba fun t ht=>h t (by simp [RX,ht]);rw [List.map_cons,List.map_cons,hx,Iq r (fun t ht=>h t (by simp only [RX,List.flatMap_cons,List.mem_append];exact .inr ht))]
theorem Gw {A B:List V} {o:Option X} (h:∀ t ∈ ots o,A.getD t .junk=B.getD t .junk) (d:Int):AC A d o=AC B d o∧B1 A o=B1 B o:=by
 cases o with
 | none=>exact ⟨rfl,rfl⟩
 | some x =>
   have hx:x.ev A=x.ev B:=Ba h;simp only [AC,B1,hx];exact ⟨trivial,trivial⟩
theorem Hf {A B:List V} (H:Hp) (n:Nat):∀ (o:LO),(∀ t ∈ o.ts,A.getD t .junk=B.getD t .junk)→Ag A H n o=Ag B H n o:=by
 intro o h;cases o <;> simp only [LO.ts,List.mem_append] at h;case build z ps =>
  obtain ⟨h1,h2⟩:=Fd ps (z.v 0) h;simp only [Ag,h1,propext h2]
 case bsl sz m z ps =>
  obtain ⟨h1,h2⟩:=Fd ps (.ar sz m (fun _=>z.v 0)) h;simp only [Ag,h1,propext h2]
 case mkfn f xs =>
  obtain ⟨h1,h2⟩:=I7 xs 0 h;simp only [Ag,h1,propext h2]
 case slarr m sz x lo hi =>
  have hx:x.ev A=x.ev B:=Ba fun t ht=>h t (.inl (.inl ht));have hl:=fun d=>Gw (o:=lo) (fun t ht=>h t (.inl (.inr ht))) d;have hh:=fun d=>Gw (o:=hi) (fun t ht=>h t (.inr ht)) d;simp only [Ag,hx,(hl 0).1,(hl 0).2,(hh m).1,(hh m).2]
 case slsl sz x lo hi =>
  have hx:x.ev A=x.ev B:=Ba fun t ht=>h t (.inl (.inl ht));have hl:=fun d=>Gw (o:=lo) (fun t ht=>h t (.inl (.inr ht))) d;have hh:=fun d=>Gw (o:=hi) (fun t ht=>h t (.inr ht)) d;have h3:∀ d,AC A d hi=AC B d hi:=fun d=>(hh d).1;simp only [Ag,hx,(hl 0).1,(hl 0).2,h3,(hh 0).2]
 case pick c a b =>
  have h1:c.ev A=c.ev B:=Ba fun t ht=>h t (.inl (.inl ht));have h2:a.ev A=a.ev B:=Ba fun t ht=>h t (.inl (.inr ht));have h3:b.ev A=b.ev B:=Ba fun t ht=>h t (.inr ht);simp only [Ag,h1,h2,h3]
 case alloc=>rfl
 case mkmap=>rfl
 case nope=>rfl
 case mm4 m a b c d =>
  have h1:a.ev A=a.ev B:=Ba fun t ht=>h t (.inl (.inl (.inl ht)));have h2:b.ev A=b.ev B:=Ba fun t ht=>h t (.inl (.inl (.inr ht)));have h3:c.ev A=c.ev B:=Ba fun t ht=>h t (.inl (.inr ht));have h4:d.ev A=d.ev B:=Ba fun t ht=>h t (.inr ht);simp only [Ag,h1,h2,h3,h4]
 case add64 a b c =>
  have h1:a.ev A=a.ev B:=Ba fun t ht=>h t (.inl (.inl ht));have h2:b.ev A=b.ev B:=Ba fun t ht=>h t (.inl (.inr ht));have h3:c.ev A=c.ev B:=Ba fun t ht=>h t (.inr ht);simp only [Ag,h1,h2,h3]
 case mupd s a b c =>
  have h1:a.ev A=a.ev B:=Ba fun t ht=>h t (.inl (.inl ht));have h2:b.ev A=b.ev B:=Ba fun t ht=>h t (.inl (.inr ht));have h3:c.ev A=c.ev B:=Ba fun t ht=>h t (.inr ht);simp only [Ag,h1,h2,h3]
 case mv x | mclone x | rng x | nxt x | ent x | tas _ x | b2s x | mkmth _ x | nilm _ _ x | un _ x | conv _ x | box x | load _ _ x | nilc x | fadr _ x | fld _ _ _ x | s2a _ _ x | mkif _ x | ext x _ | len _ x =>
  have h1:x.ev A=x.ev B:=Ba h;simp only [Ag,h1]
 case ari _ x y | eq _ _ _ x y | store _ x y | iarr _ _ x y | isl _ x y | idx _ _ _ x y | app _ _ x y | copy _ x y | mm _ x y | mksl _ _ _ x y | mlook _ _ _ x y | sidx x y =>
  have h1:x.ev A=x.ev B:=Ba fun t ht=>h t (.inl ht);have h2:y.ev A=y.ev B:=Ba fun t ht=>h t (.inr ht);simp only [Ag,h1,h2]
theorem UH (op:BinOp) (x y:V) (H H':Hp):(AT op x y H).pre=(AT op x y H').pre∧(AT op x y H).v=(AT op x y H').v:=by
 cases x <;> cases y <;> try exact ⟨rfl,rfl⟩
 cases op <;> exact ⟨rfl,rfl⟩
theorem VX (op:UnOp) (x:V) (H H':Hp):(V8 op x H).pre=(V8 op x H').pre∧(V8 op x H).v=(V8 op x H').v:=by
 cases op <;> cases x <;> exact ⟨rfl,rfl⟩
theorem TH (A:List V) (H H':Hp) (n:Nat) (o:LO) (h:LK.isP (.lo o)=true):(Ag A H n o).pre=(Ag A H' n o).pre∧(Ag A H n o).v=(Ag A H' n o).v:=by
 cases o <;> simp only [LK.isP,Bool.false_eq_true] at h;case ari op x y=>exact UH _ _ _ _ _
 case un op x=>exact VX _ _ _ _
 case pick c a b=>simp only [Ag];split <;> exact ⟨rfl,rfl⟩
 case conv k x=>simp only [Ag];split <;> exact ⟨rfl,rfl⟩
 case nilc x=>simp only [Ag];split <;> exact ⟨rfl,rfl⟩
 case fadr x=>simp only [Ag];split <;> exact ⟨rfl,rfl⟩
 case iarr x=>simp only [Ag];split <;> exact ⟨rfl,rfl⟩
 case isl x=>simp only [Ag];split <;> exact ⟨rfl,rfl⟩
 case idx x=>simp only [Ag];split <;> exact ⟨rfl,rfl⟩
 case fld x=>simp only [Ag];split <;> exact ⟨rfl,rfl⟩
 case slsl x=>simp only [Ag];split <;> exact ⟨rfl,rfl⟩
 case s2a x=>simp only [Ag];split <;> exact ⟨rfl,rfl⟩
 case ext x=>simp only [Ag];split <;> exact ⟨rfl,rfl⟩
 case mm x=>simp only [Ag];split <;> exact ⟨rfl,rfl⟩
 case mksl x=>simp only [Ag];split <;> exact ⟨rfl,rfl⟩
 case sidx x=>simp only [Ag];split <;> exact ⟨rfl,rfl⟩
 case mkmth x=>simp only [Ag];split <;> exact ⟨rfl,rfl⟩
 case nilm x=>simp only [Ag];split <;> exact ⟨rfl,rfl⟩
 case add64 x=>simp only [Ag];split <;> exact ⟨rfl,rfl⟩
 case mm4 x=>simp only [Ag];split <;> exact ⟨rfl,rfl⟩
 case tas x=>simp only [Ag];split <;> exact ⟨rfl,rfl⟩
 all_goals exact ⟨rfl,rfl⟩
theorem Aji (op:BinOp) (x y:V) (H:Hp):(AT op x y H).H=H:=by
 cases x <;> cases y <;> try rfl
 cases op <;> rfl
theorem V9 (A:List V) (H:Hp) (n:Nat) (o:LO) (h:LK.isW (.lo o)=false) (h2:LK.isA (.lo o)=false):(Ag A H n o).H=H:=by
 cases o <;> simp only [LK.isW,LK.isA,reduceCtorEq] at h h2;case ari op x y=>exact Aji _ _ _ _
 case un op x=>simp only [Ag];cases op <;> cases hx:x.ev A <;> rfl
 case len k x => simp only [Ag]; repeat' split
                 all_goals rfl
 case slarr m sz x lo hi => simp only [Ag]; repeat' split
                            all_goals rfl
 case mlook s z ok m k=>simp only [Ag,Lw];split <;> (try rfl);split <;> rfl
 case nxt x => simp only [Ag]; repeat' split
               all_goals rfl
 case ent x => simp only [Ag]; repeat' split
               all_goals rfl
 all_goals (try rfl)
 all_goals (simp only [Ag];split <;> rfl)
theorem Rr (A:List V) (n:Nat) (o:LO) (h:LK.isA (.lo o)=true):(∃ H,(Ag A H n o).pre)→∃ c,∀ H,(Ag A H n o).H=(n,c) :: H:=by
 rintro ⟨H0,hp⟩;cases o <;> simp only [LK.isA,Bool.false_eq_true] at h;case mksl sz b z l c =>
  simp only [Ag] at hp ⊢;split at hp
  ·rename_i k a k' b' h1 h2;exact ⟨.ar sz b'.toNat (fun _=>z.v 0),fun H=>rfl⟩
  ·exact hp.elim
 all_goals exact ⟨_,fun H=>rfl⟩
def bs (N m p:Nat) (k:LK):Nat:=N + 16 * (if k.isW then m + p else p)
def hx (al:List (Nat × Nat × V)) (P bf:Nat) (E:Hp):Hp:=(al.filter (fun q=>decide (P≤q.1) && bf.testBit q.1)).map (·.2) ++ E
def Gg (A:List V) (b:Nat) (o:LO) (v:V) (wm bf:Nat) (al:List (Nat × Nat × V)):List (Nat × Hp)→Prop
 | []=>True
 | (P,E) :: r=>(bif (bf &&& wm) >>> P == 0 then ((Ag A (hx al P bf E) b o).pre∧(Ag A (hx al P bf E) b o).v=v) else True)∧Gg A b o v wm bf al r
def Vy (A:List V) (b:Nat) (k:LK) (v:V) (wm bf:Nat) (al:List (Nat × Nat × V)) (bd:List (Nat × Hp)):Prop :=
 match k with
 | .lo o=>bif k.isP || k.isW then True else Gg A b o v wm bf al bd
 | _=>True
def Dq (lo hi:Nat):Hp→Prop
 | []=>True
 | (i,_) :: r=>(i < lo ∨ hi≤i)∧Dq lo hi r
def Dy (M:Seat) (A:List V) (H:Hp) (b:Nat) (k:LK) (C:V→Hp→Prop):Prop :=
 match k with
 | .lo o=>(Ag A H b o).pre∧C (Ag A H b o).v (Ag A H b o).H
 | .call f xs=>∃ v H',Bk M f (xs.map (X.ev A)) H b (fun v' H''=>v'=v∧H''=H')∧C v H'
 | .dyn x xs=>∃ v H',Hz M (x.ev A) (xs.map (X.ev A)) H b (fun v' H''=>v'=v∧H''=H')∧C v H'
def Cr (M:Seat) (K:List V→Hp→Prop) (m N wm:Nat):List DOp→Nat→List V→Hp→List (Nat × Hp)→List (Nat × Nat × V)→Prop
 | [],_,A,H,_,_=>K A H
 | ⟨_, bf, ⟨d, k, none⟩⟩ :: r, p, A, H, bd, al =>
   Dy M A H (bs N m p k) k (fun v H'=>(Vy A (bs N m p k) k v wm bf al bd∧(bif k.isW then Dq (N + 16 * p) (N + 16 * m) H' else True)) ∧
    Cr M K m N wm r (p + 1) (put A d v) H' (bif k.isW then (p + 1,H') :: bd else bd) (bif k.isA then (p,bs N m p k,hget H' (bs N m p k)) :: al else al))
 | ⟨_, bf, ⟨d, k, some (t, b0)⟩⟩ :: r, p, A, H, bd, al =>
   match A.getD t .junk with
   | .bool b'=>(b'=b0→Dy M A H (bs N m p k) k (fun v H'=>(Vy A (bs N m p k) k v wm bf al bd∧(bif k.isW then Dq (N + 16 * p) (N + 16 * m) H' else True)) ∧
    Cr M K m N wm r (p + 1) (put A d v) H' (bif k.isW then (p + 1,H') :: bd else bd) (bif k.isA then (p,bs N m p k,hget H' (bs N m p k)) :: al else al))) ∧
    (b' = !b0→Cr M K m N wm r (p + 1) (put A d (.tup .fnil)) H (bif k.isW then (p + 1,H) :: bd else bd) al)
   | .tup _=>Cr M K m N wm r (p + 1) (put A d (.tup .fnil)) H (bif k.isW then (p + 1,H) :: bd else bd) al
   | _=>False
structure Pl where
 A:Nat→List V
 H:Nat→Hp
 x:Nat→Bool
 v:Nat→V
def GT (L:List DOp) (p:Nat):LOp:=((L[p]?).map (·.o)).getD ⟨none,.lo (.mv (.c .junk)),none⟩
def Di (L:List DOp) (p:Nat):LK:=(GT L p).k
def IU (L:List DOp) (p:Nat):Option Nat:=(GT L p).d
def Cg (L:List DOp) (N:Nat) (F:Pl):Nat→List (Nat × Nat × V)
 | 0=>[]
 | p + 1=>bif (Di L p).isA && F.x p then (p,bs N L.length p (Di L p),hget (F.H (p + 1)) (bs N L.length p (Di L p))) :: Cg L N F p else Cg L N F p
def CU (L:List DOp) (F:Pl):Nat→List (Nat × Hp)
 | 0=>[(0,F.H 0)]
 | p + 1=>bif (Di L p).isW then (p + 1,F.H (p + 1)) :: CU L F p else CU L F p
structure PlanAt (M:Seat) (L:List DOp) (N wm:Nat) (F:Pl) (p:Nat):Prop where
 g:match (GT L p).g with
  | none=>F.x p=true
  | some (t, b0) => match (F.A p).getD t .junk with
    | .bool b'=>F.x p=(b' == b0)
    | .tup _=>F.x p=false
    | _=>False
 run:F.x p=true→Dy M (F.A p) (F.H p) (bs N L.length p (Di L p)) (Di L p) (fun v H'=>v=F.v p∧H'=F.H (p + 1)) ∧
  Vy (F.A p) (bs N L.length p (Di L p)) (Di L p) (F.v p) wm (BX L p) (Cg L N F p) (CU L F p)∧(bif (Di L p).isW then Dq (N + 16 * p) (N + 16 * L.length) (F.H (p + 1)) else True)
 skip:F.x p=false→F.v p = .tup .fnil∧F.H (p + 1)=F.H p
 next:F.A (p + 1)=put (F.A p) (IU L p) (F.v p)
structure Same (F G:Pl) (p:Nat):Prop where
 A:∀ i,i≤p→G.A i=F.A i
 H:∀ i,i≤p→G.H i=F.H i
 x:∀ i,i < p→G.x i=F.x i
 v:∀ i,i < p→G.v i=F.v i
theorem EJ {L:List DOp} {N:Nat} {F G:Pl}:∀ {p q:Nat},Same F G q→p≤q→Cg L N G p=Cg L N F p
 | 0,_,_,_=>rfl
 | p + 1,q,h,hq=>by simp only [Cg,h.x p Aa,h.H (p + 1) hq,EJ h (by omega:p≤q)]
theorem EA {L:List DOp} {F G:Pl}:∀ {p q:Nat},Same F G q→p≤q→CU L G p=CU L F p
 | 0,_,h,_=>by simp only [CU,h.H 0 Aa]
 | p + 1,q,h,hq=>by simp only [CU,h.H (p + 1) hq,EA h (by omega:p≤q)]
theorem PlanAt.same {M:Seat} {L:List DOp} {N wm:Nat} {F G:Pl} {p:Nat} (h:Same F G (p + 1)) (hp:PlanAt M L N wm F p):PlanAt M L N wm G p:=by
 obtain ⟨h1,h2,h3,h4⟩:=hp;have e1:=h.A p Aa;have e2:=h.H p Aa;have e3:=h.A (p + 1) Aa;have e4:=h.H (p + 1) Aa;have e5:=h.x p Aa;have e6:=h.v p Aa;have e7:=EJ (L:=L) (N:=N) h (by omega:p≤p + 1);have e8:=EA (L:=L) h (by omega:p≤p + 1);refine ⟨?_,?_,?_,?_⟩
 ·rw [e1,e5];exact h1
 ·rw [e1,e2,e4,e5,e6,e7,e8];exact h2
 ·rw [e2,e4,e5,e6];exact h3
 ·rw [e1,e3,e6];exact h4
theorem OX {M:Seat} {K:List V→Hp→Prop} {L:List DOp} {N wm:Nat}:∀ (r:List DOp) (p:Nat) (F:Pl),(∀ i,L[p + i]?=r[i]?)→p + r.length=L.length →
 Cr M K L.length N wm r p (F.A p) (F.H p) (CU L F p) (Cg L N F p)→∃ G,Same F G p∧(∀ i,p≤i→i < L.length→PlanAt M L N wm G i)∧K (G.A L.length) (G.H L.length)
 | [], p, F, _, hl, h => by
   simp only [Cr] at h;have:p=L.length:=OG;subst this;exact ⟨F,⟨fun _ _=>rfl,fun _ _=>rfl,fun _ _=>rfl,fun _ _=>rfl⟩,fun i h1 h2=>by omega,h⟩
 | D :: r, p, F, hL, hl, h => by
   have hp:L[p]?=some D:=by simpa using hL 0
   have hr:∀ i,L[p + 1 + i]?=r[i]?:=fun i=>by
    have:=hL (i + 1);have e1:p + (i + 1)=p + 1 + i:=Aa;rw [e1] at this;simpa using this
   have hll:p + 1 + r.length=L.length:=by simp only [List.length_cons] at hl;omega
   have hop:GT L p=D.o:=by simp [GT,hp]
   have hbf:BX L p=D.bf:=by simp [BX,hp]
   have key:∀ (x:Bool) (v:V) (H':Hp),
    (let G:Pl:={ A:=fun i=>if i=p + 1 then put (F.A p) (IU L p) v else F.A i,H:=fun i=>if i=p + 1 then H' else F.H i,x:=fun i=>if i=p then x else F.x i,v:=fun i=>if i=p then v else F.v i }
     PlanAt M L N wm G p∧Cr M K L.length N wm r (p + 1) (G.A (p + 1)) (G.H (p + 1)) (CU L G (p + 1)) (Cg L N G (p + 1))) →
    ∃ G,Same F G p∧(∀ i,p≤i→i < L.length→PlanAt M L N wm G i)∧K (G.A L.length) (G.H L.length):=by
    rintro x v H' ⟨h1,h2⟩;obtain ⟨G,hs,hall,hK⟩:=OX r (p + 1) _ hr hll h2;refine ⟨G,⟨fun i hi=>?_,fun i hi=>?_,fun i hi=>?_,fun i hi=>?_⟩,fun i h3 h4=>?_,hK⟩
    ·rw [hs.A i Aa];show (if _ then _ else _)=_;rw [if_neg Aa]
    ·rw [hs.H i Aa];show (if _ then _ else _)=_;rw [if_neg Aa]
    ·rw [hs.x i Aa];show (if _ then _ else _)=_;rw [if_neg Aa]
    ·rw [hs.v i Aa];show (if _ then _ else _)=_;rw [if_neg Aa]
    ·by_cases hip:i=p
     ·subst hip;exact h1.same hs
     ·exact hall i Aa h4
   have same0:∀ (x:Bool) (v:V) (H':Hp),Same F { A:=fun i=>if i=p + 1 then put (F.A p) (IU L p) v else F.A i,H:=fun i=>if i=p + 1 then H' else F.H i,x:=fun i=>if i=p then x else F.x i,v:=fun i=>if i=p then v else F.v i } p:=fun x v H' =>
    ⟨fun i hi=>if_neg Aa,fun i hi=>if_neg Aa,fun i hi=>if_neg Aa,fun i hi=>if_neg Aa⟩
   have doIt:(match D.o.g with
    | none=>True
    | some (t, b0) => match (F.A p).getD t .junk with
      | .bool b'=>b'=b0
      | _=>False) →
    Dy M (F.A p) (F.H p) (bs N L.length p D.o.k) D.o.k (fun v H'=>(Vy (F.A p) (bs N L.length p D.o.k) D.o.k v wm D.bf (Cg L N F p) (CU L F p)∧(bif D.o.k.isW then Dq (N + 16 * p) (N + 16 * L.length) H' else True)) ∧
     Cr M K L.length N wm r (p + 1) (put (F.A p) D.o.d v) H' (bif D.o.k.isW then (p + 1,H') :: CU L F p else CU L F p) (bif D.o.k.isA then (p,bs N L.length p D.o.k,hget H' (bs N L.length p D.o.k)) :: Cg L N F p else Cg L N F p)) →
    ∃ G,Same F G p∧(∀ i,p≤i→i < L.length→PlanAt M L N wm G i)∧K (G.A L.length) (G.H L.length):=by
    intro hg ho;have:∃ v H',Dy M (F.A p) (F.H p) (bs N L.length p D.o.k) D.o.k (fun v' H''=>v'=v∧H''=H')∧(Vy (F.A p) (bs N L.length p D.o.k) D.o.k v wm D.bf (Cg L N F p) (CU L F p)∧(bif D.o.k.isW then Dq (N + 16 * p) (N + 16 * L.length) H' else True)) ∧
     Cr M K L.length N wm r (p + 1) (put (F.A p) D.o.d v) H' (bif D.o.k.isW then (p + 1,H') :: CU L F p else CU L F p) (bif D.o.k.isA then (p,bs N L.length p D.o.k,hget H' (bs N L.length p D.o.k)) :: Cg L N F p else Cg L N F p):=by
     unfold Dy at ho ⊢;cases hk:D.o.k with
     | lo o=>rw [hk] at ho;exact ⟨_,_,⟨ho.1,rfl,rfl⟩,ho.2⟩
     | call f xs=>rw [hk] at ho;obtain ⟨v,H',h1,h2⟩:=ho;exact ⟨v,H',⟨v,H',h1,rfl,rfl⟩,h2⟩
     | dyn x xs=>rw [hk] at ho;obtain ⟨v,H',h1,h2⟩:=ho;exact ⟨v,H',⟨v,H',h1,rfl,rfl⟩,h2⟩
    obtain ⟨v,H',h1,⟨h2,h2'⟩,h3⟩:=this;refine key true v H' ⟨⟨?_,?_,?_,?_⟩,?_⟩
    ·simp only [hop,if_true,if_neg (by omega:¬ p=p + 1)];cases hgs:D.o.g with
     | none=>trivial
     | some q =>
       obtain ⟨t,b0⟩:=q;rw [hgs] at hg;simp only at hg ⊢;cases hA:(F.A p).getD t .junk <;> rw [hA] at hg <;> simp only at hg;subst hg;simp
    ·intro _;have e7:=EJ (L:=L) (N:=N) (same0 true v H') (Nat.le_refl p);have e8:=EA (L:=L) (same0 true v H') (Nat.le_refl p);rw [e7,e8];simp only [Di,hop,hbf,if_true,if_neg (by omega:¬ p=p + 1)];exact ⟨h1,h2,h2'⟩
    ·intro hf;simp at hf
    ·simp only [if_true,if_neg (by omega:¬ p=p + 1)]
    ·have e7:=EJ (L:=L) (N:=N) (same0 true v H') (Nat.le_refl p);have e8:=EA (L:=L) (same0 true v H') (Nat.le_refl p);simp only [Cg,CU,e7,e8];simp only [Di,IU,hop,if_true,Bool.and_true];exact h3
   have skipIt:(match D.o.g with
    | none=>False
    | some (t, b0) => match (F.A p).getD t .junk with
      | .bool b'=>b' = !b0
      | .tup _=>True
      | _=>False) →
    Cr M K L.length N wm r (p + 1) (put (F.A p) D.o.d (.tup .fnil)) (F.H p) (bif D.o.k.isW then (p + 1,F.H p) :: CU L F p else CU L F p) (Cg L N F p) →
    ∃ G,Same F G p∧(∀ i,p≤i→i < L.length→PlanAt M L N wm G i)∧K (G.A L.length) (G.H L.length):=by
    intro hg h3;refine key false (.tup .fnil) (F.H p) ⟨⟨?_,?_,?_,?_⟩,?_⟩
    ·simp only [hop,if_true,if_neg (by omega:¬ p=p + 1)];cases hgs:D.o.g with
     | none=>rw [hgs] at hg;exact hg.elim
     | some q =>
       obtain ⟨t,b0⟩:=q;rw [hgs] at hg;simp only at hg ⊢;cases hA:(F.A p).getD t .junk <;> rw [hA] at hg <;> simp only at hg
       ·subst hg;cases b0 <;> rfl
       ·trivial
    ·intro hf;simp at hf
    ·intro _;simp only [if_true,if_neg (by omega:¬ p=p + 1)];exact ⟨trivial,trivial⟩
    ·simp only [if_true,if_neg (by omega:¬ p=p + 1)]
    ·have e7:=EJ (L:=L) (N:=N) (same0 false (.tup .fnil) (F.H p)) (Nat.le_refl p);have e8:=EA (L:=L) (same0 false (.tup .fnil) (F.H p)) (Nat.le_refl p);simp only [Cg,CU,e7,e8];simp only [Di,IU,hop,if_true,Bool.and_false,cond_false];exact h3
   obtain ⟨ix,bf,⟨d,k,g⟩⟩:=D;cases g with
   | none=>exact doIt trivial (by simpa only [Cr] using h)
   | some q =>
     obtain ⟨t,b0⟩:=q;simp only [Cr] at h;split at h
     ·rename_i b' hb';by_cases hb:b'=b0
      ·exact doIt (by simp only [hb'];exact hb) (h.1 hb)
      ·have hb2:b' = !b0:=by
        clear h doIt skipIt key same0;revert hb;cases b' <;> cases b0 <;> simp
       exact skipIt (by simp only [hb'];exact hb2) (h.2 hb2)
     ·rename_i fs hb';exact skipIt (by simp only [hb']) h
     ·exact h.elim
variable {M:Seat}
def Sub (H Hc:Hp):Prop:=∀ id,Af H id=true→Af Hc id=true∧hget Hc id=hget H id
def Dw (Hc H:Hp):Hp:=Hc.filter (fun q=>!Af H q.1)
theorem DU (j:Nat):∀ H K:Hp,Af (H ++ K) j=(Af H j || Af K j)
 | [],_=>by simp [Af]
 | (i,v) :: r,K=>by simp [Af,DU j r K,Bool.or_assoc]
theorem Fi {j:Nat}:∀ {H K:Hp},Af H j=true→hget (H ++ K) j=hget H j
 | [],_,h=>by simp [Af] at h
 | (i, v) :: r, K, h => by
   simp only [List.cons_append,hget];split
   ·rfl
   ·rename_i hij;simp only [V1,beq_iff_eq,hij,false_or] at h;exact Fi h
theorem EZ {j:Nat}:∀ {H K:Hp},Af H j=false→hget (H ++ K) j=hget K j
 | [],_,_=>rfl
 | (i, v) :: r, K, h => by
   simp only [Af,Bool.or_eq_false_iff,beq_eq_false_iff_ne,ne_eq] at h;simp only [List.cons_append,hget,if_neg h.1];exact EZ h.2
theorem Eo (H:Hp) (j:Nat):∀ Hc:Hp,Af (Dw Hc H) j=(Af Hc j && !Af H j)
 | []=>rfl
 | (i, v) :: r => by
   have ih:=Eo H j r;unfold Dw at ih ⊢;rw [List.filter_cons];by_cases hij:i=j
   ·subst hij;cases h:Af H i with
    | true=>simp only [Bool.not_true,Bool.and_false,O3];rw [ih,h];simp
    | false=>simp [Af]
   ·have hb:(i == j)=false:=by simpa using hij
    split
    ·simp only [Af,hb,Bool.false_or];exact ih
    ·simp only [Af,hb,Bool.false_or];exact ih
theorem Ej (H:Hp) (j:Nat) (hj:Af H j=false):∀ Hc:Hp,hget (Dw Hc H) j=hget Hc j
 | []=>rfl
 | (i, v) :: r => by
   have ih:=Ej H j hj r;unfold Dw at ih ⊢;rw [List.filter_cons];by_cases hij:i=j
   ·subst hij;simp [hj,hget]
   ·split
    ·simp only [hget,if_neg hij];exact ih
    ·simp only [hget,if_neg hij];exact ih
theorem Inv.sub {c:Ctx} {e:Env} {H Hc:Hp} (h:Inv M c e Hc) (hs:Sub H Hc):Inv M c e H:=by
 refine ⟨h.ev,fun j hj=>?_,fun i j hi hj=>h.inj i j (hs i hi).1 (hs j hj).1,h.imo,h.imb,h.rb,h.keep,h.low,h.gs,h.φ,h.τ⟩;obtain ⟨h1,h2⟩:=hs j hj;rw [← h2];exact h.blk j h1
theorem Inv.narrow {c:Ctx} {e:Env} {H Hc:Hp} (h:Inv M c e Hc) (hs:Sub H Hc):Inv M ⟨e,fun b=>∃ id,Af H id=true∧e.ρ id=b,c.k⟩ e H:=by
 have h':=h.sub hs;refine ⟨Ev.refl _ _,fun j hj=>?_,h'.inj,fun b hb=>.inl hb,h'.imb,h'.rb,fun b hb=>hb,fun id hid=>⟨Iff.rfl,fun _=>rfl⟩,h'.gs,h'.φ,h'.τ⟩;obtain ⟨h1,h2,h3,_⟩:=h'.blk j hj;exact ⟨h1,h2,h3,.inl ⟨j,hj,rfl⟩⟩
theorem Inv.widen {c:Ctx} {e e':Env} {H H' Hc:Hp} (h:Inv M c e Hc) (hs:Sub H Hc) (hle:e.le e') (h':Inv M ⟨e,fun b=>∃ id,Af H id=true∧e.ρ id=b,c.k⟩ e' H') :
 Inv M c e' (H' ++ Dw Hc H)∧∀ id,Af Hc id=true→Af H id=false→Af H' id=false:=by
 have hO:∀ b,(∃ id,Af H id=true∧e.ρ id=b)→c.O b ∨ c.e0.w.heap.size≤b:=by
  rintro b ⟨id,h1,rfl⟩;exact (h.blk id (hs id h1).1).2.2.2
 have hnew:∀ b,(∃ id,Af H id=true∧e.ρ id=b) ∨ e.w.heap.size≤b→c.O b ∨ c.e0.w.heap.size≤b:=by
  rintro b (hb | hb)
  ·exact hO b hb
  ·have:=h.ev.size;exact .inr Aa
 have hsep:∀ i j,Af Hc i=true→Af H i=false→Af H' j=true→e.ρ i ≠ e'.ρ j:=by
  intro i j hi hn hj he;rcases (h'.blk j hj).2.2.2 with hh | hh
  ·obtain ⟨i',h1,h2⟩:=hh;have:i=i':=h.inj i i' hi (hs i' h1).1 (he.trans h2.symm);rw [this,h1] at hn;cases hn
  ·have hh:e.w.heap.size≤e'.ρ j:=hh;have:=h.rb i (h.blk i hi).1;omega
 have hold:∀ id,Af (Dw Hc H) id=true→Af Hc id=true∧Af H id=false∧hget (Dw Hc H) id=hget Hc id:=by
  intro id hid;rw [Eo] at hid;simp only [X5] at hid;exact ⟨hid.1,hid.2,Ej _ _ hid.2 _⟩
 have hρ:∀ i,e.D i→e'.ρ i=e.ρ i:=fun i hi=>(hle.D i hi).2;have hsame:∀ id,Af Hc id=true→Af H id=false→e'.w.heap[e.ρ id]?=e.w.heap[e.ρ id]?:=fun id h1 h2 =>
  h'.ev.frame _ (h.rb id (h.blk id h1).1) (fun ⟨i',k1,k2⟩=>by
   have:i'=id:=h.inj i' id (hs i' k1).1 h1 k2
   rw [this,h2] at k1;cases k1)
 refine ⟨⟨h.ev.trans h'.ev (fun b hb=>hO b hb),?_,?_,?_,h'.imb,h'.rb,fun b hb=>h'.keep b (h.keep b hb),?_,h'.gs,h'.φ,h'.τ⟩,?_⟩
 ·intro id hid;cases hh:Af H' id with
  | true =>
    obtain ⟨q1,q2,q3,q4⟩:=h'.blk id hh;rw [Fi hh];exact ⟨q1,q2,q3,hnew _ q4⟩
  | false =>
    rw [DU,hh,Bool.false_or] at hid;obtain ⟨k1,k2,k3⟩:=hold id hid;obtain ⟨q1,q2,q3,q4⟩:=h.blk id k1;rw [EZ hh,k3,hρ id q1];refine ⟨(hle.D id q1).1,D5 hle q1 (hsame id k1 k2) q2,fun him=>?_,q4⟩;rcases h'.imo _ him with hm | ⟨i',h1,h2⟩ | hm
    ·exact q3 hm
    ·have:i'=id:=h.inj i' id (hs i' h1).1 k1 h2;rw [this,k2] at h1;cases h1
    ·have hm:e.w.heap.size≤e.ρ id:=hm;have:=h.rb id q1;omega
 ·intro i j hi hj hij;have cl:∀ i,Af (H' ++ Dw Hc H) i=true→Af H' i=true ∨ (Af H' i=false∧Af Hc i=true∧Af H i=false):=fun i hi=>by
   cases hh:Af H' i with
   | true=>exact .inl rfl
   | false =>
     rw [DU,hh,Bool.false_or] at hi;obtain ⟨k1,k2,_⟩:=hold i hi;exact .inr ⟨rfl,k1,k2⟩
  rcases cl i hi with h1 | ⟨_,h1,h2⟩ <;> rcases cl j hj with h3 | ⟨_,h3,h4⟩
  ·exact h'.inj i j h1 h3 hij
  ·rw [hρ j (h.blk j h3).1] at hij;exact absurd hij.symm (hsep j i h3 h4 h1)
  ·rw [hρ i (h.blk i h1).1] at hij;exact absurd hij (hsep i j h1 h2 h3)
  ·rw [hρ i (h.blk i h1).1,hρ j (h.blk j h3).1] at hij;exact h.inj i j h1 h3 hij
 ·intro b hb;rcases h'.imo b hb with hm | hm | hm
  ·exact h.imo b hm
  ·exact .inr (hnew b (.inl hm))
  ·exact .inr (hnew b (.inr hm))
 ·intro id hid;obtain ⟨h1,h2⟩:=h.low id hid;obtain ⟨k1,k2⟩:=h'.low id hid;exact ⟨k1.trans h1,fun hd=>(hρ id (k1.1 hd)).trans (h2 (k1.1 hd))⟩
 ·intro id h1 h2;cases hh:Af H' id with
  | false=>rfl
  | true=>exact absurd (hρ id (h.blk id h1).1).symm (hsep id id h1 h2 hh)
theorem O8 (a:Act) (d:Option Nat) (x:Value) (t:Nat):(a.put d x).tmps.getD t undef=if d=some t∧t < a.tmps.size then x else a.tmps.getD t undef:=by
 cases d with
 | none=>simp [Act.put]
 | some i =>
   simp only [Act.put,Option.some.injEq];by_cases hit:i=t
   ·subst hit;by_cases hl:i < a.tmps.size
    ·simp [hl]
    ·simp [hl]
   ·simp [Array.getElem?_setIfInBounds_ne hit,hit]
theorem L5 (A:List V) (d:Option Nat) (v:V) (t:Nat):(put A d v).getD t .junk=if d=some t∧t < A.length then v else A.getD t .junk:=by
 cases d with
 | none=>simp [put]
 | some i =>
   simp only [put,Option.some.injEq];by_cases hit:i=t
   ·subst hit;by_cases hl:i < A.length
    ·simp [List.getD,hl]
    ·simp [List.getD,hl]
   ·simp [List.getD,List.getElem?_set_ne hit,hit]
theorem SY (L:List DOp) (j:Nat):∀ (es:List Edge) (b:Nat),(es.foldl (fun b e=>if Region.binds .any e then b ||| (2 ^ D7 L e.on) ||| BX L (D7 L e.on) else b) b).testBit j=true →
 b.testBit j=true ∨ ∃ e ∈ es,Region.binds .any e=true∧(j=D7 L e.on ∨ (BX L (D7 L e.on)).testBit j=true)
 | [],b,h=>.inl h
 | e :: es, b, h => by
   rw [List.foldl_cons] at h;rcases SY L j es _ h with h1 | ⟨e',h1,h2⟩
   ·split at h1
    ·rename_i hb;rw [Nat.testBit_or,Nat.testBit_or,Bool.or_eq_true,Bool.or_eq_true] at h1;rcases h1 with (h1 | h1) | h1
     ·exact .inl h1
     ·rw [Nat.testBit_two_pow] at h1;exact .inr ⟨e,by simp,hb,.inl (by simpa using Eq.symm (by simpa using h1:D7 L e.on=j))⟩
     ·exact .inr ⟨e,by simp,hb,.inr h1⟩
    ·exact .inl h1
   ·exact .inr ⟨e',by simp [h1],h2⟩
structure DFact (M:Seat) (ops:Array Oper) (L:List DOp) (p:Nat) (o:Oper):Prop where
 op:ops[((L[p]?).map (·.ix)).getD 0]?=some o
 dst:o.dst=IU L p
 k:Pe M o.op (Di L p)=true
 g:NL ops o.guard (GT L p).g=true
 pos:D7 L (((L[p]?).map (·.ix)).getD 0)=p
 bf:∀ j,(BX L p).testBit j=true→∃ e ∈ o.after.toList,Region.binds .any e=true∧(j=D7 L e.on ∨ (BX L (D7 L e.on)).testBit j=true)
 lt:∀ e ∈ o.after.toList,Region.binds .any e=true→D7 L e.on < p
 w:(Di L p).isW=true→∀ j,j < p→(BX L p).testBit j=true
 ts:∀ t ∈ (GT L p).ts,∀ j,j < L.length→IU L j=some t→(BX L p).testBit j=true ∨ (p < j∧(BX L j).testBit p=true) ∨ j=p
theorem G8 {p j:Nat} (h:j < p):(2 ^ p - 1).testBit j=true:=by
 rw [Nat.testBit_two_pow_sub_one];simpa using h
theorem PV {ops:Array Oper} {L:List DOp} {p:Nat} (h:XW M ops L p=true):∃ o,DFact M ops L p o:=by
 unfold XW at h;split at h
 ·cases h
 rename_i d hd;split at h
 ·cases h
 rename_i o ho;simp only [X5,decide_eq_true_eq,beq_iff_eq,List.all_eq_true,Bool.or_eq_true] at h;obtain ⟨⟨⟨⟨⟨⟨⟨h1,h2⟩,h3⟩,h4⟩,h5⟩,h6⟩,h7⟩,h8⟩:=h;have e1:GT L p=d.o:=by simp [GT,hd]
 have e2:BX L p=d.bf:=by simp [BX,hd]
 have e3:((L[p]?).map (·.ix)).getD 0=d.ix:=by simp [hd]
 refine ⟨o,by rw [e3];exact ho,by rw [IU,e1];exact h1,by rw [Di,e1];exact h2,by rw [e1];exact h3,by rw [e3];exact h4,fun j hj=>?_,fun e he hb=>?_,fun hw j hj=>?_,fun t ht j hj hdj=>?_⟩
 ·rw [e2,h5] at hj;rcases SY L j _ _ hj with h | h
  ·simp at h
  ·exact h
 ·rcases h6 e he with h | h
  ·rw [hb] at h;cases h
  ·exact h
 ·rw [Di,e1] at hw;rcases h7 with h | h
  ·rw [hw] at h;cases h
  ·rw [e2,h];exact G8 hj
 ·rw [e1] at ht;have hdj':(L[j]?).bind (fun x=>x.o.d)=some t:=by
   have:=hdj;simp only [IU,GT] at this;cases hL:L[j]? with
   | none=>rw [hL] at this;simp at this
   | some q=>rw [hL] at this;simpa using this
  rcases h8 t ht j (List.mem_range.2 hj) with ((h | h) | h) | h
  ·rw [hdj'] at h;simp at h
  ·rw [e2];exact .inl h
  ·exact .inr (.inl h)
  ·exact .inr (.inr h)
structure DFacts (M:Seat) (ops:Array Oper) (L:List DOp):Prop where
 mixed:M.P.follows .mixedOrders=true
 len:L.length=ops.size
 all:∀ i,i < ops.size→D7 L i < L.length
 at':∀ p,p < L.length→∃ o,DFact M ops L p o
 uni:∀ p q t,p < L.length→q < L.length→IU L p=some t→IU L q=some t→p=q
theorem KG {ops:Array Oper} {L:List DOp} (h:Aaa M ops L=true):DFacts M ops L:=by
 unfold Aaa at h;simp only [Lc6,beq_iff_eq,List.mem_range,decide_eq_true_eq,Bool.or_eq_true] at h;obtain ⟨⟨⟨⟨h1,h2⟩,h3⟩,h4⟩,h5⟩:=h;refine ⟨h1,h2,fun i hi=>by rw [h2];exact h3 i hi,fun p hp=>PV (h4 p hp),fun p q t hp hq hdp hdq=>?_⟩;have e:∀ j,IU L j=some t→(L[j]?).bind (fun x=>x.o.d)=some t:=fun j hj=>by
  simp only [IU,GT] at hj;cases hL:L[j]? with
  | none=>rw [hL] at hj;simp at hj
  | some q=>rw [hL] at hj;simpa using hj
 rcases h5 p hp q hq with h | h
 ·exact h
 ·rw [e p hdp,e q hdq] at h;simp at h
theorem J4 {L:List DOp} {i:Nat} (h:D7 L i < L.length):((L[D7 L i]?).map (·.ix)).getD 0=i:=by
 unfold D7 at h ⊢;have:=List.findIdx_getElem (xs:=L) (p:=fun d=>d.ix == i) (w:=h);rw [List.getElem?_eq_getElem h];simpa using this
end Mv
