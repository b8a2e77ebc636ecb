/- A part. -/
import Derived.Test.YtfljfijnobocoaaDoorCN
set_option linter.all false
namespace Mv
open Go
theorem AT {A B:List V} {x:X} (h:∀ t ∈ x.ts,A.getD t .junk=B.getD t .junk):x.ev A=x.ev B:=by
 cases x <;> simp only [X.ev]
 exact h _ (by simp [X.ts])
theorem Ei {A B:List V}:∀ (ps:List (Stp × Nat × X)) (c:V),(∀ t ∈ Q2 (ps.map fun q=>q.2.2),A.getD t .junk=B.getD t .junk)→BP c A ps=BP c B ps∧(Bv c A ps ↔ Bv c B ps)
 | [],c,_=>⟨rfl,Iff.rfl⟩
 | (s, sz, x) :: r, c, h => by
   have hx:x.ev A=x.ev B:=AT fun t ht=>h t (by simp [Q2,ht])
   have hr:=Ei r (V.set (x.ev B) [s] c) (fun t ht=>h t (by simp only [Q2,List.map_cons,List.flatMap_cons,List.mem_append];exact .inr ht))
   simp only [BP,Bv,hx]
   exact ⟨hr.1,by rw [hr.2]⟩
theorem Hw {A B:List V}:∀ (xs:List X) (n:Nat),(∀ t ∈ Q2 xs,A.getD t .junk=B.getD t .junk)→Dl A xs n=Dl B xs n∧(Cp A xs ↔ Cp B xs)
 | [],_,_=>⟨rfl,Iff.rfl⟩
 | x :: r, n, h => by
   have hx:x.ev A=x.ev B:=AT fun t ht=>h t (by simp [Q2,ht])
   have hr:=Hw r (n + 1) (fun t ht=>h t (by simp only [Q2,List.flatMap_cons,List.mem_append];exact .inr ht))
   simp only [Dl,Cp,hx,hr.1,hr.2]
   exact ⟨trivial,trivial⟩
theorem GQ {A B:List V}:∀ (xs:List X),(∀ t ∈ Q2 xs,A.getD t .junk=B.getD t .junk)→xs.map (X.ev A)=xs.map (X.ev B)
 | [],_=>rfl
 | x :: r, h => by
   have hx:x.ev A=x.ev B:=AT fun t ht=>h t (by simp [Q2,ht])
   rw [List.map_cons,List.map_cons,hx,GQ r (fun t ht=>h t (by simp only [Q2,List.flatMap_cons,List.mem_append];exact .inr ht))]
theorem Fi {A B:List V} {o:Option X} (h:∀ t ∈ ots o,A.getD t .junk=B.getD t .junk) (d:Int):A8 A d o=A8 B d o∧B1 A o=B1 B o:=by
 cases o with
 | none=>exact ⟨rfl,rfl⟩
 | some x =>
   have hx:x.ev A=x.ev B:=AT h
   simp only [A8,B1,hx]
   exact ⟨trivial,trivial⟩
theorem FX {A B:List V} (H:Hp) (n:Nat):∀ (o:LO),(∀ t ∈ o.ts,A.getD t .junk=B.getD t .junk)→Ae A H n o=Ae B H n o:=by
 intro o h
 cases o <;> simp only [LO.ts,List.mem_append] at h
 case build z ps =>
  obtain ⟨h1,h2⟩:=Ei ps (z.v 0) h
  simp only [Ae,h1,propext h2]
 case bsl sz m z ps =>
  obtain ⟨h1,h2⟩:=Ei ps (.ar sz m (fun _=>z.v 0)) h
  simp only [Ae,h1,propext h2]
 case mkfn f xs =>
  obtain ⟨h1,h2⟩:=Hw xs 0 h
  simp only [Ae,h1,propext h2]
 case slarr m sz x lo hi =>
  have hx:x.ev A=x.ev B:=AT fun t ht=>h t (.inl (.inl ht))
  have hl:=fun d=>Fi (o:=lo) (fun t ht=>h t (.inl (.inr ht))) d
  have hh:=fun d=>Fi (o:=hi) (fun t ht=>h t (.inr ht)) d
  simp only [Ae,hx,(hl 0).1,(hl 0).2,(hh m).1,(hh m).2]
 case slsl sz x lo hi =>
  have hx:x.ev A=x.ev B:=AT fun t ht=>h t (.inl (.inl ht))
  have hl:=fun d=>Fi (o:=lo) (fun t ht=>h t (.inl (.inr ht))) d
  have hh:=fun d=>Fi (o:=hi) (fun t ht=>h t (.inr ht)) d
  have h3:∀ d,A8 A d hi=A8 B d hi:=fun d=>(hh d).1
  simp only [Ae,hx,(hl 0).1,(hl 0).2,h3,(hh 0).2]
 case pick c a b =>
  have h1:c.ev A=c.ev B:=AT fun t ht=>h t (.inl (.inl ht))
  have h2:a.ev A=a.ev B:=AT fun t ht=>h t (.inl (.inr ht))
  have h3:b.ev A=b.ev B:=AT fun t ht=>h t (.inr ht)
  simp only [Ae,h1,h2,h3]
 case alloc=>rfl
 case mkmap=>rfl
 case nope=>rfl
 case mm4 m a b c d =>
  have h1:a.ev A=a.ev B:=AT fun t ht=>h t (.inl (.inl (.inl ht)))
  have h2:b.ev A=b.ev B:=AT fun t ht=>h t (.inl (.inl (.inr ht)))
  have h3:c.ev A=c.ev B:=AT fun t ht=>h t (.inl (.inr ht))
  have h4:d.ev A=d.ev B:=AT fun t ht=>h t (.inr ht)
  simp only [Ae,h1,h2,h3,h4]
 case add64 a b c =>
  have h1:a.ev A=a.ev B:=AT fun t ht=>h t (.inl (.inl ht))
  have h2:b.ev A=b.ev B:=AT fun t ht=>h t (.inl (.inr ht))
  have h3:c.ev A=c.ev B:=AT fun t ht=>h t (.inr ht)
  simp only [Ae,h1,h2,h3]
 case mupd s a b c =>
  have h1:a.ev A=a.ev B:=AT fun t ht=>h t (.inl (.inl ht))
  have h2:b.ev A=b.ev B:=AT fun t ht=>h t (.inl (.inr ht))
  have h3:c.ev A=c.ev B:=AT fun t ht=>h t (.inr ht)
  simp only [Ae,h1,h2,h3]
 case mv x | mclone x | rng x | nxt x | tas _ x | b2s x | mkmth _ x | nilm _ _ x | un _ x | conv _ x | box x | load _ _ x | nilc x | fadr _ x | fld _ _ _ x | s2a _ _ x | mkif _ x | ext x _ | len _ x =>
  have h1:x.ev A=x.ev B:=AT h
  simp only [Ae,h1]
 case ari _ x y | eq _ _ _ x y | store _ x y | iarr _ _ x y | isl _ x y | idx _ _ _ x y | app _ _ x y | copy _ x y | mm _ x y | mksl _ _ _ x y | mlook _ _ _ x y | sidx x y =>
  have h1:x.ev A=x.ev B:=AT fun t ht=>h t (.inl ht)
  have h2:y.ev A=y.ev B:=AT fun t ht=>h t (.inr ht)
  simp only [Ae,h1,h2]
theorem Sm (op:BinOp) (x y:V) (H H':Hp):(AP op x y H).pre=(AP op x y H').pre∧(AP op x y H).v=(AP op x y H').v:=by
 cases x <;> cases y <;> try exact ⟨rfl,rfl⟩
 cases op <;> exact ⟨rfl,rfl⟩
theorem VM (op:UnOp) (x:V) (H H':Hp):(ST op x H).pre=(ST op x H').pre∧(ST op x H).v=(ST op x H').v:=by
 cases op <;> cases x <;> exact ⟨rfl,rfl⟩
theorem RJ (A:List V) (H H':Hp) (n:Nat) (o:LO) (h:LK.isP (.lo o)=true):(Ae A H n o).pre=(Ae A H' n o).pre∧(Ae A H n o).v=(Ae A H' n o).v:=by
 cases o <;> simp only [LK.isP,Bool.false_eq_true] at h
 case ari op x y=>exact Sm _ _ _ _ _
 case un op x=>exact VM _ _ _ _
 case pick c a b=>simp only [Ae];split <;> exact ⟨rfl,rfl⟩
 case conv k x=>simp only [Ae];split <;> exact ⟨rfl,rfl⟩
 case nilc x=>simp only [Ae];split <;> exact ⟨rfl,rfl⟩
 case fadr x=>simp only [Ae];split <;> exact ⟨rfl,rfl⟩
 case iarr x=>simp only [Ae];split <;> exact ⟨rfl,rfl⟩
 case isl x=>simp only [Ae];split <;> exact ⟨rfl,rfl⟩
 case idx x=>simp only [Ae];split <;> exact ⟨rfl,rfl⟩
 case fld x=>simp only [Ae];split <;> exact ⟨rfl,rfl⟩
 case slsl x=>simp only [Ae];split <;> exact ⟨rfl,rfl⟩
 case s2a x=>simp only [Ae];split <;> exact ⟨rfl,rfl⟩
 case ext x=>simp only [Ae];split <;> exact ⟨rfl,rfl⟩
 case mm x=>simp only [Ae];split <;> exact ⟨rfl,rfl⟩
 case mksl x=>simp only [Ae];split <;> exact ⟨rfl,rfl⟩
 case sidx x=>simp only [Ae];split <;> exact ⟨rfl,rfl⟩
 case mkmth x=>simp only [Ae];split <;> exact ⟨rfl,rfl⟩
 case nilm x=>simp only [Ae];split <;> exact ⟨rfl,rfl⟩
 case add64 x=>simp only [Ae];split <;> exact ⟨rfl,rfl⟩
 case mm4 x=>simp only [Ae];split <;> exact ⟨rfl,rfl⟩
 case tas x=>simp only [Ae];split <;> exact ⟨rfl,rfl⟩
 all_goals exact ⟨rfl,rfl⟩
theorem Acy (op:BinOp) (x y:V) (H:Hp):(AP op x y H).H=H:=by
 cases x <;> cases y <;> try rfl
 cases op <;> rfl
theorem Ty (A:List V) (H:Hp) (n:Nat) (o:LO) (h:LK.isW (.lo o)=false) (h2:LK.isA (.lo o)=false):(Ae A H n o).H=H:=by
 cases o <;> simp only [LK.isW,LK.isA,reduceCtorEq] at h h2
 case ari op x y=>exact Acy _ _ _ _
 case un op x=>simp only [Ae];cases op <;> cases hx:x.ev A <;> rfl
 case len k x => simp only [Ae]; repeat' split
                 all_goals rfl
 case slarr m sz x lo hi => simp only [Ae]; repeat' split
                            all_goals rfl
 case mlook s z ok m k=>simp only [Ae,KN];split <;> (try rfl);split <;> rfl
 case nxt x => simp only [Ae]; repeat' split
               all_goals rfl
 all_goals (try rfl)
 all_goals (simp only [Ae];split <;> rfl)
theorem Pu (A:List V) (n:Nat) (o:LO) (h:LK.isA (.lo o)=true):(∃ H,(Ae A H n o).pre)→∃ c,∀ H,(Ae A H n o).H=(n,c) :: H:=by
 rintro ⟨H0,hp⟩
 cases o <;> simp only [LK.isA,Bool.false_eq_true] at h
 case mksl sz b z l c =>
  simp only [Ae] at hp ⊢
  split at hp
  ·rename_i k a k' b' h1 h2
   exact ⟨.ar sz b'.toNat (fun _=>z.v 0),fun H=>rfl⟩
  ·exact hp.elim
 all_goals exact ⟨_,fun H=>rfl⟩
def bs (N m p:Nat) (k:LK):Nat:=N + 16 * (if k.isW then m + p else p)
def hx (al:List (Nat × Nat × V)) (P bf:Nat) (E:Hp):Hp:=(al.filter (fun q=>decide (P≤q.1) && bf.testBit q.1)).map (·.2) ++ E
def ET (A:List V) (b:Nat) (o:LO) (v:V) (wm bf:Nat) (al:List (Nat × Nat × V)):List (Nat × Hp)→Prop
 | []=>True
 | (P,E) :: r=>(bif (bf &&& wm) >>> P == 0 then ((Ae A (hx al P bf E) b o).pre∧(Ae A (hx al P bf E) b o).v=v) else True)∧ET A b o v wm bf al r
def SV (A:List V) (b:Nat) (k:LK) (v:V) (wm bf:Nat) (al:List (Nat × Nat × V)) (bd:List (Nat × Hp)):Prop :=
 match k with
 | .lo o=>bif k.isP || k.isW then True else ET A b o v wm bf al bd
 | _=>True
def CX (lo hi:Nat):Hp→Prop
 | []=>True
 | (i,_) :: r=>(i < lo ∨ hi≤i)∧CX lo hi r
def AX (M:Seat) (A:List V) (H:Hp) (b:Nat) (k:LK) (C:V→Hp→Prop):Prop :=
 match k with
 | .lo o=>(Ae A H b o).pre∧C (Ae A H b o).v (Ae A H b o).H
 | .call f xs=>∃ v H',AR M f (xs.map (X.ev A)) H b (fun v' H''=>v'=v∧H''=H')∧C v H'
 | .dyn x xs=>∃ v H',Eo M (x.ev A) (xs.map (X.ev A)) H b (fun v' H''=>v'=v∧H''=H')∧C v H'
def AJ (M:Seat) (K:List V→Hp→Prop) (m N wm:Nat):List DOp→Nat→List V→Hp→List (Nat × Hp)→List (Nat × Nat × V)→Prop
 | [],_,A,H,_,_=>K A H
 | ⟨_, bf, ⟨d, k, none⟩⟩ :: r, p, A, H, bd, al =>
   AX M A H (bs N m p k) k (fun v H'=>(SV A (bs N m p k) k v wm bf al bd∧(bif k.isW then CX (N + 16 * p) (N + 16 * m) H' else True)) ∧
    AJ M K m N wm r (p + 1) (put A d v) H' (bif k.isW then (p + 1,H') :: bd else bd) (bif k.isA then (p,bs N m p k,hget H' (bs N m p k)) :: al else al))
 | ⟨_, bf, ⟨d, k, some (t, b0)⟩⟩ :: r, p, A, H, bd, al =>
   match A.getD t .junk with
   | .bool b'=>(b'=b0→AX M A H (bs N m p k) k (fun v H'=>(SV A (bs N m p k) k v wm bf al bd∧(bif k.isW then CX (N + 16 * p) (N + 16 * m) H' else True)) ∧
    AJ M K m N wm r (p + 1) (put A d v) H' (bif k.isW then (p + 1,H') :: bd else bd) (bif k.isA then (p,bs N m p k,hget H' (bs N m p k)) :: al else al))) ∧
    (b' = !b0→AJ M K m N wm r (p + 1) (put A d (.tup .fnil)) H (bif k.isW then (p + 1,H) :: bd else bd) al)
   | .tup _=>AJ M K m N wm r (p + 1) (put A d (.tup .fnil)) H (bif k.isW then (p + 1,H) :: bd else bd) al
   | _=>False
structure Pl where
 A:Nat→List V
 H:Nat→Hp
 x:Nat→Bool
 v:Nat→V
def FW (L:List DOp) (p:Nat):LOp:=((L[p]?).map (·.o)).getD ⟨none,.lo (.mv (.c .junk)),none⟩
def CG (L:List DOp) (p:Nat):LK:=(FW L p).k
def HO (L:List DOp) (p:Nat):Option Nat:=(FW L p).d
def BY (L:List DOp) (N:Nat) (F:Pl):Nat→List (Nat × Nat × V)
 | 0=>[]
 | p + 1=>bif (CG L p).isA && F.x p then (p,bs N L.length p (CG L p),hget (F.H (p + 1)) (bs N L.length p (CG L p))) :: BY L N F p else BY L N F p
def C2 (L:List DOp) (F:Pl):Nat→List (Nat × Hp)
 | 0=>[(0,F.H 0)]
 | p + 1=>bif (CG L p).isW then (p + 1,F.H (p + 1)) :: C2 L F p else C2 L F p
structure PlanAt (M:Seat) (L:List DOp) (N wm:Nat) (F:Pl) (p:Nat):Prop where
 g:match (FW L p).g with
  | none=>F.x p=true
  | some (t, b0) => match (F.A p).getD t .junk with
    | .bool b'=>F.x p=(b' == b0)
    | .tup _=>F.x p=false
    | _=>False
 run:F.x p=true→AX M (F.A p) (F.H p) (bs N L.length p (CG L p)) (CG L p) (fun v H'=>v=F.v p∧H'=F.H (p + 1)) ∧
  SV (F.A p) (bs N L.length p (CG L p)) (CG L p) (F.v p) wm (BO L p) (BY L N F p) (C2 L F p)∧(bif (CG L p).isW then CX (N + 16 * p) (N + 16 * L.length) (F.H (p + 1)) else True)
 skip:F.x p=false→F.v p = .tup .fnil∧F.H (p + 1)=F.H p
 next:F.A (p + 1)=put (F.A p) (HO L p) (F.v p)
structure Same (F G:Pl) (p:Nat):Prop where
 A:∀ i,i≤p→G.A i=F.A i
 H:∀ i,i≤p→G.H i=F.H i
 x:∀ i,i < p→G.x i=F.x i
 v:∀ i,i < p→G.v i=F.v i
theorem DJ {L:List DOp} {N:Nat} {F G:Pl}:∀ {p q:Nat},Same F G q→p≤q→BY L N G p=BY L N F p
 | 0,_,_,_=>rfl
 | p + 1,q,h,hq=>by simp only [BY,h.x p Aa,h.H (p + 1) hq,DJ h (by omega:p≤q)]
theorem DO {L:List DOp} {F G:Pl}:∀ {p q:Nat},Same F G q→p≤q→C2 L G p=C2 L F p
 | 0,_,h,_=>by simp only [C2,h.H 0 Aa]
 | p + 1,q,h,hq=>by simp only [C2,h.H (p + 1) hq,DO h (by omega:p≤q)]
theorem PlanAt.same {M:Seat} {L:List DOp} {N wm:Nat} {F G:Pl} {p:Nat} (h:Same F G (p + 1)) (hp:PlanAt M L N wm F p):PlanAt M L N wm G p:=by
 obtain ⟨h1,h2,h3,h4⟩:=hp
 have e1:=h.A p Aa
 have e2:=h.H p Aa
 have e3:=h.A (p + 1) Aa
 have e4:=h.H (p + 1) Aa
 have e5:=h.x p Aa
 have e6:=h.v p Aa
 have e7:=DJ (L:=L) (N:=N) h (by omega:p≤p + 1)
 have e8:=DO (L:=L) h (by omega:p≤p + 1)
 refine ⟨?_,?_,?_,?_⟩
 ·rw [e1,e5];exact h1
 ·rw [e1,e2,e4,e5,e6,e7,e8];exact h2
 ·rw [e2,e4,e5,e6];exact h3
 ·rw [e1,e3,e6];exact h4
theorem NB {M:Seat} {K:List V→Hp→Prop} {L:List DOp} {N wm:Nat}:∀ (r:List DOp) (p:Nat) (F:Pl),(∀ i,L[p + i]?=r[i]?)→p + r.length=L.length →
 AJ M K L.length N wm r p (F.A p) (F.H p) (C2 L F p) (BY L N F p)→∃ G,Same F G p∧(∀ i,p≤i→i < L.length→PlanAt M L N wm G i)∧K (G.A L.length) (G.H L.length)
 | [], p, F, _, hl, h => by
   simp only [AJ] at h
   have:p=L.length:=N8
   subst this
   exact ⟨F,⟨fun _ _=>rfl,fun _ _=>rfl,fun _ _=>rfl,fun _ _=>rfl⟩,fun i h1 h2=>by omega,h⟩
 | D :: r, p, F, hL, hl, h => by
   have hp:L[p]?=some D:=by simpa using hL 0
   have hr:∀ i,L[p + 1 + i]?=r[i]?:=fun i=>by
    have:=hL (i + 1)
    have e1:p + (i + 1)=p + 1 + i:=Aa
    rw [e1] at this
    simpa using this
   have hll:p + 1 + r.length=L.length:=by simp only [List.length_cons] at hl;omega
   have hop:FW L p=D.o:=by simp [FW,hp]
   have hbf:BO L p=D.bf:=by simp [BO,hp]
   have key:∀ (x:Bool) (v:V) (H':Hp),
    (let G:Pl:={ A:=fun i=>if i=p + 1 then put (F.A p) (HO L p) v else F.A i,H:=fun i=>if i=p + 1 then H' else F.H i,x:=fun i=>if i=p then x else F.x i,v:=fun i=>if i=p then v else F.v i }
     PlanAt M L N wm G p∧AJ M K L.length N wm r (p + 1) (G.A (p + 1)) (G.H (p + 1)) (C2 L G (p + 1)) (BY L N G (p + 1))) →
    ∃ G,Same F G p∧(∀ i,p≤i→i < L.length→PlanAt M L N wm G i)∧K (G.A L.length) (G.H L.length):=by
    rintro x v H' ⟨h1,h2⟩
    obtain ⟨G,hs,hall,hK⟩:=NB r (p + 1) _ hr hll h2
    refine ⟨G,⟨fun i hi=>?_,fun i hi=>?_,fun i hi=>?_,fun i hi=>?_⟩,fun i h3 h4=>?_,hK⟩
    ·rw [hs.A i Aa];show (if _ then _ else _)=_;rw [if_neg Aa]
    ·rw [hs.H i Aa];show (if _ then _ else _)=_;rw [if_neg Aa]
    ·rw [hs.x i Aa];show (if _ then _ else _)=_;rw [if_neg Aa]
    ·rw [hs.v i Aa];show (if _ then _ else _)=_;rw [if_neg Aa]
    ·by_cases hip:i=p
     ·subst hip;exact h1.same hs
     ·exact hall i Aa h4
   have same0:∀ (x:Bool) (v:V) (H':Hp),Same F { A:=fun i=>if i=p + 1 then put (F.A p) (HO L p) v else F.A i,H:=fun i=>if i=p + 1 then H' else F.H i,x:=fun i=>if i=p then x else F.x i,v:=fun i=>if i=p then v else F.v i } p:=fun x v H' =>
    ⟨fun i hi=>if_neg Aa,fun i hi=>if_neg Aa,fun i hi=>if_neg Aa,fun i hi=>if_neg Aa⟩
   have doIt:(match D.o.g with
    | none=>True
    | some (t, b0) => match (F.A p).getD t .junk with
      | .bool b'=>b'=b0
      | _=>False) →
    AX M (F.A p) (F.H p) (bs N L.length p D.o.k) D.o.k (fun v H'=>(SV (F.A p) (bs N L.length p D.o.k) D.o.k v wm D.bf (BY L N F p) (C2 L F p)∧(bif D.o.k.isW then CX (N + 16 * p) (N + 16 * L.length) H' else True)) ∧
     AJ M K L.length N wm r (p + 1) (put (F.A p) D.o.d v) H' (bif D.o.k.isW then (p + 1,H') :: C2 L F p else C2 L F p) (bif D.o.k.isA then (p,bs N L.length p D.o.k,hget H' (bs N L.length p D.o.k)) :: BY L N F p else BY L N F p)) →
    ∃ G,Same F G p∧(∀ i,p≤i→i < L.length→PlanAt M L N wm G i)∧K (G.A L.length) (G.H L.length):=by
    intro hg ho
    have:∃ v H',AX M (F.A p) (F.H p) (bs N L.length p D.o.k) D.o.k (fun v' H''=>v'=v∧H''=H')∧(SV (F.A p) (bs N L.length p D.o.k) D.o.k v wm D.bf (BY L N F p) (C2 L F p)∧(bif D.o.k.isW then CX (N + 16 * p) (N + 16 * L.length) H' else True)) ∧
     AJ M K L.length N wm r (p + 1) (put (F.A p) D.o.d v) H' (bif D.o.k.isW then (p + 1,H') :: C2 L F p else C2 L F p) (bif D.o.k.isA then (p,bs N L.length p D.o.k,hget H' (bs N L.length p D.o.k)) :: BY L N F p else BY L N F p):=by
     unfold AX at ho ⊢
     cases hk:D.o.k with
     | lo o=>rw [hk] at ho;exact ⟨_,_,⟨ho.1,rfl,rfl⟩,ho.2⟩
     | call f xs=>rw [hk] at ho;obtain ⟨v,H',h1,h2⟩:=ho;exact ⟨v,H',⟨v,H',h1,rfl,rfl⟩,h2⟩
     | dyn x xs=>rw [hk] at ho;obtain ⟨v,H',h1,h2⟩:=ho;exact ⟨v,H',⟨v,H',h1,rfl,rfl⟩,h2⟩
    obtain ⟨v,H',h1,⟨h2,h2'⟩,h3⟩:=this
    refine key true v H' ⟨⟨?_,?_,?_,?_⟩,?_⟩
    ·simp only [hop,if_true,if_neg (by omega:¬ p=p + 1)]
     cases hgs:D.o.g with
     | none=>trivial
     | some q =>
       obtain ⟨t,b0⟩:=q
       rw [hgs] at hg
       simp only at hg ⊢
       cases hA:(F.A p).getD t .junk <;> rw [hA] at hg <;> simp only at hg
       subst hg
       simp
    ·intro _
     have e7:=DJ (L:=L) (N:=N) (same0 true v H') (Nat.le_refl p)
     have e8:=DO (L:=L) (same0 true v H') (Nat.le_refl p)
     rw [e7,e8]
     simp only [CG,hop,hbf,if_true,if_neg (by omega:¬ p=p + 1)]
     exact ⟨h1,h2,h2'⟩
    ·intro hf;simp at hf
    ·simp only [if_true,if_neg (by omega:¬ p=p + 1)]
    ·have e7:=DJ (L:=L) (N:=N) (same0 true v H') (Nat.le_refl p)
     have e8:=DO (L:=L) (same0 true v H') (Nat.le_refl p)
     simp only [BY,C2,e7,e8]
     simp only [CG,HO,hop,if_true,Bool.and_true]
     exact h3
   have skipIt:(match D.o.g with
    | none=>False
    | some (t, b0) => match (F.A p).getD t .junk with
      | .bool b'=>b' = !b0
      | .tup _=>True
      | _=>False) →
    AJ M K L.length N wm r (p + 1) (put (F.A p) D.o.d (.tup .fnil)) (F.H p) (bif D.o.k.isW then (p + 1,F.H p) :: C2 L F p else C2 L F p) (BY L N F p) →
    ∃ G,Same F G p∧(∀ i,p≤i→i < L.length→PlanAt M L N wm G i)∧K (G.A L.length) (G.H L.length):=by
    intro hg h3
    refine key false (.tup .fnil) (F.H p) ⟨⟨?_,?_,?_,?_⟩,?_⟩
    ·simp only [hop,if_true,if_neg (by omega:¬ p=p + 1)]
     cases hgs:D.o.g with
     | none=>rw [hgs] at hg;exact hg.elim
     | some q =>
       obtain ⟨t,b0⟩:=q
       rw [hgs] at hg
       simp only at hg ⊢
       cases hA:(F.A p).getD t .junk <;> rw [hA] at hg <;> simp only at hg
       ·subst hg
        cases b0 <;> rfl
       ·trivial
    ·intro hf;simp at hf
    ·intro _
     simp only [if_true,if_neg (by omega:¬ p=p + 1)]
     exact ⟨trivial,trivial⟩
    ·simp only [if_true,if_neg (by omega:¬ p=p + 1)]
    ·have e7:=DJ (L:=L) (N:=N) (same0 false (.tup .fnil) (F.H p)) (Nat.le_refl p)
     have e8:=DO (L:=L) (same0 false (.tup .fnil) (F.H p)) (Nat.le_refl p)
     simp only [BY,C2,e7,e8]
     simp only [CG,HO,hop,if_true,Bool.and_false,cond_false]
     exact h3
   obtain ⟨ix,bf,⟨d,k,g⟩⟩:=D
   cases g with
   | none=>exact doIt trivial (by simpa only [AJ] using h)
   | some q =>
     obtain ⟨t,b0⟩:=q
     simp only [AJ] at h
     split at h
     ·rename_i b' hb'
      by_cases hb:b'=b0
      ·exact doIt (by simp only [hb'];exact hb) (h.1 hb)
      ·have hb2:b' = !b0:=by
        clear h doIt skipIt key same0
        revert hb
        cases b' <;> cases b0 <;> simp
       exact skipIt (by simp only [hb'];exact hb2) (h.2 hb2)
     ·rename_i fs hb'
      exact skipIt (by simp only [hb']) h
     ·exact h.elim
end Mv
