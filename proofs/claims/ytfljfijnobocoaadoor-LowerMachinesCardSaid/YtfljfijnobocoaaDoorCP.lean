/- A part. -/
import Derived.Test.YtfljfijnobocoaaDoorCO
set_option linter.all false
namespace Mv
open Go
variable {M:Seat}
def XS (H Hc:Hp):Prop:=∀ id,Af H id=true→Af Hc id=true∧hget Hc id=hget H id
def CT (Hc H:Hp):Hp:=Hc.filter (fun q=>!Af H q.1)
theorem Dm (j:Nat):∀ H K:Hp,Af (H ++ K) j=(Af H j || Af K j)
 | [],_=>by simp [Af]
 | (i,v) :: r,K=>by simp [Af,Dm j r K,Bool.or_assoc]
theorem Ez {j:Nat}:∀ {H K:Hp},Af H j=true→hget (H ++ K) j=hget H j
 | [],_,h=>by simp [Af] at h
 | (i, v) :: r, K, h => by
   simp only [List.cons_append,hget]
   split
   ·rfl
   ·rename_i hij
    simp only [Pi,beq_iff_eq,hij,false_or] at h
    exact Ez h
theorem Ec {j:Nat}:∀ {H K:Hp},Af H j=false→hget (H ++ K) j=hget K j
 | [],_,_=>rfl
 | (i, v) :: r, K, h => by
   simp only [Af,Bool.or_eq_false_iff,beq_eq_false_iff_ne,ne_eq] at h
   simp only [List.cons_append,hget,if_neg h.1]
   exact Ec h.2
theorem D5 (H:Hp) (j:Nat):∀ Hc:Hp,Af (CT Hc H) j=(Af Hc j && !Af H j)
 | []=>rfl
 | (i, v) :: r => by
   have ih:=D5 H j r
   unfold CT at ih ⊢
   rw [List.filter_cons]
   by_cases hij:i=j
   ·subst hij
    cases h:Af H i with
    | true=>simp only [Bool.not_true,Bool.and_false,SR];rw [ih,h];simp
    | false=>simp [Af]
   ·have hb:(i == j)=false:=by simpa using hij
    split
    ·simp only [Af,hb,Bool.false_or];exact ih
    ·simp only [Af,hb,Bool.false_or];exact ih
theorem DB (H:Hp) (j:Nat) (hj:Af H j=false):∀ Hc:Hp,hget (CT Hc H) j=hget Hc j
 | []=>rfl
 | (i, v) :: r => by
   have ih:=DB H j hj r
   unfold CT at ih ⊢
   rw [List.filter_cons]
   by_cases hij:i=j
   ·subst hij
    simp [hj,hget]
   ·split
    ·simp only [hget,if_neg hij];exact ih
    ·simp only [hget,if_neg hij];exact ih
theorem Inv.sub {c:Ctx} {e:Env} {H Hc:Hp} (h:Inv M c e Hc) (hs:XS H Hc):Inv M c e H:=by
 refine ⟨h.ev,fun j hj=>?_,fun i j hi hj=>h.inj i j (hs i hi).1 (hs j hj).1,h.imo,h.imb,h.rb,h.keep,h.low,h.gs,h.φ,h.τ⟩
 obtain ⟨h1,h2⟩:=hs j hj
 rw [← h2]
 exact h.blk j h1
theorem Inv.narrow {c:Ctx} {e:Env} {H Hc:Hp} (h:Inv M c e Hc) (hs:XS H Hc):Inv M ⟨e,fun b=>∃ id,Af H id=true∧e.ρ id=b,0⟩ e H:=by
 have h':=h.sub hs
 refine ⟨Ev.refl _ _,fun j hj=>?_,h'.inj,fun b hb=>.inl hb,h'.imb,h'.rb,fun b hb=>hb,fun id hid=>absurd hid (Nat.not_lt_zero _),h'.gs,h'.φ,h'.τ⟩
 obtain ⟨h1,h2,h3,_⟩:=h'.blk j hj
 exact ⟨h1,h2,h3,.inl ⟨j,hj,rfl⟩⟩
theorem Inv.widen {c:Ctx} {e e':Env} {H H' Hc:Hp} (h:Inv M c e Hc) (hs:XS H Hc) (hle:e.le e') (h':Inv M ⟨e,fun b=>∃ id,Af H id=true∧e.ρ id=b,0⟩ e' H') :
 Inv M c e' (H' ++ CT Hc H)∧∀ id,Af Hc id=true→Af H id=false→Af H' id=false:=by
 have hO:∀ b,(∃ id,Af H id=true∧e.ρ id=b)→c.O b ∨ c.e0.w.heap.size≤b:=by
  rintro b ⟨id,h1,rfl⟩
  exact (h.blk id (hs id h1).1).2.2.2
 have hnew:∀ b,(∃ id,Af H id=true∧e.ρ id=b) ∨ e.w.heap.size≤b→c.O b ∨ c.e0.w.heap.size≤b:=by
  rintro b (hb | hb)
  ·exact hO b hb
  ·have:=h.ev.size;exact .inr Aa
 have hsep:∀ i j,Af Hc i=true→Af H i=false→Af H' j=true→e.ρ i ≠ e'.ρ j:=by
  intro i j hi hn hj he
  rcases (h'.blk j hj).2.2.2 with hh | hh
  ·obtain ⟨i',h1,h2⟩:=hh
   have:i=i':=h.inj i i' hi (hs i' h1).1 (he.trans h2.symm)
   rw [this,h1] at hn
   cases hn
  ·have hh:e.w.heap.size≤e'.ρ j:=hh
   have:=h.rb i (h.blk i hi).1
   omega
 have hold:∀ id,Af (CT Hc H) id=true→Af Hc id=true∧Af H id=false∧hget (CT Hc H) id=hget Hc id:=by
  intro id hid
  rw [D5] at hid
  simp only [Ww] at hid
  exact ⟨hid.1,hid.2,DB _ _ hid.2 _⟩
 have hρ:∀ i,e.D i→e'.ρ i=e.ρ i:=fun i hi=>(hle.D i hi).2
 have hsame:∀ id,Af Hc id=true→Af H id=false→e'.w.heap[e.ρ id]?=e.w.heap[e.ρ id]?:=fun id h1 h2 =>
  h'.ev.frame _ (h.rb id (h.blk id h1).1) (fun ⟨i',k1,k2⟩=>by
   have:i'=id:=h.inj i' id (hs i' k1).1 h1 k2
   rw [this,h2] at k1;cases k1)
 refine ⟨⟨h.ev.trans h'.ev (fun b hb=>hO b hb),?_,?_,?_,h'.imb,h'.rb,fun b hb=>h'.keep b (h.keep b hb),?_,h'.gs,h'.φ,h'.τ⟩,?_⟩
 ·intro id hid
  cases hh:Af H' id with
  | true =>
    obtain ⟨q1,q2,q3,q4⟩:=h'.blk id hh
    rw [Ez hh]
    exact ⟨q1,q2,q3,hnew _ q4⟩
  | false =>
    rw [Dm,hh,Bool.false_or] at hid
    obtain ⟨k1,k2,k3⟩:=hold id hid
    obtain ⟨q1,q2,q3,q4⟩:=h.blk id k1
    rw [Ec hh,k3,hρ id q1]
    refine ⟨(hle.D id q1).1,BA hle q1 (hsame id k1 k2) q2,fun him=>?_,q4⟩
    rcases h'.imo _ him with hm | ⟨i',h1,h2⟩ | hm
    ·exact q3 hm
    ·have:i'=id:=h.inj i' id (hs i' h1).1 k1 h2
     rw [this,k2] at h1;cases h1
    ·have hm:e.w.heap.size≤e.ρ id:=hm
     have:=h.rb id q1
     omega
 ·intro i j hi hj hij
  have cl:∀ i,Af (H' ++ CT Hc H) i=true→Af H' i=true ∨ (Af H' i=false∧Af Hc i=true∧Af H i=false):=fun i hi=>by
   cases hh:Af H' i with
   | true=>exact .inl rfl
   | false =>
     rw [Dm,hh,Bool.false_or] at hi
     obtain ⟨k1,k2,_⟩:=hold i hi
     exact .inr ⟨rfl,k1,k2⟩
  rcases cl i hi with h1 | ⟨_,h1,h2⟩ <;> rcases cl j hj with h3 | ⟨_,h3,h4⟩
  ·exact h'.inj i j h1 h3 hij
  ·rw [hρ j (h.blk j h3).1] at hij
   exact absurd hij.symm (hsep j i h3 h4 h1)
  ·rw [hρ i (h.blk i h1).1] at hij
   exact absurd hij (hsep i j h1 h2 h3)
  ·rw [hρ i (h.blk i h1).1,hρ j (h.blk j h3).1] at hij
   exact h.inj i j h1 h3 hij
 ·intro b hb
  rcases h'.imo b hb with hm | hm | hm
  ·exact h.imo b hm
  ·exact .inr (hnew b (.inl hm))
  ·exact .inr (hnew b (.inr hm))
 ·intro id hid
  obtain ⟨h1,h2⟩:=h.low id hid
  exact ⟨(hle.D id h1).1,(hρ id h1).trans h2⟩
 ·intro id h1 h2
  cases hh:Af H' id with
  | false=>rfl
  | true=>exact absurd (hρ id (h.blk id h1).1).symm (hsep id id h1 h2 hh)
theorem N9 (a:Act) (d:Option Nat) (x:Value) (t:Nat):(a.put d x).tmps.getD t undef=if d=some t∧t < a.tmps.size then x else a.tmps.getD t undef:=by
 cases d with
 | none=>simp [Act.put]
 | some i =>
   simp only [Act.put,Option.some.injEq]
   by_cases hit:i=t
   ·subst hit
    by_cases hl:i < a.tmps.size
    ·simp [hl]
    ·simp [hl]
   ·simp [Array.getElem?_setIfInBounds_ne hit,hit]
theorem KL (A:List V) (d:Option Nat) (v:V) (t:Nat):(put A d v).getD t .junk=if d=some t∧t < A.length then v else A.getD t .junk:=by
 cases d with
 | none=>simp [put]
 | some i =>
   simp only [put,Option.some.injEq]
   by_cases hit:i=t
   ·subst hit
    by_cases hl:i < A.length
    ·simp [List.getD,hl]
    ·simp [List.getD,hl]
   ·simp [List.getD,List.getElem?_set_ne hit,hit]
theorem Qm (L:List DOp) (j:Nat):∀ (es:List Edge) (b:Nat),(es.foldl (fun b e=>if Region.binds .any e then b ||| (2 ^ BD L e.on) ||| BO L (BD L e.on) else b) b).testBit j=true →
 b.testBit j=true ∨ ∃ e ∈ es,Region.binds .any e=true∧(j=BD L e.on ∨ (BO L (BD L e.on)).testBit j=true)
 | [],b,h=>.inl h
 | e :: es, b, h => by
   rw [List.foldl_cons] at h
   rcases Qm L j es _ h with h1 | ⟨e',h1,h2⟩
   ·split at h1
    ·rename_i hb
     rw [Nat.testBit_or,Nat.testBit_or,Bool.or_eq_true,Bool.or_eq_true] at h1
     rcases h1 with (h1 | h1) | h1
     ·exact .inl h1
     ·rw [Nat.testBit_two_pow] at h1
      exact .inr ⟨e,by simp,hb,.inl (by simpa using Eq.symm (by simpa using h1:BD L e.on=j))⟩
     ·exact .inr ⟨e,by simp,hb,.inr h1⟩
    ·exact .inl h1
   ·exact .inr ⟨e',by simp [h1],h2⟩
structure DFact (M:Seat) (ops:Array Oper) (L:List DOp) (p:Nat) (o:Oper):Prop where
 op:ops[((L[p]?).map (·.ix)).getD 0]?=some o
 dst:o.dst=HO L p
 k:Pz M o.op (CG L p)=true
 g:N1 ops o.guard (FW L p).g=true
 pos:BD L (((L[p]?).map (·.ix)).getD 0)=p
 bf:∀ j,(BO L p).testBit j=true→∃ e ∈ o.after.toList,Region.binds .any e=true∧(j=BD L e.on ∨ (BO L (BD L e.on)).testBit j=true)
 lt:∀ e ∈ o.after.toList,Region.binds .any e=true→BD L e.on < p
 w:(CG L p).isW=true→∀ j,j < p→(BO L p).testBit j=true
 ts:∀ t ∈ (FW L p).ts,∀ j,j < L.length→HO L j=some t→(BO L p).testBit j=true ∨ (p < j∧(BO L j).testBit p=true) ∨ j=p
theorem Akg {p j:Nat} (h:j < p):(2 ^ p - 1).testBit j=true:=by
 rw [Nat.testBit_two_pow_sub_one];simpa using h
theorem Oy {ops:Array Oper} {L:List DOp} {p:Nat} (h:SX M ops L p=true):∃ o,DFact M ops L p o:=by
 unfold SX at h
 split at h
 ·cases h
 rename_i d hd
 split at h
 ·cases h
 rename_i o ho
 simp only [Ww,decide_eq_true_eq,beq_iff_eq,List.all_eq_true,Bool.or_eq_true] at h
 obtain ⟨⟨⟨⟨⟨⟨⟨h1,h2⟩,h3⟩,h4⟩,h5⟩,h6⟩,h7⟩,h8⟩:=h
 have e1:FW L p=d.o:=by simp [FW,hd]
 have e2:BO L p=d.bf:=by simp [BO,hd]
 have e3:((L[p]?).map (·.ix)).getD 0=d.ix:=by simp [hd]
 refine ⟨o,by rw [e3];exact ho,by rw [HO,e1];exact h1,by rw [CG,e1];exact h2,by rw [e1];exact h3,by rw [e3];exact h4,fun j hj=>?_,fun e he hb=>?_,fun hw j hj=>?_,fun t ht j hj hdj=>?_⟩
 ·rw [e2,h5] at hj
  rcases Qm L j _ _ hj with h | h
  ·simp at h
  ·exact h
 ·rcases h6 e he with h | h
  ·rw [hb] at h;cases h
  ·exact h
 ·rw [CG,e1] at hw
  rcases h7 with h | h
  ·rw [hw] at h;cases h
  ·rw [e2,h];exact Akg hj
 ·rw [e1] at ht
  have hdj':(L[j]?).bind (fun x=>x.o.d)=some t:=by
   have:=hdj
   simp only [HO,FW] at this
   cases hL:L[j]? with
   | none=>rw [hL] at this;simp at this
   | some q=>rw [hL] at this;simpa using this
  rcases h8 t ht j (List.mem_range.2 hj) with ((h | h) | h) | h
  ·rw [hdj'] at h;simp at h
  ·rw [e2];exact .inl h
  ·exact .inr (.inl h)
  ·exact .inr (.inr h)
structure DFacts (M:Seat) (ops:Array Oper) (L:List DOp):Prop where
 mixed:M.P.follows .mixedOrders=true
 len:L.length=ops.size
 all:∀ i,i < ops.size→BD L i < L.length
 at':∀ p,p < L.length→∃ o,DFact M ops L p o
 uni:∀ p q t,p < L.length→q < L.length→HO L p=some t→HO L q=some t→p=q
theorem JQ {ops:Array Oper} {L:List DOp} (h:Xy M ops L=true):DFacts M ops L:=by
 unfold Xy at h
 simp only [Lc6,beq_iff_eq,List.mem_range,decide_eq_true_eq,Bool.or_eq_true] at h
 obtain ⟨⟨⟨⟨h1,h2⟩,h3⟩,h4⟩,h5⟩:=h
 refine ⟨h1,h2,fun i hi=>by rw [h2];exact h3 i hi,fun p hp=>Oy (h4 p hp),fun p q t hp hq hdp hdq=>?_⟩
 have e:∀ j,HO L j=some t→(L[j]?).bind (fun x=>x.o.d)=some t:=fun j hj=>by
  simp only [HO,FW] at hj
  cases hL:L[j]? with
  | none=>rw [hL] at hj;simp at hj
  | some q=>rw [hL] at hj;simpa using hj
 rcases h5 p hp q hq with h | h
 ·exact h
 ·rw [e p hdp,e q hdq] at h
  simp at h
theorem JH {L:List DOp} {i:Nat} (h:BD L i < L.length):((L[BD L i]?).map (·.ix)).getD 0=i:=by
 unfold BD at h ⊢
 have:=List.findIdx_getElem (xs:=L) (p:=fun d=>d.ix == i) (w:=h)
 rw [List.getElem?_eq_getElem h]
 simpa using this
section
variable {M:Seat} {ops:Array Oper} {L:List DOp} {N wm:Nat} {F:Pl} {c:Ctx}
def CZ (L:List DOp) (p:Nat):Nat:=((L[p]?).map (·.ix)).getD 0
def lst (L:List DOp) (S:Array Bool) (p:Nat):Prop:=S.getD (CZ L p) false=true
def DG (L:List DOp) (N p:Nat):Nat:=bs N L.length p (CG L p)
structure Plan (M:Seat) (ops:Array Oper) (L:List DOp) (N wm:Nat) (F:Pl):Prop where
 D:DFacts M ops L
 all:∀ p,p < L.length→PlanAt M L N wm F p
 ids0:∀ id,Af (F.H 0) id=true→id < N
theorem Zw (hD:DFacts M ops L):∀ (n p:Nat),p≤n→p < L.length→∀ j,(BO L p).testBit j=true→j < p:=by
 intro n
 induction n with
 | zero =>
   intro p hp hl j hj
   obtain ⟨o,ho⟩:=hD.at' p hl
   obtain ⟨e,he,hb,h⟩:=ho.bf j hj
   have:=ho.lt e he hb
   omega
 | succ n ih =>
   intro p hp hl j hj
   obtain ⟨o,ho⟩:=hD.at' p hl
   obtain ⟨e,he,hb,h⟩:=ho.bf j hj
   have h1:=ho.lt e he hb
   rcases h with rfl | h
   ·exact h1
   ·have:=ih (BD L e.on) Aa Aa j h
    omega
theorem DR (hP:Plan M ops L N wm F):∀ p,p≤L.length→(F.A p).length=(F.A 0).length
 | 0,_=>rfl
 | p + 1, h => by
   rw [(hP.all p Aa).next]
   have:=DR hP p Aa
   cases hd:HO L p with
   | none=>simpa [put] using this
   | some i=>simpa [put] using this
theorem Px (hP:Plan M ops L N wm F) {t:Nat}:∀ p,p≤L.length→(∀ j,j < p→HO L j ≠ some t)→(F.A p).getD t .junk=(F.A 0).getD t .junk
 | 0,_,_=>rfl
 | p + 1, h, hn => by
   rw [(hP.all p Aa).next,KL,if_neg (fun hc=>hn p Aa hc.1)]
   exact Px hP p Aa (fun j hj=>hn j Aa)
theorem Ph (hP:Plan M ops L N wm F) {t j:Nat} (hj:HO L j=some t) (ht:t < (F.A 0).length):∀ p,p≤L.length→j < p→(F.A p).getD t .junk=F.v j
 | 0,_,h=>absurd h (Nat.not_lt_zero _)
 | p + 1, h, hjp => by
   rw [(hP.all p Aa).next,KL]
   by_cases hjp':j=p
   ·subst hjp'
    rw [if_pos ⟨hj,by rw [DR hP j Aa];exact ht⟩]
   ·rw [if_neg (fun hc=>hjp' (hP.D.uni j p t Aa Aa hj hc.1))]
    exact Ph hP hj ht p Aa Aa
theorem Le {lo hi:Nat}:∀ {H:Hp},CX lo hi H→∀ id,Af H id=true→id < lo ∨ hi≤id
 | [],_,id,h=>by simp [Af] at h
 | (i, v) :: r, hk, id, h => by
   simp only [CX] at hk
   simp only [Pi,beq_iff_eq] at h
   rcases h with rfl | h
   ·exact hk.1
   ·exact Le hk.2 id h
theorem VQ (hP:Plan M ops L N wm F) {p:Nat} (hp:p < L.length) (hw:(CG L p).isW=false) :
 F.H (p + 1)=if (CG L p).isA=true∧F.x p=true then (DG L N p,hget (F.H (p + 1)) (DG L N p)) :: F.H p else F.H p:=by
 have h:=hP.all p hp
 cases hx:F.x p with
 | false=>simp [(h.skip hx).2]
 | true =>
   obtain ⟨ho,_⟩:=h.run hx
   unfold AX at ho
   cases hk:CG L p with
   | lo o =>
     rw [hk] at ho hw
     simp only at ho
     obtain ⟨hpre,_,hH⟩:=ho
     by_cases hA:LK.isA (.lo o)=true
     ·obtain ⟨cc,hc⟩:=Pu (F.A p) (bs N L.length p (.lo o)) o hA ⟨_,hpre⟩
      rw [hc] at hH
      have hb:DG L N p=bs N L.length p (.lo o):=by simp [DG,hk]
      rw [if_pos ⟨hA,rfl⟩,hb,← hH]
      simp [hget]
     ·rw [if_neg (fun hc=>hA hc.1),← hH]
      exact (Ty _ _ _ _ hw (by simpa using hA))
   | call f xs=>rw [hk] at hw;cases hw
   | dyn x xs=>rw [hk] at hw;cases hw
theorem Eh {p:Nat} (hw:(CG L p).isW=false):DG L N p=N + 16 * p:=by simp [DG,bs,hw]
theorem HD {p:Nat} (hw:(CG L p).isW=true):DG L N p=N + 16 * (L.length + p):=by simp [DG,bs,hw]
theorem Aaa {k:LK} (h:k.isA=true):k.isW=false:=by
 cases k with
 | lo o=>cases o <;> simp_all [LK.isA,LK.isW]
 | call=>cases h
 | dyn=>cases h
theorem GD (hP:Plan M ops L N wm F):∀ p,p≤L.length→∀ id,Af (F.H p) id=true→id < N + 16 * p ∨ N + 16 * L.length≤id
 | 0,_,id,h=>.inl (hP.ids0 id h)
 | p + 1, hp, id, h => by
   have hpp:=hP.all p Aa
   by_cases hw:(CG L p).isW=true
   ·cases hx:F.x p with
    | false =>
      rw [(hpp.skip hx).2] at h
      rcases GD hP p Aa id h with h | h
      ·exact .inl Aa
      ·exact .inr h
    | true =>
      obtain ⟨_,_,h3⟩:=hpp.run hx
      rw [hw] at h3
      rcases Le h3 id h with h | h
      ·exact .inl Aa
      ·exact .inr h
   ·have hw:(CG L p).isW=false:=by simpa using hw
    rw [VQ hP Aa hw] at h
    split at h
    ·simp only [Pi,beq_iff_eq] at h
     rcases h with h | h
     ·rw [Eh hw] at h;exact .inl Aa
     ·rcases GD hP p Aa id h with h | h
      ·exact .inl Aa
      ·exact .inr h
    ·rcases GD hP p Aa id h with h | h
     ·exact .inl Aa
     ·exact .inr h
theorem JI:∀ {p:Nat} {q:Nat × Nat × V},q ∈ BY L N F p→∃ j,j < p∧(CG L j).isA=true∧F.x j=true∧q=(j,DG L N j,hget (F.H (j + 1)) (DG L N j))
 | 0,q,h=>by simp [BY] at h
 | p + 1, q, h => by
   simp only [BY] at h
   cases hc:(CG L p).isA && F.x p with
   | true =>
     rw [hc,cond_true,List.mem_cons] at h
     simp only [Bool.and_eq_true] at hc
     rcases h with rfl | h
     ·exact ⟨p,by omega,hc.1,hc.2,rfl⟩
     ·obtain ⟨j,h1,h2⟩:=JI h
      exact ⟨j,by omega,h2⟩
   | false =>
     rw [hc,cond_false] at h
     obtain ⟨j,h1,h2⟩:=JI h
     exact ⟨j,by omega,h2⟩
theorem KX {q:Nat × Hp}:∀ {p p':Nat},p≤p'→q ∈ C2 L F p→q ∈ C2 L F p'
 | p, 0, h, hq => by have : p = 0 := by omega
                     subst this;exact hq
 | p, p' + 1, h, hq => by
   by_cases he:p=p' + 1
   ·subst he;exact hq
   ·have:=KX (by omega:p≤p') hq
    simp only [C2]
    cases (CG L p').isW <;> simp [this]
structure DSt (M:Seat) (L:List DOp) (N:Nat) (F:Pl) (c:Ctx) (n:Nat) (S:Array Bool) (a:Act) (P:Nat) (e:Env) (Hc:Hp):Prop where
 sz:S.size=n
 cl:∀ p,p < L.length→lst L S p→∀ j,(BO L p).testBit j=true→lst L S j
 pre:∀ p,p < P→lst L S p
 now:∀ p,P≤p→p < L.length→(CG L p).isW=true→¬ lst L S p
 Pm:P≤L.length
 bd:(P,F.H P) ∈ C2 L F P
 inv:Inv M c e Hc
 sub:XS (F.H P) Hc
 al:∀ p,P≤p→p < L.length→lst L S p→(CG L p).isA=true→F.x p=true→Af Hc (DG L N p)=true∧hget Hc (DG L N p)=hget (F.H (p + 1)) (DG L N p)
 len:a.tmps.size=(F.A 0).length
 va:∀ p,p < L.length→lst L S p→∀ t,HO L p=some t→t < (F.A 0).length→RV e (F.v p) (a.tmps.getD t undef)
 vb:∀ t,(∀ p,p < L.length→lst L S p→HO L p ≠ some t)→RV e ((F.A 0).getD t .junk) (a.tmps.getD t undef)
 ids:∀ id,e.D id→id < N ∨ ∃ p,p < L.length∧lst L S p∧DG L N p≤id∧id < DG L N p + 16
 defs:a.defers=[]
theorem OO (hP:Plan M ops L N wm F) {n:Nat} {S:Array Bool} {a:Act} {P:Nat} {e:Env} {Hc:Hp} (h:DSt M L N F c n S a P e Hc) :
 ∀ q,P≤q→q≤L.length→(∀ j,P≤j→j < q→lst L S j)→XS (F.H q) Hc:=by
 intro q
 induction q with
 | zero => intro h1 _ _; have : P = 0 := by omega
           subst this;exact h.sub
 | succ q ih =>
   intro h1 h2 h3
   by_cases hPq:P=q + 1
   ·subst hPq;exact h.sub
   ·have hs:=ih Aa Aa (fun j hj hjq=>h3 j hj Aa)
    have hl:=h3 q Aa Aa
    have hw:(CG L q).isW=false:=by
     cases hw:(CG L q).isW with
     | false=>rfl
     | true=>exact absurd hl (h.now q Aa Aa hw)
    rw [VQ hP Aa hw]
    split
    ·rename_i hx
     obtain ⟨k1,k2⟩:=h.al q Aa Aa hl hx.1 hx.2
     intro id hid
     simp only [Af,hget] at hid ⊢
     by_cases he:DG L N q=id
     ·subst he;simp only [if_true];exact ⟨k1,k2⟩
     ·rw [if_neg he]
      simp only [Bool.or_eq_true,beq_iff_eq,he,false_or] at hid
      exact hs id hid
    ·exact hs
theorem M8 {E Hc:Hp} (h:XS E Hc):∀ (l:Hp),(∀ q ∈ l,Af Hc q.1=true∧hget Hc q.1=q.2)→XS (l ++ E) Hc
 | [],_=>h
 | (i, v) :: l, hl => by
   have ih:=M8 h l (fun q hq=>hl q (by simp [hq]))
   intro id hid
   simp only [List.cons_append,Af,hget] at hid ⊢
   by_cases he:i=id
   ·subst he;simp only [if_true];exact hl (i,v) B5
   ·rw [if_neg he]
    simp only [Bool.or_eq_true,beq_iff_eq,he,false_or] at hid
    exact ih id hid
theorem ZX {n:Nat} {S:Array Bool} {a:Act} {P:Nat} {e:Env} {Hc:Hp} (h:DSt M L N F c n S a P e Hc) {p:Nat} (hp:p < L.length) (hbf:∀ j,(BO L p).testBit j=true→lst L S j) :
 XS (hx (BY L N F p) P (BO L p) (F.H P)) Hc:=by
 refine M8 h.sub _ (fun q hq=>?_)
 rw [List.mem_map] at hq
 obtain ⟨q',hq',rfl⟩:=hq
 rw [List.mem_filter] at hq'
 obtain ⟨h1,h2⟩:=hq'
 obtain ⟨j,k1,k2,k3,rfl⟩:=JI h1
 simp only [Bool.and_eq_true,decide_eq_true_eq] at h2
 exact h.al j h2.1 Aa (hbf j h2.2) k2 k3
theorem KY {A:List V} {b:Nat} {o:LO} {v:V} {wm bf:Nat} {al:List (Nat × Nat × V)} {P:Nat} {E:Hp}:∀ {bd:List (Nat × Hp)},ET A b o v wm bf al bd→(P,E) ∈ bd→(bf &&& wm) >>> P=0 →
 (Ae A (hx al P bf E) b o).pre∧(Ae A (hx al P bf E) b o).v=v
 | [],_,h,_=>by simp at h
 | (P', E') :: r, h, hm, hz => by
   simp only [ET] at h
   rcases List.mem_cons.1 hm with he | hm
   ·cases he
    have:((bf &&& wm) >>> P == 0)=true:=by simp [hz]
    rw [this,cond_true] at h
    exact h.1
   ·exact KY h.2 hm hz
end
end Mv
