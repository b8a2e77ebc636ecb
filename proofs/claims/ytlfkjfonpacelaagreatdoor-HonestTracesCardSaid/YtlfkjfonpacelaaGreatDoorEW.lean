/- A part. -/
import Derived.Test.YtlfkjfonpacelaaGreatDoorEV
set_option linter.all false
namespace Mv
open Go
variable {M:Seat}
def ids:Hp→List Nat
 | []=>[]
 | (i,_) :: r=>i :: ids r
def Cp:Hp→List Nat→List Nat
 | [],_=>[]
 | (i,_) :: r,m=>if m.contains i then Cp r m else i :: Cp r m
theorem Hj (m:List Nat):∀ (H:Hp),∀ i ∈ Cp H m,i ∉ m
 | [],_,h=>by cases h
 | (j, _) :: r, i, h => by
   simp only [Cp] at h
   split at h
   ·exact Hj m r i h
   ·rename_i hj
    rcases List.mem_cons.1 h with rfl | h
    ·intro hm;exact hj (by simpa [List.contains_iff_mem] using hm)
    ·exact Hj m r i h
theorem Jz (j:Nat):∀ H:Hp,(ids H).contains j=Ac H j
 | []=>rfl
 | (i, _) :: r => by
   simp only [ids,Ac,List.contains_cons,Jz j r]
   rw [Bool.beq_comm]
theorem Ap8 (H:Hp) (i:Nat):MG H (ids H) i=(Ac H i && (hget H i).solid):=by
 simp only [MG,Jz,Bool.and_self]
theorem JK (m:List Nat) (j:Nat):∀ H:Hp,(Cp H m).contains j=(Ac H j && !m.contains j)
 | []=>by simp [Cp,Ac]
 | (i, _) :: r => by
   simp only [Cp]
   by_cases h:m.contains i=true
   ·rw [if_pos h,JK m j r]
    simp only [Ac]
    by_cases hij:i=j
    ·subst hij;rw [h];simp
    ·have:(i == j)=false:=by simpa using hij
     rw [this,Bool.false_or]
   ·rw [if_neg h]
    simp only [List.contains_cons,JK m j r,Ac]
    by_cases hij:i=j
    ·subst hij
     rw [show m.contains i=false by simpa using h];simp
    ·have h1:(i == j)=false:=by simpa using hij
     have h2:(j == i)=false:=by simp;exact fun h=>hij h.symm
     rw [h1,h2];simp
theorem Apc (H:Hp) (m:List Nat) (i:Nat):MG H (Cp H m) i=((Ac H i && !m.contains i) && (hget H i).solid):=by
 simp only [MG,JK]
 cases Ac H i <;> simp
def AB:List Nat→Nat→Nat→List Nat
 | [],_,0=>[]
 | [],n,k + 1=>n :: AB [] (n + 1) k
 | _ :: _,_,0=>[]
 | a :: m,n,k + 1=>a :: AB m n k
theorem Qk:∀ (k n:Nat),(List.range k).map (fun i=>n + i)=AB [] n k
 | 0,_=>rfl
 | k + 1, n => by
   rw [List.range_succ_eq_map,List.map_cons,List.map_map,AB,← Qk k (n + 1)]
   simp only [Nat.add_zero,List.cons.injEq,true_and]
   apply List.map_congr_left
   intro i _
   simp only [Function.comp];omega
theorem KS:∀ (m:List Nat) (n k:Nat),m.length≤k→Bp m n k=AB m n k
 | [],n,k,_=>by simp only [Bp,List.length_nil,Nat.sub_zero,List.nil_append];exact Qk k n
 | a :: m,n,0,h=>by simp at h
 | a :: m, n, k + 1, h => by
   rw [AB,← KS m n k L7]
   simp only [Bp,List.length_cons,List.cons_append,Nat.add_sub_add_right]
def Cg:Hp→Prop
 | []=>True
 | (_,v) :: r=>A7 v∧Cg r
theorem Cg.H:∀ {H:Hp},Cg H→SL H
 | [],_,id,h=>by simp [Ac] at h
 | (i, v) :: r, hn, id, h => by
   simp only [Cg] at hn
   simp only [hget]
   split
   ·exact hn.1
   ·rename_i hi
    exact Cg.H hn.2 id (by simpa [Ac,hi] using h)
theorem Jv {f:Nat} {us us0:List V} {H:Hp} {n:Nat} {K:V→Hp→Prop} {v:V} (hr:Af M f us0 [] 0 (Q3 v [] 0)) (hus:Bh H [] (ids H) us0 us) (hv:v.ren (Bp [] n 0)=v) (hn:A7 v) (hK:K v H):AT M f us H n K :=
 QO (ids H) hr hus hv hn hK
theorem Od {f:Nat} {us us0:List V} {H H0 Hn:Hp} {n k kn:Nat} {K:V→Hp→Prop} {v:V} (m:List Nat) (hr:Af M f us0 H0 k (Q3 v Hn kn))
 (hm:(decide m.Nodup && decide (m.length=k) && decide (k≤kn) && decide (kn≤k + 16))=true) (hall:(m.all fun i=>Ac H i)=true) (hus:Bh H m (Cp H m) us0 us) (hH:Bq H m (Cp H m) H0) (hv:A7 v) (hn:Cg Hn)
 (hK:K (v.ren (AB m n kn)) (AM (AB m n kn) Hn ++ A5 H m)):AT M f us H n K:=by
 simp only [Bool.and_eq_true,decide_eq_true_eq] at hm
 obtain ⟨⟨⟨h1,h2⟩,h3⟩,h4⟩:=hm
 refine Cj hr True m (Cp H m) h1 (Hj m H) h2 (by simpa using hall) hus hH ?_
 rintro v' H' k' ⟨rfl,rfl,rfl⟩
 refine ⟨⟨h4,fun _=>⟨hv,hn.H⟩⟩,?_⟩
 rw [KS m n k' Aa,if_pos trivial]
 exact hK
theorem NR {f:Nat} {us us0:List V} {H Hn:Hp} {n kn:Nat} {K:V→Hp→Prop} {v:V} (hr:Af M f us0 [] 0 (Q3 v Hn kn))
 (hk:decide (kn≤16)=true) (hus:Bh H [] (ids H) us0 us) (hv:A7 v) (hn:Cg Hn)
 (hK:K (v.ren (AB [] n kn)) (AM (AB [] n kn) Hn ++ H)):AT M f us H n K:=by
 refine Cj hr True [] (ids H) List.nodup_nil B1 rfl B1 hus trivial ?_
 rintro v' H' k' ⟨rfl,rfl,rfl⟩
 refine ⟨⟨by have:=of_decide_eq_true hk;omega,fun _=>⟨hv,hn.H⟩⟩,?_⟩
 rw [KS [] n k' B1,if_pos trivial]
 exact hK
theorem SH {f:Nat} {us us0:List V} {H H0 Hn:Hp} {n k kn:Nat} {K:V→Hp→Prop} {v:V} (m m0:List Nat) (hr:Af M f us0 H0 k (Q3 v Hn kn))
 (h0:((ids H0).all fun id=>match m[id]? with | some i=>m0.contains i | none=>true)=true) (h0m:(m0.all fun i=>m.contains i)=true)
 (hm:(decide m.Nodup && decide (m.length=k) && decide (k≤kn) && decide (kn≤k + 16))=true) (hall:(m.all fun i=>Ac H i || CL us i)=true) (hall0:(m0.all fun i=>Ac H i)=true) (hus:Bh H m (Cp H m) us0 us) (hH:Bq H m (Cp H m) H0) (hv:A7 v) (hn:Cg Hn)
 (hK:K (v.ren (AB m n kn)) (AM (AB m n kn) Hn ++ A5 H m0)):AT M f us H n K:=by
 simp only [Bool.and_eq_true,decide_eq_true_eq] at hm
 obtain ⟨⟨⟨h1,h2⟩,h3⟩,h4⟩:=hm
 refine Q8 hr True m m0 (Cp H m) (fun id i hid hi=>?_) (fun i hi=>?_) h1 (Hj m H) h2 (by simpa using hall0) (by simpa using hall) hus hH ?_
 ·rw [List.all_eq_true] at h0
  have hmem:id ∈ ids H0:=by
   have:=Jz id H0
   rw [hid] at this
   simpa [List.contains_iff_mem] using this
  have:=h0 id hmem
  rw [hi] at this
  simpa using this
 ·rw [List.all_eq_true] at h0m
  simpa using h0m i hi
 ·rintro v' H' k' ⟨rfl,rfl,rfl⟩
  refine ⟨⟨h4,fun _=>⟨hv,hn.H⟩⟩,?_⟩
  rw [KS m n k' Aa,if_pos trivial]
  exact hK
theorem Tk {f:Nat} {us us0:List V} {H H0 Hn:Hp} {n k kn:Nat} {K:V→Hp→Prop} {v:V} (m m0:List Nat) (hr:Af M f us0 H0 k (Q3 v Hn kn))
 (h0:((ids H0).all fun id=>match m[id]? with | some i=>m0.contains i | none=>true)=true) (h0m:(m0.all fun i=>m.contains i)=true)
 (hm:(decide m.Nodup && decide (m.length=k) && decide (k≤kn) && decide (kn≤k + 16))=true) (hall:(m.all fun i=>Ac H i || (Gu m0 H i || CL us i))=true) (hall0:(m0.all fun i=>Ac H i)=true) (hus:Bh H m [] us0 us) (hH:Bq H m [] H0)
 (hK:K (v.ren (AB m n kn)) (AM (AB m n kn) Hn ++ A5 H m0)):AT M f us H n K:=by
 simp only [Bool.and_eq_true,decide_eq_true_eq] at hm
 obtain ⟨⟨⟨h1,h2⟩,h3⟩,h4⟩:=hm
 refine GV hr False m m0 [] (fun id i hid hi=>?_) (fun i hi=>?_) h1 B1 h2 (by simpa using hall0) (fun i hi=>by
  have:=List.all_eq_true.1 hall i hi
  simp only [Bool.or_eq_true] at this
  exact this.elim .inl (fun h=>.inr h.symm)) hus hH ?_
 ·rw [List.all_eq_true] at h0
  have hmem:id ∈ ids H0:=by
   have:=Jz id H0
   rw [hid] at this
   simpa [List.contains_iff_mem] using this
  have:=h0 id hmem
  rw [hi] at this
  simpa using this
 ·rw [List.all_eq_true] at h0m
  simpa using h0m i hi
 ·rintro v' H' k' ⟨rfl,rfl,rfl⟩
  refine ⟨⟨h4,fun h=>h.elim⟩,?_⟩
  rw [KS m n k' Aa,if_neg id,List.append_nil]
  exact hK
theorem XK {f:Nat} {us us0:List V} {H:Hp} {n:Nat} {C:V→Hp→Prop} {v:V} (hr:Af M f us0 [] 0 (Q3 v [] 0)) (hus:Bh H [] (ids H) us0 us) (hv:v.ren (Bp [] n 0)=v) (hn:A7 v) (hC:C v H):F6 M f us H n C :=
 ⟨v,H,Jv hr hus hv hn ⟨rfl,rfl⟩,hC⟩
theorem Ajf {f:Nat} {us us0:List V} {H Hn:Hp} {n kn:Nat} {C:V→Hp→Prop} {v:V} (hr:Af M f us0 [] 0 (Q3 v Hn kn))
 (hk:decide (kn≤16)=true) (hus:Bh H [] (ids H) us0 us) (hv:A7 v) (hn:Cg Hn)
 (hC:C (v.ren (AB [] n kn)) (AM (AB [] n kn) Hn ++ H)):F6 M f us H n C :=
 ⟨_,_,NR hr hk hus hv hn ⟨rfl,rfl⟩,hC⟩
theorem Xc {f:Nat} {us us0:List V} {H H0 Hn:Hp} {n k kn:Nat} {C:V→Hp→Prop} {v:V} (m:List Nat) (hr:Af M f us0 H0 k (Q3 v Hn kn))
 (hm:(decide m.Nodup && decide (m.length=k) && decide (k≤kn) && decide (kn≤k + 16))=true) (hall:(m.all fun i=>Ac H i)=true) (hus:Bh H m (Cp H m) us0 us) (hH:Bq H m (Cp H m) H0) (hv:A7 v) (hn:Cg Hn)
 (hC:C (v.ren (AB m n kn)) (AM (AB m n kn) Hn ++ A5 H m)):F6 M f us H n C :=
 ⟨_,_,Od m hr hm hall hus hH hv hn ⟨rfl,rfl⟩,hC⟩
theorem Ae6 {f:Nat} {us us0:List V} {H H0 Hn:Hp} {n k kn:Nat} {C:V→Hp→Prop} {v:V} (m m0:List Nat) (hr:Af M f us0 H0 k (Q3 v Hn kn))
 (h0:((ids H0).all fun id=>match m[id]? with | some i=>m0.contains i | none=>true)=true) (h0m:(m0.all fun i=>m.contains i)=true)
 (hm:(decide m.Nodup && decide (m.length=k) && decide (k≤kn) && decide (kn≤k + 16))=true) (hall:(m.all fun i=>Ac H i || CL us i)=true) (hall0:(m0.all fun i=>Ac H i)=true) (hus:Bh H m (Cp H m) us0 us) (hH:Bq H m (Cp H m) H0) (hv:A7 v) (hn:Cg Hn)
 (hC:C (v.ren (AB m n kn)) (AM (AB m n kn) Hn ++ A5 H m0)):F6 M f us H n C :=
 ⟨_,_,SH m m0 hr h0 h0m hm hall hall0 hus hH hv hn ⟨rfl,rfl⟩,hC⟩
theorem Afq {f:Nat} {us us0:List V} {H H0 Hn:Hp} {n k kn:Nat} {C:V→Hp→Prop} {v:V} (m m0:List Nat) (hr:Af M f us0 H0 k (Q3 v Hn kn))
 (h0:((ids H0).all fun id=>match m[id]? with | some i=>m0.contains i | none=>true)=true) (h0m:(m0.all fun i=>m.contains i)=true)
 (hm:(decide m.Nodup && decide (m.length=k) && decide (k≤kn) && decide (kn≤k + 16))=true) (hall:(m.all fun i=>Ac H i || (Gu m0 H i || CL us i))=true) (hall0:(m0.all fun i=>Ac H i)=true) (hus:Bh H m [] us0 us) (hH:Bq H m [] H0)
 (hC:C (v.ren (AB m n kn)) (AM (AB m n kn) Hn ++ A5 H m0)):F6 M f us H n C :=
 ⟨_,_,Tk m m0 hr h0 h0m hm hall hall0 hus hH ⟨rfl,rfl⟩,hC⟩
theorem Aoh {f:Nat} {v:V} {us:List V} {H:Hp} {n:Nat} {K:V→Hp→Prop} (hf:GL M f) (hv:(v.solid && !v.isAgg)=true) (h:AT M f (us ++ [v]) H n K):ED M (.fn f (.st 1 (.fcons 0 v .fnil))) us H n K:=by
 refine .inl ⟨⟨hf,?_⟩,h⟩
 simpa [V.fhas,V.fget] using hv
theorem Ao2 {f:Nat} {v:V} {us:List V} {H:Hp} {n:Nat} {K:V→Hp→Prop} (hf:GL M f) (hv:(v.solid && !v.isAgg)=true) (h:AT M f (v :: us) H n K):ED M (.fn (f + 2000000) (.st 1 (.fcons 0 v .fnil))) us H n K:=by
 refine .inr ⟨by omega,⟨by rw [Nat.add_sub_cancel];exact hf,?_⟩,?_⟩
 ·simpa [V.fhas,V.fget] using hv
 ·rw [Nat.add_sub_cancel];exact h
theorem Anb {f:Nat} {v:V} {us us0:List V} {H:Hp} {n:Nat} {C:V→Hp→Prop} {r:V} (hf:GL M f) (hv:(v.solid && !v.isAgg)=true) (hr:Af M f us0 [] 0 (fun r' H' k'=>r'=r∧H'=[]∧k'=0)) (hus:Bh H [] (ids H) us0 (us ++ [v])) (hv2:r.ren (Bp [] n 0)=r) (hn:A7 r) (hC:C r H):UJ M (.fn f (.st 1 (.fcons 0 v .fnil))) us H n C :=
 ⟨r,H,Aoh hf hv (Jv hr hus hv2 hn ⟨rfl,rfl⟩),hC⟩
def Jg (v:V) (i:Nat) (r:V):V:=match v with | .junk=>r | v=>.fcons i v r
def G2 (v:V):Prop:=match v with | .junk=>True | v=>v.solid=true
theorem Am6 (A:List V) (H:Hp) (r:RVr) (rs:List RVr) (i:Nat):GK A H (r :: rs) i=Jg (E6 A H r) i (GK A H rs (i + 1)):=by
 simp only [GK,Jg];split <;> simp_all
theorem Aok (A:List V) (H:Hp) (i:Nat):GK A H [] i = .fnil:=rfl
theorem Ant (A:List V) (H:Hp) (r:RVr) (rs:List RVr):HE A H (r :: rs)=(G2 (E6 A H r)∧HE A H rs):=by
 simp only [HE,G2];split <;> simp_all
theorem Ama (A:List V) (H:Hp):HE A H []=True:=rfl
theorem Abs (k:IntKind) (n:Int) (ix:Nat) (r:V):Jg (.int k n) ix r = .fcons ix (.int k n) r:=rfl
theorem Abo (k:IntKind) (n:Int):G2 (.int k n)=True:=FO
theorem Y3 (b:Bool) (ix:Nat) (r:V):Jg (.bool b) ix r = .fcons ix (.bool b) r:=rfl
theorem X9 (b:Bool):G2 (.bool b)=True:=FO
theorem Ace (s:ByteArray) (ix:Nat) (r:V):Jg (.str s) ix r = .fcons ix (.str s) r:=rfl
theorem Z0 (s:ByteArray):G2 (.str s)=True:=FO
theorem Yd  (ix:Nat) (r:V):Jg (.nilp) ix r = .fcons ix (.nilp) r:=rfl
theorem Wo :G2 (.nilp)=True:=FO
theorem ZS (i:Nat) (p:List Stp) (ix:Nat) (r:V):Jg (.ptr i p) ix r = .fcons ix (.ptr i p) r:=rfl
theorem Acp (i:Nat) (p:List Stp):G2 (.ptr i p)=True:=FO
theorem VF  (ix:Nat) (r:V):Jg (.nils) ix r = .fcons ix (.nils) r:=rfl
theorem Y4 :G2 (.nils)=True:=FO
theorem Afa (i:Nat) (p:List Stp) (o n sz:Nat) (ix:Nat) (r:V):Jg (.sl i p o n sz) ix r = .fcons ix (.sl i p o n sz) r:=rfl
theorem Ae1 (i:Nat) (p:List Stp) (o n sz:Nat):G2 (.sl i p o n sz)=True:=FO
theorem Aca (sz n:Nat) (f:Nat→V) (ix:Nat) (r:V):Jg (.lst sz n f) ix r = .fcons ix (.lst sz n f) r:=rfl
theorem Acq (sz n:Nat) (f:Nat→V):G2 (.lst sz n f)=True:=FO
theorem VE  (ix:Nat) (r:V):Jg (.nili) ix r = .fcons ix (.nili) r:=rfl
theorem XX :G2 (.nili)=True:=FO
theorem Aak (t:Nat) (v:V) (ix:Nat) (r:V):Jg (.ifc t v) ix r = .fcons ix (.ifc t v) r:=rfl
theorem Aal (t:Nat) (v:V):G2 (.ifc t v)=True:=FO
theorem Aes (n:Nat) (v:V) (ix:Nat) (r:V):Jg (.st n v) ix r = .fcons ix (.st n v) r:=rfl
theorem Ae7 (n:Nat) (v:V):G2 (.st n v)=True:=FO
theorem Agg (sz n:Nat) (f:Nat→V) (ix:Nat) (r:V):Jg (.ar sz n f) ix r = .fcons ix (.ar sz n f) r:=rfl
theorem Ain (sz n:Nat) (f:Nat→V):G2 (.ar sz n f)=True:=FO
theorem Aa6 (v:V) (ix:Nat) (r:V):Jg (.imm v) ix r = .fcons ix (.imm v) r:=rfl
theorem Zo (v:V):G2 (.imm v)=True:=FO
theorem Ade (i:Nat) (ix:Nat) (r:V):Jg (.map i) ix r = .fcons ix (.map i) r:=rfl
theorem Abt (i:Nat):G2 (.map i)=True:=FO
theorem Xd  (ix:Nat) (r:V):Jg (.nilm) ix r = .fcons ix (.nilm) r:=rfl
theorem Xn :G2 (.nilm)=True:=FO
theorem Agq (f:Nat) (c:V) (ix:Nat) (r:V):Jg (.fn f c) ix r = .fcons ix (.fn f c) r:=rfl
theorem Afz (f:Nat) (c:V):G2 (.fn f c)=True:=FO
theorem Xb  (ix:Nat) (r:V):Jg (.nilf) ix r = .fcons ix (.nilf) r:=rfl
theorem XP :G2 (.nilf)=True:=FO
theorem Akz (w:BitVec 64) (ix:Nat) (r:V):Jg (W w) ix r = .fcons ix (W w) r:=rfl
theorem Aom (w:BitVec 64):G2 (W w)=True:=by simp [G2,V.solid,W]
theorem Anf (w:BitVec 8) (ix:Nat) (r:V):Jg (B w) ix r = .fcons ix (B w) r:=rfl
theorem Aov (w:BitVec 8):G2 (B w)=True:=by simp [G2,V.solid,B]
theorem Ag9 (d:Dg) (ix:Nat) (r:V):Jg (dg d) ix r = .fcons ix (dg d) r:=rfl
theorem Agn (d:Dg):G2 (dg d)=True:=by simp [G2,V.solid,dg]
def V8:=(CC (Iz @Am6 @Aok @Ant @Ama @Abs @Abo @Y3 @X9 @Ace @Z0 @Yd @Wo @ZS @Acp) (DD @VF @Y4 @Afa @Ae1 @Aca @Acq @VE @XX @Aak @Aal @Aes @Ae7 @Agg @Ain @Aa6) (DD @Zo @Ade @Abt @Xd @Xn @Agq @Afz @Xb @XP @Akz @Aom @Anf @Aov @Ag9 @Agn))
theorem Rd (w:BitVec 64):A7 (W w)=True:=rfl
theorem Ah8 (w:BitVec 8):A7 (B w)=True:=rfl
theorem O9 (d:Dg):A7 (dg d)=True:=eq_true (by simp only [A7,dg,B,implies_true])
theorem Ahx (k:Nat):(2:Int) ^ k=((2 ^ k:Nat):Int):=by rw [Int.natCast_pow];rfl
def Dg.put (d:Dg) (k:Nat) (b:BitVec 8):Dg:=Dg.mk' fun j=>if j=k then b else d.at j
theorem Dg.at_out (d:Dg) (j:Nat) (hj:¬ j < 32):d.at j=0:=by
 rw [Dg.at,List.getD_eq_getElem?_getD,List.getElem?_eq_none (by rw [d.h];omega)];rfl
theorem Uj (A:List V) (H:Hp) (n:Nat) (zk zv:Z):Ae A H n (.mkmap zk zv)=⟨True,.map n,(n,.mp 0 (fun _=>zk.v 0) (fun _=>zv.v 0)) :: H⟩:=rfl
theorem U5 (A:List V) (H:Hp) (n:Nat) (s:ES) (z:Z) (ok:Bool) (m k:X):Ae A H n (.mlook s z ok m k)=Mk s z ok (m.ev A) (k.ev A) H:=rfl
theorem We (A:List V) (H:Hp) (n:Nat) (s:ES) (m k x:X):Ae A H n (.mupd s m k x)=XB s (m.ev A) (k.ev A) (x.ev A) H:=rfl
def CH (s:ES) (z:Z) (ok:Bool) (hh:Bool) (b k:V) (H:Hp):Out:=match b with
 | .mp n ks vs=>⟨hh=true∧k.solid=true∧AI true s k k∧∀ i,i < n→AI true s k (ks i),
  (match Hf s k ks 0 n with
  | some i=>if ok then .tup (.fcons 0 (vs i) (.fcons 1 (.bool true) .fnil)) else vs i
  | none=>if ok then .tup (.fcons 0 (z.v 0) (.fcons 1 (.bool false) .fnil)) else z.v 0),H⟩
 | _=>BR H
def GD (s:ES) (hh:Bool) (b k x:V) (id:Nat) (H:Hp):Out:=match b with
 | .mp n ks vs=>⟨hh=true∧k.solid=true∧x.solid=true∧AI true s k k∧∀ i,i < n→AI true s k (ks i),.tup .fnil,
  Co H id (.mp (match Hf s k ks 0 n with | some _=>n | none=>n + 1) (fun j=>if j=(Hf s k ks 0 n).getD n then k else ks j) (fun j=>if j=(Hf s k ks 0 n).getD n then x else vs j))⟩
 | _=>BR H
theorem Abz (s:ES) (z:Z) (ok:Bool) (id:Nat) (k:V) (H:Hp):Mk s z ok (.map id) k H=CH s z ok (Ac H id) (hget H id) k H:=by
 simp only [Mk,CH]
 generalize hget H id=b
 cases b <;> rfl
theorem Ajj (s:ES) (id:Nat) (k x:V) (H:Hp):XB s (.map id) k x H=GD s (Ac H id) (hget H id) k x id H:=by
 simp only [XB,GD]
 generalize hget H id=b
 cases b <;> rfl
section
variable {α:Type}
def Lz (k:Dg):List (Dg × α)→Option Nat
 | []=>none
 | (a,_) :: r=>if k=a then some 0 else (Lz k r).map (· + 1)
def Dt (k:Dg):List (Dg × α)→Option α
 | []=>none
 | (a,b) :: r=>if k=a then some b else Dt k r
def CW (k:Dg) (x:α):List (Dg × α)→List (Dg × α)
 | []=>[(k,x)]
 | (a,b) :: r=>if k=a then (k,x) :: r else (a,b) :: CW k x r
def Bd (g:α→V) (d:α) (l:List (Dg × α)):V:=.mp l.length (fun j=>dg (l.getD j (Dg.zero,d)).1) (fun j=>g (l.getD j (Dg.zero,d)).2)
theorem T3 (k:Dg) (ks:Nat→V) (d:α):∀ (l:List (Dg × α)) (i:Nat),(∀ j,j < l.length→ks (i + j)=dg (l.getD j (Dg.zero,d)).1)→Hf (.ar 32 1 false .int) (dg k) ks i l.length=(Lz k l).map (i + ·)
 | [],_,_=>rfl
 | (a, b) :: r, i, h => by
   have h0:=h 0 B1
   simp only [Nat.add_zero,List.getD_cons_zero] at h0
   have ih:=T3 k ks d r (i + 1) (fun j hj=>by
    have:=h (j + 1) (by simpa using hj)
    simp only [List.getD_cons_succ] at this
    rw [← this];congr 1;omega)
   simp only [List.length_cons,Hf,h0,Jy,decide_eq_true_eq,Lz]
   by_cases hk:k=a
   ·simp [hk]
   ·simp only [hk,if_false,ih,Option.map_map]
    congr 1
    funext j
    simp only [Function.comp];omega
theorem S2 (k:Dg) (d:α) (l:List (Dg × α)):Hf (.ar 32 1 false .int) (dg k) (fun j=>dg (l.getD j (Dg.zero,d)).1) 0 l.length=Lz k l:=by
 rw [T3 k _ d l 0 (fun j _=>by rw [Nat.zero_add])]
 cases Lz k l <;> simp
theorem S8 (k:Dg) (d:α):∀ l:List (Dg × α),Dt k l=(Lz k l).map (fun i=>(l.getD i (Dg.zero,d)).2)
 | []=>rfl
 | (a, b) :: r => by
   simp only [Dt,Lz]
   by_cases hk:k=a
   ·simp [hk]
   ·simp only [hk,if_false,S8 k d r,Option.map_map]
    congr 1
def lkR (z:Z) (ok:Bool) (g:α→V):Option α→V
 | some x=>if ok then .tup (.fcons 0 (g x) (.fcons 1 (.bool true) .fnil)) else g x
 | none=>if ok then .tup (.fcons 0 (z.v 0) (.fcons 1 (.bool false) .fnil)) else z.v 0
theorem Agv (z:Z) (g:α→V) (x:α):lkR z true g (some x) = .tup (.fcons 0 (g x) (.fcons 1 (.bool true) .fnil)):=rfl
theorem Ae4 (z:Z) (g:α→V):lkR z true g none = .tup (.fcons 0 (z.v 0) (.fcons 1 (.bool false) .fnil)):=rfl
theorem Agi (z:Z) (g:α→V) (x:α):lkR z false g (some x)=g x:=rfl
theorem Ai7 (z:Z) (g:α→V):lkR z false g none=z.v 0:=rfl
theorem Vc (z:Z) (ok hh:Bool) (g:α→V) (d:α) (l:List (Dg × α)) (k:Dg) (H:Hp):CH (.ar 32 1 false .int) z ok hh (Bd g d l) (dg k) H=⟨hh=true,lkR z ok g (Dt k l),H⟩:=by
 simp only [CH,Bd,S2,S8 k d l,Dk,eq_true (Hq true _ _),implies_true,Gw]
 congr 1
 cases Lz k l <;> rfl
theorem Qe (k:Dg) (x:α):∀ l:List (Dg × α),(CW k x l).length=(match Lz k l with | some _=>l.length | none=>l.length + 1)
 | []=>rfl
 | (a, b) :: r => by
   simp only [CW,Lz]
   by_cases hk:k=a
   ·simp [hk]
   ·simp only [hk,if_false,List.length_cons,Qe k x r]
    cases Lz k r <;> rfl
theorem SC (k:Dg) (x:α) (d:Dg × α):∀ (l:List (Dg × α)) (j:Nat),(CW k x l).getD j d=if j=(Lz k l).getD l.length then (k,x) else l.getD j d
 | [], j => by
   simp only [CW,Lz,Option.getD_none,List.length_nil]
   cases j <;> simp
 | (a, b) :: r, j => by
   simp only [CW,Lz]
   by_cases hk:k=a
   ·simp only [hk,if_true,Option.getD_some]
    cases j <;> simp
   ·simp only [hk,if_false]
    cases j with
    | zero =>
      simp only [List.getD_cons_zero,List.length_cons]
      rw [if_neg]
      cases Lz k r <;> simp
    | succ j =>
      simp only [List.getD_cons_succ,SC k x d r j,List.length_cons]
      have e:((Lz k r).map (· + 1)).getD (r.length + 1)=(Lz k r).getD r.length + 1:=by cases Lz k r <;> rfl
      rw [e]
      simp only [Nat.add_right_cancel_iff]
theorem WJ (hh:Bool) (g:α→V) (d:α) (l:List (Dg × α)) (k:Dg) (x:α) (id:Nat) (H:Hp):GD (.ar 32 1 false .int) hh (Bd g d l) (dg k) (g x) id H=⟨hh=true∧(g x).solid=true,.tup .fnil,Co H id (Bd g d (CW k x l))⟩:=by
 have e:Bd g d (CW k x l) = .mp (match Lz k l with | some _=>l.length | none=>l.length + 1) (fun j=>if j=(Lz k l).getD l.length then dg k else dg (l.getD j (Dg.zero,d)).1) (fun j=>if j=(Lz k l).getD l.length then g x else g (l.getD j (Dg.zero,d)).2):=by
  simp only [Bd,Qe,SC]
  congr 1
  ·funext j;split <;> rfl
  ·funext j;split <;> rfl
 rw [e]
 simp only [GD,Bd,S2,Dk,eq_true (Hq true _ _),implies_true,Gw]
theorem Tt (m:List Nat) (g:α→V) (hg:∀ x,(g x).ren m=g x) (d:α) (l:List (Dg × α)):(Bd g d l).ren m=Bd g d l:=by
 simp only [Bd,V.ren,E9,hg]
theorem Om (g:α→V) (hg:∀ x,A7 (g x)) (d:α) (l:List (Dg × α)):A7 (Bd g d l):=by
 simp only [Bd,A7,O9,true_and];exact fun i _=>hg _
theorem Gm (H:Hp) (m z:List Nat) (g:α→V) (hg:∀ x,Ar H m z (g x) (g x)) (d:α) (l:List (Dg × α)):Ar H m z (Bd g d l) (Bd g d l):=by
 simp only [Bd,Ar,true_and];exact fun i _=>⟨(AW _ _ _ _ _).mpr rfl,hg _⟩
theorem Aaz (H:Hp) (m z:List Nat) (g:α→V) (d:α) (ks vs:Nat→V):Ar H m z (Bd g d []) (.mp 0 ks vs):=by
 simp only [Bd,Ar,List.length_nil,Nat.not_lt_zero,false_implies,implies_true,and_self]
end
structure Pr where
 l:List (BitVec 8)
 h:l.length=64
deriving DecidableEq
def Pr.at (d:Pr) (j:Nat):BitVec 8:=d.l.getD j 0
def Pr.mk' (f:Nat→BitVec 8):Pr:=⟨(List.range 64).map f,by simp⟩
theorem Pr.at_mk' (f:Nat→BitVec 8) (j:Nat) (hj:j < 64):(Pr.mk' f).at j=f j:=by
 simp [Pr.at,Pr.mk',List.getD,List.getElem?_map,List.getElem?_range hj]
theorem Pr.ext' {a b:Pr} (h:∀ j,j < 64→a.at j=b.at j):a=b:=by
 obtain ⟨l,hl⟩:=a
 obtain ⟨m,hm⟩:=b
 have:l=m:=by
  apply List.ext_getElem Aa
  intro i h1 h2
  have:=h i Aa
  simpa [Pr.at,List.getD,h1,h2] using this
 subst this;rfl
def Pr.zero:Pr:=Pr.mk' fun _=>0
theorem Pr.at_out (d:Pr) (j:Nat) (hj:¬ j < 64):d.at j=0:=by
 rw [Pr.at,List.getD_eq_getElem?_getD,List.getElem?_eq_none (by rw [d.h];omega)];rfl
theorem Pr.at_zero (j:Nat):Pr.zero.at j=0:=by
 by_cases hj:j < 64
 ·rw [Pr.zero,Pr.at_mk' _ _ hj]
 ·exact Pr.at_out _ _ hj
def A9 (p:Pr):V:=.ar 1 64 (fun j=>B (p.at j))
def Vw:=(Bc @Pr.at_zero @A9.eq_1)
def Lap:=(Bc @dg.eq_1 @A9.eq_1)
def Lbc:=(Bc @Lap @Pr.at_zero)
theorem TS (p:Pr):(A9 p).solid=true:=rfl
theorem Yl (p:Pr):(A9 p).size=64:=rfl
theorem Aae (p:Pr):(A9 p).isAgg=true:=rfl
theorem Acr (m:List Nat) (p:Pr):(A9 p).ren m=A9 p:=rfl
theorem O8 (p:Pr):A7 (A9 p)=True:=eq_true (by simp only [A7,A9,B,implies_true])
theorem C3 (H:Hp) (m z:List Nat) (a b:Pr):Ar H m z (A9 a) (A9 b) ↔ b=a:=by
 simp only [Ar,A9,K2,true_and]
 constructor
 ·intro h;exact Pr.ext' (fun j hj=>h j hj)
 ·rintro rfl _ _;rfl
theorem Wk (H:Hp) (m z:List Nat) (a:Pr) (u:V):Bk H m z (A9 a) u=Ar H m z (A9 a) u:=rfl
theorem Zy (k:Nat) (p:Pr):V.get [.i 1 k] (A9 p)=B (p.at k):=rfl
theorem Xu (p:Pr):Vq 1 64 (A9 p)=True:=by simp [A9,Vq]
theorem XE (c:Bool) (a b:Pr):AI c (.ar 64 1 false .int) (A9 a) (A9 b):=by
 simp only [AI,A9,true_and]
 intro i _
 refine ⟨rfl,rfl,?_⟩
 simp only [B]
theorem YN (a b:Pr):AL (.ar 64 1 false .int) (A9 a) (A9 b)=decide (a=b):=by
 have h1:AL (.ar 64 1 false .int) (A9 a) (A9 b)=(List.range 64).all (fun i=>decide (a.at i=b.at i)):=by
  simp only [AL,A9,B,eqB]
 rw [h1,Bool.eq_iff_iff,List.all_eq_true]
 simp only [decide_eq_true_eq,List.mem_range]
 constructor
 ·exact fun h=>Pr.ext' h
 ·rintro rfl _ _;rfl
theorem N3:V.ar 1 64 (fun _=>B 0#8)=A9 Pr.zero:=by
 have h:(fun _=>B 0#8)=fun j=>B (Pr.zero.at j):=by funext j;rw [Pr.at_zero];rfl
 simp only [A9,h]
theorem Abb (d:Dg):Vq 1 32 (dg d)=True:=by simp [dg,Vq]
theorem Vk (o n sz:Nat) (d:Dg):HX o n sz (dg d)=some (sz,n,fun i=>B (d.at (o + i))):=rfl
theorem Va (o n:Nat) (d:Dg):GT o n 1 (dg d)=(o + n≤32):=by simp [dg,GT]
theorem QW (o n sz:Nat) (d:Pr):HX o n sz (A9 d)=some (sz,n,fun i=>B (d.at (o + i))):=rfl
theorem RE (o n:Nat) (d:Pr):GT o n 1 (A9 d)=(o + n≤64):=by simp [A9,GT]
theorem Wb (H:Hp) (m z:List Nat) (d:Pr) (l:List (Dg × Pr)):Ar H m z (Bd A9 d l) (Bd A9 d l)=True:=eq_true (Gm H m z A9 (fun _=>(C3 _ _ _ _ _).mpr rfl) d l)
theorem UL (d:Pr) (l:List (Dg × Pr)):A7 (Bd A9 d l)=True:=eq_true (Om A9 (fun x=>by rw [O8];trivial) d l)
theorem Y7 (m:List Nat) (d:Pr) (l:List (Dg × Pr)):(Bd A9 d l).ren m=Bd A9 d l:=Tt m A9 (fun _=>rfl) d l
theorem Aeo (id:Nat) (H:Hp):OW 2 (.map id) H=(match hget H id with | .mp m _ _=>⟨Ac H id=true,.int .i64 m,H⟩ | _=>BR H):=rfl
theorem Z2 (p:Pr) (i:Nat) (r:V):Jg (A9 p) i r = .fcons i (A9 p) r:=rfl
theorem Zs (p:Pr):G2 (A9 p)=True:=by simp [G2,A9,V.solid]
end Mv
