/- A part. -/
import Derived.Test.YtfljfijnobocoaaDoorDD
set_option linter.all false
namespace Mv
open Go
variable {M:Seat}
def ids:Hp→List Nat
 | []=>[]
 | (i,_) :: r=>i :: ids r
def BJ:Hp→List Nat→List Nat
 | [],_=>[]
 | (i,_) :: r,m=>if m.contains i then BJ r m else i :: BJ r m
theorem Gp (m:List Nat):∀ (H:Hp),∀ i ∈ BJ H m,i ∉ m
 | [],_,h=>by cases h
 | (j, _) :: r, i, h => by
   simp only [BJ] at h
   split at h
   ·exact Gp m r i h
   ·rename_i hj
    rcases List.mem_cons.1 h with rfl | h
    ·intro hm;exact hj (by simpa [List.contains_iff_mem] using hm)
    ·exact Gp m r i h
theorem Ib (j:Nat):∀ H:Hp,(ids H).contains j=Af H j
 | []=>rfl
 | (i, _) :: r => by
   simp only [ids,Af,List.contains_cons,Ib j r]
   rw [Bool.beq_comm]
theorem Aj1 (H:Hp) (i:Nat):Sj H (ids H) i=(Af H i && (hget H i).solid):=by
 simp only [Sj,Ib,Bool.and_self]
theorem JM (m:List Nat) (j:Nat):∀ H:Hp,(BJ H m).contains j=(Af H j && !m.contains j)
 | []=>by simp [BJ,Af]
 | (i, _) :: r => by
   simp only [BJ]
   by_cases h:m.contains i=true
   ·rw [if_pos h,JM m j r]
    simp only [Af]
    by_cases hij:i=j
    ·subst hij;rw [h];simp
    ·have:(i == j)=false:=by simpa using hij
     rw [this,Bool.false_or]
   ·rw [if_neg h]
    simp only [List.contains_cons,JM m j r,Af]
    by_cases hij:i=j
    ·subst hij
     rw [show m.contains i=false by simpa using h];simp
    ·have h1:(i == j)=false:=by simpa using hij
     have h2:(j == i)=false:=by simp;exact fun h=>hij h.symm
     rw [h1,h2];simp
theorem Ajc (H:Hp) (m:List Nat) (i:Nat):Sj H (BJ H m) i=((Af H i && !m.contains i) && (hget H i).solid):=by
 simp only [Sj,JM]
 cases Af H i <;> simp
def AB:List Nat→Nat→Nat→List Nat
 | [],_,0=>[]
 | [],n,k + 1=>n :: AB [] (n + 1) k
 | _ :: _,_,0=>[]
 | a :: m,n,k + 1=>a :: AB m n k
theorem Of:∀ (k n:Nat),(List.range k).map (fun i=>n + i)=AB [] n k
 | 0,_=>rfl
 | k + 1, n => by
   rw [List.range_succ_eq_map,List.map_cons,List.map_map,AB,← Of k (n + 1)]
   simp only [Nat.add_zero,List.cons.injEq,true_and]
   apply List.map_congr_left
   intro i _
   simp only [Function.comp];omega
theorem Jd:∀ (m:List Nat) (n k:Nat),m.length≤k→Bh m n k=AB m n k
 | [],n,k,_=>by simp only [Bh,List.length_nil,Nat.sub_zero,List.nil_append];exact Of k n
 | a :: m,n,0,h=>by simp at h
 | a :: m, n, k + 1, h => by
   rw [AB,← Jd m n k Ke]
   simp only [Bh,List.length_cons,List.cons_append,Nat.add_sub_add_right]
def BK:Hp→Prop
 | []=>True
 | (_,v) :: r=>AC v∧BK r
theorem BK.H:∀ {H:Hp},BK H→QI H
 | [],_,id,h=>by simp [Af] at h
 | (i, v) :: r, hn, id, h => by
   simp only [BK] at hn
   simp only [hget]
   split
   ·exact hn.1
   ·rename_i hi
    exact BK.H hn.2 id (by simpa [Af,hi] using h)
theorem Im {f:Nat} {us us0:List V} {H:Hp} {n:Nat} {K:V→Hp→Prop} {v:V} (hr:Ag M f us0 [] 0 (Q3 v [] 0)) (hus:Bd H [] (ids H) us0 us) (hv:v.ren (Bh [] n 0)=v) (hn:AC v) (hK:K v H):AR M f us H n K :=
 PE (ids H) hr hus hv hn hK
theorem L5 {f:Nat} {us us0:List V} {H H0 Hn:Hp} {n k kn:Nat} {K:V→Hp→Prop} {v:V} (m:List Nat) (hr:Ag M f us0 H0 k (Q3 v Hn kn))
 (hm:(decide m.Nodup && decide (m.length=k) && decide (k≤kn) && decide (kn≤k + 16))=true) (hall:(m.all fun i=>Af H i)=true) (hus:Bd H m (BJ H m) us0 us) (hH:Br H m (BJ H m) H0) (hv:AC v) (hn:BK Hn)
 (hK:K (v.ren (AB m n kn)) (AV (AB m n kn) Hn ++ A6 H m)):AR M f us H n K:=by
 simp only [Bool.and_eq_true,decide_eq_true_eq] at hm
 obtain ⟨⟨⟨h1,h2⟩,h3⟩,h4⟩:=hm
 refine BE hr True m (BJ H m) h1 (Gp m H) h2 (by simpa using hall) hus hH ?_
 rintro v' H' k' ⟨rfl,rfl,rfl⟩
 refine ⟨⟨h4,fun _=>⟨hv,hn.H⟩⟩,?_⟩
 rw [Jd m n k' Aa,if_pos trivial]
 exact hK
theorem Qs {f:Nat} {us us0:List V} {H Hn:Hp} {n kn:Nat} {K:V→Hp→Prop} {v:V} (hr:Ag M f us0 [] 0 (Q3 v Hn kn))
 (hk:decide (kn≤16)=true) (hus:Bd H [] (ids H) us0 us) (hv:AC v) (hn:BK Hn)
 (hK:K (v.ren (AB [] n kn)) (AV (AB [] n kn) Hn ++ H)):AR M f us H n K:=by
 refine BE hr True [] (ids H) List.nodup_nil B5 rfl B5 hus trivial ?_
 rintro v' H' k' ⟨rfl,rfl,rfl⟩
 refine ⟨⟨by have:=of_decide_eq_true hk;omega,fun _=>⟨hv,hn.H⟩⟩,?_⟩
 rw [Jd [] n k' B5,if_pos trivial]
 exact hK
theorem QY {f:Nat} {us us0:List V} {H H0 Hn:Hp} {n k kn:Nat} {K:V→Hp→Prop} {v:V} (m m0:List Nat) (hr:Ag M f us0 H0 k (Q3 v Hn kn))
 (h0:((ids H0).all fun id=>match m[id]? with | some i=>m0.contains i | none=>true)=true) (h0m:(m0.all fun i=>m.contains i)=true)
 (hm:(decide m.Nodup && decide (m.length=k) && decide (k≤kn) && decide (kn≤k + 16))=true) (hall:(m.all fun i=>Af H i || Cg us i)=true) (hall0:(m0.all fun i=>Af H i)=true) (hus:Bd H m (BJ H m) us0 us) (hH:Br H m (BJ H m) H0) (hv:AC v) (hn:BK Hn)
 (hK:K (v.ren (AB m n kn)) (AV (AB m n kn) Hn ++ A6 H m0)):AR M f us H n K:=by
 simp only [Bool.and_eq_true,decide_eq_true_eq] at hm
 obtain ⟨⟨⟨h1,h2⟩,h3⟩,h4⟩:=hm
 refine Ok hr True m m0 (BJ H m) (fun id i hid hi=>?_) (fun i hi=>?_) h1 (Gp m H) h2 (by simpa using hall0) (by simpa using hall) hus hH ?_
 ·rw [List.all_eq_true] at h0
  have hmem:id ∈ ids H0:=by
   have:=Ib id H0
   rw [hid] at this
   simpa [List.contains_iff_mem] using this
  have:=h0 id hmem
  rw [hi] at this
  simpa using this
 ·rw [List.all_eq_true] at h0m
  simpa using h0m i hi
 ·rintro v' H' k' ⟨rfl,rfl,rfl⟩
  refine ⟨⟨h4,fun _=>⟨hv,hn.H⟩⟩,?_⟩
  rw [Jd m n k' Aa,if_pos trivial]
  exact hK
theorem QC {f:Nat} {us us0:List V} {H H0 Hn:Hp} {n k kn:Nat} {K:V→Hp→Prop} {v:V} (m m0:List Nat) (hr:Ag M f us0 H0 k (Q3 v Hn kn))
 (h0:((ids H0).all fun id=>match m[id]? with | some i=>m0.contains i | none=>true)=true) (h0m:(m0.all fun i=>m.contains i)=true)
 (hm:(decide m.Nodup && decide (m.length=k) && decide (k≤kn) && decide (kn≤k + 16))=true) (hall:(m.all fun i=>Af H i || (GJ m0 H i || Cg us i))=true) (hall0:(m0.all fun i=>Af H i)=true) (hus:Bd H m [] us0 us) (hH:Br H m [] H0)
 (hK:K (v.ren (AB m n kn)) (AV (AB m n kn) Hn ++ A6 H m0)):AR M f us H n K:=by
 simp only [Bool.and_eq_true,decide_eq_true_eq] at hm
 obtain ⟨⟨⟨h1,h2⟩,h3⟩,h4⟩:=hm
 refine FV hr False m m0 [] (fun id i hid hi=>?_) (fun i hi=>?_) h1 B5 h2 (by simpa using hall0) (fun i hi=>by
  have:=List.all_eq_true.1 hall i hi
  simp only [Bool.or_eq_true] at this
  exact this.elim .inl (fun h=>.inr h.symm)) hus hH ?_
 ·rw [List.all_eq_true] at h0
  have hmem:id ∈ ids H0:=by
   have:=Ib id H0
   rw [hid] at this
   simpa [List.contains_iff_mem] using this
  have:=h0 id hmem
  rw [hi] at this
  simpa using this
 ·rw [List.all_eq_true] at h0m
  simpa using h0m i hi
 ·rintro v' H' k' ⟨rfl,rfl,rfl⟩
  refine ⟨⟨h4,fun h=>h.elim⟩,?_⟩
  rw [Jd m n k' Aa,if_neg id,List.append_nil]
  exact hK
theorem Wh {f:Nat} {us us0:List V} {H:Hp} {n:Nat} {C:V→Hp→Prop} {v:V} (hr:Ag M f us0 [] 0 (Q3 v [] 0)) (hus:Bd H [] (ids H) us0 us) (hv:v.ren (Bh [] n 0)=v) (hn:AC v) (hC:C v H):FD M f us H n C :=
 ⟨v,H,Im hr hus hv hn ⟨rfl,rfl⟩,hC⟩
theorem Anq {f:Nat} {us us0:List V} {H Hn:Hp} {n kn:Nat} {C:V→Hp→Prop} {v:V} (hr:Ag M f us0 [] 0 (Q3 v Hn kn))
 (hk:decide (kn≤16)=true) (hus:Bd H [] (ids H) us0 us) (hv:AC v) (hn:BK Hn)
 (hC:C (v.ren (AB [] n kn)) (AV (AB [] n kn) Hn ++ H)):FD M f us H n C :=
 ⟨_,_,Qs hr hk hus hv hn ⟨rfl,rfl⟩,hC⟩
theorem UZ {f:Nat} {us us0:List V} {H H0 Hn:Hp} {n k kn:Nat} {C:V→Hp→Prop} {v:V} (m:List Nat) (hr:Ag M f us0 H0 k (Q3 v Hn kn))
 (hm:(decide m.Nodup && decide (m.length=k) && decide (k≤kn) && decide (kn≤k + 16))=true) (hall:(m.all fun i=>Af H i)=true) (hus:Bd H m (BJ H m) us0 us) (hH:Br H m (BJ H m) H0) (hv:AC v) (hn:BK Hn)
 (hC:C (v.ren (AB m n kn)) (AV (AB m n kn) Hn ++ A6 H m)):FD M f us H n C :=
 ⟨_,_,L5 m hr hm hall hus hH hv hn ⟨rfl,rfl⟩,hC⟩
theorem Ahl {f:Nat} {v:V} {us:List V} {H:Hp} {n:Nat} {K:V→Hp→Prop} (hf:EC M f) (hv:(v.solid && !v.isAgg)=true) (h:AR M f (us ++ [v]) H n K):Eo M (.fn f (.st 1 (.fcons 0 v .fnil))) us H n K:=by
 refine .inl ⟨⟨hf,?_⟩,h⟩
 simpa [V.fhas,V.fget] using hv
theorem Ahw {f:Nat} {v:V} {us us0:List V} {H:Hp} {n:Nat} {C:V→Hp→Prop} {r:V} (hf:EC M f) (hv:(v.solid && !v.isAgg)=true) (hr:Ag M f us0 [] 0 (fun r' H' k'=>r'=r∧H'=[]∧k'=0)) (hus:Bd H [] (ids H) us0 (us ++ [v])) (hv2:r.ren (Bh [] n 0)=r) (hn:AC r) (hC:C r H):SI M (.fn f (.st 1 (.fcons 0 v .fnil))) us H n C :=
 ⟨r,H,Ahl hf hv (Im hr hus hv2 hn ⟨rfl,rfl⟩),hC⟩
def Io (v:V) (i:Nat) (r:V):V:=match v with | .junk=>r | v=>.fcons i v r
def Gb (v:V):Prop:=match v with | .junk=>True | v=>v.solid=true
theorem Afi (A:List V) (H:Hp) (r:RVr) (rs:List RVr) (i:Nat):FY A H (r :: rs) i=Io (DC A H r) i (FY A H rs (i + 1)):=by
 simp only [FY,Io];split <;> simp_all
theorem Afp (A:List V) (H:Hp) (i:Nat):FY A H [] i = .fnil:=rfl
theorem Ah8 (A:List V) (H:Hp) (r:RVr) (rs:List RVr):G5 A H (r :: rs)=(Gb (DC A H r)∧G5 A H rs):=by
 simp only [G5,Gb];split <;> simp_all
theorem Ae4 (A:List V) (H:Hp):G5 A H []=True:=rfl
theorem WU (k:IntKind) (n:Int) (ix:Nat) (r:V):Io (.int k n) ix r = .fcons ix (.int k n) r:=rfl
theorem X0 (k:IntKind) (n:Int):Gb (.int k n)=True:=EL
theorem Uy (b:Bool) (ix:Nat) (r:V):Io (.bool b) ix r = .fcons ix (.bool b) r:=rfl
theorem T9 (b:Bool):Gb (.bool b)=True:=EL
theorem XD (s:ByteArray) (ix:Nat) (r:V):Io (.str s) ix r = .fcons ix (.str s) r:=rfl
theorem Xw (s:ByteArray):Gb (.str s)=True:=EL
theorem V1  (ix:Nat) (r:V):Io (.nilp) ix r = .fcons ix (.nilp) r:=rfl
theorem UA :Gb (.nilp)=True:=EL
theorem YX (i:Nat) (p:List Stp) (ix:Nat) (r:V):Io (.ptr i p) ix r = .fcons ix (.ptr i p) r:=rfl
theorem XT (i:Nat) (p:List Stp):Gb (.ptr i p)=True:=EL
theorem TR  (ix:Nat) (r:V):Io (.nils) ix r = .fcons ix (.nils) r:=rfl
theorem SZ :Gb (.nils)=True:=EL
theorem Aas (i:Nat) (p:List Stp) (o n sz:Nat) (ix:Nat) (r:V):Io (.sl i p o n sz) ix r = .fcons ix (.sl i p o n sz) r:=rfl
theorem Ada (i:Nat) (p:List Stp) (o n sz:Nat):Gb (.sl i p o n sz)=True:=EL
theorem YJ (sz n:Nat) (f:Nat→V) (ix:Nat) (r:V):Io (.lst sz n f) ix r = .fcons ix (.lst sz n f) r:=rfl
theorem Xa (sz n:Nat) (f:Nat→V):Gb (.lst sz n f)=True:=EL
theorem Ui  (ix:Nat) (r:V):Io (.nili) ix r = .fcons ix (.nili) r:=rfl
theorem Vp :Gb (.nili)=True:=EL
theorem Xc (t:Nat) (v:V) (ix:Nat) (r:V):Io (.ifc t v) ix r = .fcons ix (.ifc t v) r:=rfl
theorem Ze (t:Nat) (v:V):Gb (.ifc t v)=True:=EL
theorem Ade (n:Nat) (v:V) (ix:Nat) (r:V):Io (.st n v) ix r = .fcons ix (.st n v) r:=rfl
theorem Abr (n:Nat) (v:V):Gb (.st n v)=True:=EL
theorem Aa8 (sz n:Nat) (f:Nat→V) (ix:Nat) (r:V):Io (.ar sz n f) ix r = .fcons ix (.ar sz n f) r:=rfl
theorem ZP (sz n:Nat) (f:Nat→V):Gb (.ar sz n f)=True:=EL
theorem Zf (v:V) (ix:Nat) (r:V):Io (.imm v) ix r = .fcons ix (.imm v) r:=rfl
theorem X5 (v:V):Gb (.imm v)=True:=EL
theorem X2 (i:Nat) (ix:Nat) (r:V):Io (.map i) ix r = .fcons ix (.map i) r:=rfl
theorem W4 (i:Nat):Gb (.map i)=True:=EL
theorem Vi  (ix:Nat) (r:V):Io (.nilm) ix r = .fcons ix (.nilm) r:=rfl
theorem TP :Gb (.nilm)=True:=EL
theorem Ab3 (f:Nat) (c:V) (ix:Nat) (r:V):Io (.fn f c) ix r = .fcons ix (.fn f c) r:=rfl
theorem Aax (f:Nat) (c:V):Gb (.fn f c)=True:=EL
theorem VI  (ix:Nat) (r:V):Io (.nilf) ix r = .fcons ix (.nilf) r:=rfl
theorem UK :Gb (.nilf)=True:=EL
theorem Aht (w:BitVec 64) (ix:Nat) (r:V):Io (W w) ix r = .fcons ix (W w) r:=rfl
theorem Ahr (w:BitVec 64):Gb (W w)=True:=by simp [Gb,V.solid,W]
theorem Aef (w:BitVec 8) (ix:Nat) (r:V):Io (B w) ix r = .fcons ix (B w) r:=rfl
theorem Afm (w:BitVec 8):Gb (B w)=True:=by simp [Gb,V.solid,B]
theorem Adr (d:Dg) (ix:Nat) (r:V):Io (dg d) ix r = .fcons ix (dg d) r:=rfl
theorem Acb (d:Dg):Gb (dg d)=True:=by simp [Gb,V.solid,dg]
def LTP:=(C4 (Er @Afi @Afp @Ah8 @Ae4 @WU @X0 @Uy @T9 @XD @Xw @V1 @UA @YX @XT) (CA @TR @SZ @Aas @Ada @YJ @Xa @Ui @Vp @Xc @Ze @Ade @Abr @Aa8 @ZP @Zf) (CA @X5 @X2 @W4 @Vi @TP @Ab3 @Aax @VI @UK @Aht @Ahr @Aef @Afm @Adr @Acb))
theorem UL (w:BitVec 64):AC (W w)=True:=rfl
theorem ZJ (w:BitVec 8):AC (B w)=True:=rfl
theorem Nn (d:Dg):AC (dg d)=True:=eq_true (by simp only [AC,dg,B,implies_true])
def Dg.put (d:Dg) (k:Nat) (b:BitVec 8):Dg:=Dg.mk' fun j=>if j=k then b else d.at j
theorem Dg.at_out (d:Dg) (j:Nat) (hj:¬ j < 32):d.at j=0:=by
 rw [Dg.at,List.getD_eq_getElem?_getD,List.getElem?_eq_none (by rw [d.h];omega)];rfl
theorem Rk (A:List V) (H:Hp) (n:Nat) (zk zv:Z):Ae A H n (.mkmap zk zv)=⟨True,.map n,(n,.mp 0 (fun _=>zk.v 0) (fun _=>zv.v 0)) :: H⟩:=rfl
theorem Su (A:List V) (H:Hp) (n:Nat) (s:ES) (z:Z) (ok:Bool) (m k:X):Ae A H n (.mlook s z ok m k)=KN s z ok (m.ev A) (k.ev A) H:=rfl
theorem TL (A:List V) (H:Hp) (n:Nat) (s:ES) (m k x:X):Ae A H n (.mupd s m k x)=Vo s (m.ev A) (k.ev A) (x.ev A) H:=rfl
def Mw (s:ES) (z:Z) (ok:Bool) (hh:Bool) (b k:V) (H:Hp):Out:=match b with
 | .mp n ks vs=>⟨hh=true∧k.solid=true∧AD true s k k∧∀ i,i < n→AD true s k (ks i),
  (match Kk s k ks 0 n with
  | some i=>if ok then .tup (.fcons 0 (vs i) (.fcons 1 (.bool true) .fnil)) else vs i
  | none=>if ok then .tup (.fcons 0 (z.v 0) (.fcons 1 (.bool false) .fnil)) else z.v 0),H⟩
 | _=>BG H
def Qz (s:ES) (hh:Bool) (b k x:V) (id:Nat) (H:Hp):Out:=match b with
 | .mp n ks vs=>⟨hh=true∧k.solid=true∧x.solid=true∧AD true s k k∧∀ i,i < n→AD true s k (ks i),.tup .fnil,
  BU H id (.mp (match Kk s k ks 0 n with | some _=>n | none=>n + 1) (fun j=>if j=(Kk s k ks 0 n).getD n then k else ks j) (fun j=>if j=(Kk s k ks 0 n).getD n then x else vs j))⟩
 | _=>BG H
theorem YL (s:ES) (z:Z) (ok:Bool) (id:Nat) (k:V) (H:Hp):KN s z ok (.map id) k H=Mw s z ok (Af H id) (hget H id) k H:=by
 simp only [KN,Mw]
 generalize hget H id=b
 cases b <;> rfl
theorem ZH (s:ES) (id:Nat) (k x:V) (H:Hp):Vo s (.map id) k x H=Qz s (Af H id) (hget H id) k x id H:=by
 simp only [Vo,Qz]
 generalize hget H id=b
 cases b <;> rfl
section
variable {α:Type}
def Kl (k:Dg):List (Dg × α)→Option Nat
 | []=>none
 | (a,_) :: r=>if k=a then some 0 else (Kl k r).map (· + 1)
def Q7 (k:Dg):List (Dg × α)→Option α
 | []=>none
 | (a,b) :: r=>if k=a then some b else Q7 k r
def Hm (k:Dg) (x:α):List (Dg × α)→List (Dg × α)
 | []=>[(k,x)]
 | (a,b) :: r=>if k=a then (k,x) :: r else (a,b) :: Hm k x r
def BR (g:α→V) (d:α) (l:List (Dg × α)):V:=.mp l.length (fun j=>dg (l.getD j (Dg.zero,d)).1) (fun j=>g (l.getD j (Dg.zero,d)).2)
theorem QZ (k:Dg) (ks:Nat→V) (d:α):∀ (l:List (Dg × α)) (i:Nat),(∀ j,j < l.length→ks (i + j)=dg (l.getD j (Dg.zero,d)).1)→Kk (.ar 32 1 false .int) (dg k) ks i l.length=(Kl k l).map (i + ·)
 | [],_,_=>rfl
 | (a, b) :: r, i, h => by
   have h0:=h 0 B5
   simp only [Nat.add_zero,List.getD_cons_zero] at h0
   have ih:=QZ k ks d r (i + 1) (fun j hj=>by
    have:=h (j + 1) (by simpa using hj)
    simp only [List.getD_cons_succ] at this
    rw [← this];congr 1;omega)
   simp only [List.length_cons,Kk,h0,Ik,decide_eq_true_eq,Kl]
   by_cases hk:k=a
   ·simp [hk]
   ·simp only [hk,if_false,ih,Option.map_map]
    congr 1
    funext j
    simp only [Function.comp];omega
theorem Qd (k:Dg) (d:α) (l:List (Dg × α)):Kk (.ar 32 1 false .int) (dg k) (fun j=>dg (l.getD j (Dg.zero,d)).1) 0 l.length=Kl k l:=by
 rw [QZ k _ d l 0 (fun j _=>by rw [Nat.zero_add])]
 cases Kl k l <;> simp
theorem Rb (k:Dg) (d:α):∀ l:List (Dg × α),Q7 k l=(Kl k l).map (fun i=>(l.getD i (Dg.zero,d)).2)
 | []=>rfl
 | (a, b) :: r => by
   simp only [Q7,Kl]
   by_cases hk:k=a
   ·simp [hk]
   ·simp only [hk,if_false,Rb k d r,Option.map_map]
    congr 1
def lkR (z:Z) (ok:Bool) (g:α→V):Option α→V
 | some x=>if ok then .tup (.fcons 0 (g x) (.fcons 1 (.bool true) .fnil)) else g x
 | none=>if ok then .tup (.fcons 0 (z.v 0) (.fcons 1 (.bool false) .fnil)) else z.v 0
theorem Ac1 (z:Z) (g:α→V) (x:α):lkR z true g (some x) = .tup (.fcons 0 (g x) (.fcons 1 (.bool true) .fnil)):=rfl
theorem Aav (z:Z) (g:α→V):lkR z true g none = .tup (.fcons 0 (z.v 0) (.fcons 1 (.bool false) .fnil)):=rfl
theorem Aau (z:Z) (g:α→V) (x:α):lkR z false g (some x)=g x:=rfl
theorem Aca (z:Z) (g:α→V):lkR z false g none=z.v 0:=rfl
theorem S6 (z:Z) (ok hh:Bool) (g:α→V) (d:α) (l:List (Dg × α)) (k:Dg) (H:Hp):Mw (.ar 32 1 false .int) z ok hh (BR g d l) (dg k) H=⟨hh=true,lkR z ok g (Q7 k l),H⟩:=by
 simp only [Mw,BR,Qd,Rb k d l,DQ,eq_true (Gk true _ _),implies_true,RF]
 congr 1
 cases Kl k l <;> rfl
theorem MR (k:Dg) (x:α):∀ l:List (Dg × α),(Hm k x l).length=(match Kl k l with | some _=>l.length | none=>l.length + 1)
 | []=>rfl
 | (a, b) :: r => by
   simp only [Hm,Kl]
   by_cases hk:k=a
   ·simp [hk]
   ·simp only [hk,if_false,List.length_cons,MR k x r]
    cases Kl k r <;> rfl
theorem Ra (k:Dg) (x:α) (d:Dg × α):∀ (l:List (Dg × α)) (j:Nat),(Hm k x l).getD j d=if j=(Kl k l).getD l.length then (k,x) else l.getD j d
 | [], j => by
   simp only [Hm,Kl,Option.getD_none,List.length_nil]
   cases j <;> simp
 | (a, b) :: r, j => by
   simp only [Hm,Kl]
   by_cases hk:k=a
   ·simp only [hk,if_true,Option.getD_some]
    cases j <;> simp
   ·simp only [hk,if_false]
    cases j with
    | zero =>
      simp only [List.getD_cons_zero,List.length_cons]
      rw [if_neg]
      cases Kl k r <;> simp
    | succ j =>
      simp only [List.getD_cons_succ,Ra k x d r j,List.length_cons]
      have e:((Kl k r).map (· + 1)).getD (r.length + 1)=(Kl k r).getD r.length + 1:=by cases Kl k r <;> rfl
      rw [e]
      simp only [Nat.add_right_cancel_iff]
theorem Uj (hh:Bool) (g:α→V) (d:α) (l:List (Dg × α)) (k:Dg) (x:α) (id:Nat) (H:Hp):Qz (.ar 32 1 false .int) hh (BR g d l) (dg k) (g x) id H=⟨hh=true∧(g x).solid=true,.tup .fnil,BU H id (BR g d (Hm k x l))⟩:=by
 have e:BR g d (Hm k x l) = .mp (match Kl k l with | some _=>l.length | none=>l.length + 1) (fun j=>if j=(Kl k l).getD l.length then dg k else dg (l.getD j (Dg.zero,d)).1) (fun j=>if j=(Kl k l).getD l.length then g x else g (l.getD j (Dg.zero,d)).2):=by
  simp only [BR,MR,Ra]
  congr 1
  ·funext j;split <;> rfl
  ·funext j;split <;> rfl
 rw [e]
 simp only [Qz,BR,Qd,DQ,eq_true (Gk true _ _),implies_true,RF]
theorem QE (m:List Nat) (g:α→V) (hg:∀ x,(g x).ren m=g x) (d:α) (l:List (Dg × α)):(BR g d l).ren m=BR g d l:=by
 simp only [BR,V.ren,Wb,hg]
theorem NQ (g:α→V) (hg:∀ x,AC (g x)) (d:α) (l:List (Dg × α)):AC (BR g d l):=by
 simp only [BR,AC,Nn,true_and];exact fun i _=>hg _
theorem HW (H:Hp) (m z:List Nat) (g:α→V) (hg:∀ x,Az H m z (g x) (g x)) (d:α) (l:List (Dg × α)):Az H m z (BR g d l) (BR g d l):=by
 simp only [BR,Az,true_and];exact fun i _=>⟨(AU _ _ _ _ _).mpr rfl,hg _⟩
theorem YE (H:Hp) (m z:List Nat) (g:α→V) (d:α) (ks vs:Nat→V):Az H m z (BR g d []) (.mp 0 ks vs):=by
 simp only [BR,Az,List.length_nil,Nat.not_lt_zero,false_implies,implies_true,and_self]
end
structure Pr where
 l:List (BitVec 8)
 h:l.length=64
deriving DecidableEq
def Pr.at (d:Pr) (j:Nat):BitVec 8:=d.l.getD j 0
def Pr.mk' (f:Nat→BitVec 8):Pr:=⟨(List.range 64).map f,by simp⟩
theorem Pr.at_mk' (f:Nat→BitVec 8) (j:Nat) (hj:j < 64):(Pr.mk' f).at j=f j:=by
 simp [Pr.at,Pr.mk',List.getD,List.getElem?_map,List.getElem?_range hj]
theorem Pr.ext' {a b:Pr} (h:∀ j,j < 64→a.at j=b.at j):a=b:=by
 obtain ⟨l,hl⟩:=a
 obtain ⟨m,hm⟩:=b
 have:l=m:=by
  apply List.ext_getElem Aa
  intro i h1 h2
  have:=h i Aa
  simpa [Pr.at,List.getD,h1,h2] using this
 subst this;rfl
def Pr.zero:Pr:=Pr.mk' fun _=>0
theorem Pr.at_out (d:Pr) (j:Nat) (hj:¬ j < 64):d.at j=0:=by
 rw [Pr.at,List.getD_eq_getElem?_getD,List.getElem?_eq_none (by rw [d.h];omega)];rfl
theorem Pr.at_zero (j:Nat):Pr.zero.at j=0:=by
 by_cases hj:j < 64
 ·rw [Pr.zero,Pr.at_mk' _ _ hj]
 ·exact Pr.at_out _ _ hj
def Bk (p:Pr):V:=.ar 1 64 (fun j=>B (p.at j))
theorem Sv (p:Pr):(Bk p).solid=true:=rfl
theorem We (p:Pr):(Bk p).size=64:=rfl
theorem YP (p:Pr):(Bk p).isAgg=true:=rfl
theorem WX (m:List Nat) (p:Pr):(Bk p).ren m=Bk p:=rfl
theorem NF (p:Pr):AC (Bk p)=True:=eq_true (by simp only [AC,Bk,B,implies_true])
theorem Al6 (H:Hp) (m z:List Nat) (a b:Pr):Az H m z (Bk a) (Bk b) ↔ b=a:=by
 simp only [Az,Bk,QA,true_and]
 constructor
 ·intro h;exact Pr.ext' (fun j hj=>h j hj)
 ·rintro rfl _ _;rfl
theorem UB (H:Hp) (m z:List Nat) (a:Pr) (u:V):Bi H m z (Bk a) u=Az H m z (Bk a) u:=rfl
theorem XQ (k:Nat) (p:Pr):V.get [.i 1 k] (Bk p)=B (p.at k):=rfl
theorem TY (p:Pr):Rp 1 64 (Bk p)=True:=by simp [Bk,Rp]
theorem UC (c:Bool) (a b:Pr):AD c (.ar 64 1 false .int) (Bk a) (Bk b):=by
 simp only [AD,Bk,true_and]
 intro i _
 refine ⟨rfl,rfl,?_⟩
 simp only [B]
theorem Vy (a b:Pr):AK (.ar 64 1 false .int) (Bk a) (Bk b)=decide (a=b):=by
 have h1:AK (.ar 64 1 false .int) (Bk a) (Bk b)=(List.range 64).all (fun i=>decide (a.at i=b.at i)):=by
  simp only [AK,Bk,B,eqB]
 rw [h1,Bool.eq_iff_iff,List.all_eq_true]
 simp only [decide_eq_true_eq,List.mem_range]
 constructor
 ·exact fun h=>Pr.ext' h
 ·rintro rfl _ _;rfl
theorem Zl:V.ar 1 64 (fun _=>B 0#8)=Bk Pr.zero:=by
 have h:(fun _=>B 0#8)=fun j=>B (Pr.zero.at j):=by funext j;rw [Pr.at_zero];rfl
 simp only [Bk,h]
theorem Xe (d:Dg):Rp 1 32 (dg d)=True:=by simp [dg,Rp]
theorem S7 (o n sz:Nat) (d:Dg):GY o n sz (dg d)=some (sz,n,fun i=>B (d.at (o + i))):=rfl
theorem SB (o n:Nat) (d:Dg):FC o n 1 (dg d)=(o + n≤32):=by simp [dg,FC]
theorem O0 (o n sz:Nat) (d:Pr):GY o n sz (Bk d)=some (sz,n,fun i=>B (d.at (o + i))):=rfl
theorem OI (o n:Nat) (d:Pr):FC o n 1 (Bk d)=(o + n≤64):=by simp [Bk,FC]
theorem Vl (H:Hp) (m z:List Nat) (d:Pr) (l:List (Dg × Pr)):Az H m z (BR Bk d l) (BR Bk d l)=True:=eq_true (HW H m z Bk (fun _=>(Al6 _ _ _ _ _).mpr rfl) d l)
theorem RO (d:Pr) (l:List (Dg × Pr)):AC (BR Bk d l)=True:=eq_true (NQ Bk (fun x=>by rw [NF];trivial) d l)
theorem Vr (m:List Nat) (d:Pr) (l:List (Dg × Pr)):(BR Bk d l).ren m=BR Bk d l:=QE m Bk (fun _=>rfl) d l
theorem YW (p:Pr) (i:Nat) (r:V):Io (Bk p) i r = .fcons i (Bk p) r:=rfl
theorem W5 (p:Pr):Gb (Bk p)=True:=by simp [Gb,Bk,V.solid]
end Mv
