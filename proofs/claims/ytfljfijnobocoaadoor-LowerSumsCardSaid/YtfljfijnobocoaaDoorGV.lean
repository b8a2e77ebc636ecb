/- A part. -/
import Derived.Test.YtfljfijnobocoaaDoorGU
set_option linter.all false
namespace Mv
open Go
variable {M:Seat}
def ids:Hp→List Nat
 | []=>[]
 | (i,_) :: r=>i :: ids r
def CV:Hp→List Nat→List Nat
 | [],_=>[]
 | (i,_) :: r,m=>if m.contains i then CV r m else i :: CV r m
theorem HC (m:List Nat):∀ (H:Hp),∀ i ∈ CV H m,i ∉ m
 | [],_,h=>by cases h
 | (j, _) :: r, i, h => by
   simp only [CV] at h;split at h
   ·exact HC m r i h
   ·rename_i hj;rcases List.mem_cons.1 h with rfl | h
    ·intro hm;exact hj (by simpa [List.contains_iff_mem] using hm)
    ·exact HC m r i h
theorem Jv (j:Nat):∀ H:Hp,(ids H).contains j=Af H j
 | []=>rfl
 | (i, _) :: r => by
   simp only [ids,Af,List.contains_cons,Jv j r];rw [Bool.beq_comm]
theorem Aqc (H:Hp) (i:Nat):TG H (ids H) i=(Af H i && (hget H i).solid):=by
 simp only [TG,Jv,Bool.and_self]
theorem Km (m:List Nat) (j:Nat):∀ H:Hp,(CV H m).contains j=(Af H j && !m.contains j)
 | []=>by simp [CV,Af]
 | (i, _) :: r => by
   simp only [CV];by_cases h:m.contains i=true
   ·rw [if_pos h,Km m j r];simp only [Af];by_cases hij:i=j
    ·subst hij;rw [h];simp
    ·have:(i == j)=false:=by simpa using hij
     rw [this,Bool.false_or]
   ·rw [if_neg h];simp only [List.contains_cons,Km m j r,Af];by_cases hij:i=j
    ·subst hij;rw [show m.contains i=false by simpa using h];simp
    ·have h1:(i == j)=false:=by simpa using hij
     have h2:(j == i)=false:=by simp;exact fun h=>hij h.symm
     rw [h1,h2];simp
theorem Aqk (H:Hp) (m:List Nat) (i:Nat):TG H (CV H m) i=((Af H i && !m.contains i) && (hget H i).solid):=by
 simp only [TG,Km];cases Af H i <;> simp
def AM:List Nat→Nat→Nat→List Nat
 | [],_,0=>[]
 | [],n,k + 1=>n :: AM [] (n + 1) k
 | _ :: _,_,0=>[]
 | a :: m,n,k + 1=>a :: AM m n k
theorem Of:∀ (k n:Nat),(List.range k).map (fun i=>n + i)=AM [] n k
 | 0,_=>rfl
 | k + 1, n => by
   rw [List.range_succ_eq_map,List.map_cons,List.map_map,AM,← Of k (n + 1)];simp only [Nat.add_zero,List.cons.injEq,true_and];apply List.map_congr_left;intro i _;simp only [Function.comp];omega
theorem GQ:∀ (m:List Nat) (n k:Nat),m.length≤k→Bo m n k=AM m n k
 | [],n,k,_=>by simp only [Bo,List.length_nil,Nat.sub_zero,List.nil_append];exact Of k n
 | a :: m,n,0,h=>by simp at h
 | a :: m, n, k + 1, h => by
   rw [AM,← GQ m n k V0];simp only [Bo,List.length_cons,List.cons_append,Nat.add_sub_add_right]
def Cw:Hp→Prop
 | []=>True
 | (_,v) :: r=>AG v∧Cw r
theorem Cw.H:∀ {H:Hp},Cw H→Oy H
 | [],_,id,h=>by simp [Af] at h
 | (i, v) :: r, hn, id, h => by
   simp only [Cw] at hn;simp only [hget];split
   ·exact hn.1
   ·rename_i hi;exact Cw.H hn.2 id (by simpa [Af,hi] using h)
theorem HD {f:Nat} {us us0:List V} {H:Hp} {n:Nat} {K:V→Hp→Prop} {v:V} (hr:As M f us0 [] 0 (Q3 v [] 0)) (hus:Bh H [] (ids H) us0 us) (hv:v.ren (Bo [] n 0)=v) (hn:AG v) (hK:K v H):Bk M f us H n K :=
 QT (ids H) hr hus hv hn hK
theorem Sf {f:Nat} {us us0:List V} {H H0 Hn:Hp} {n k kn:Nat} {K:V→Hp→Prop} {v:V} (m:List Nat) (hr:As M f us0 H0 k (Q3 v Hn kn))
 (hm:(decide m.Nodup && decide (m.length=k) && decide (k≤kn) && decide (kn≤k + 16))=true) (hall:(m.all fun i=>Af H i)=true) (hus:Bh H m (CV H m) us0 us) (hH:B3 H m (CV H m) H0) (hv:AG v) (hn:Cw Hn)
 (hK:K (v.ren (AM m n kn)) (Bf (AM m n kn) Hn ++ AH H m)):Bk M f us H n K:=by
 simp only [Bool.and_eq_true,decide_eq_true_eq] at hm;obtain ⟨⟨⟨h1,h2⟩,h3⟩,h4⟩:=hm;refine EE hr True m (CV H m) h1 (HC m H) h2 (by simpa using hall) hus hH ?_;rintro v' H' k' ⟨rfl,rfl,rfl⟩;refine ⟨⟨h4,fun _=>⟨hv,hn.H⟩⟩,?_⟩;rw [GQ m n k' Aa,if_pos trivial];exact hK
theorem Si {f:Nat} {us us0:List V} {H Hn:Hp} {n kn:Nat} {K:V→Hp→Prop} {v:V} (hr:As M f us0 [] 0 (Q3 v Hn kn))
 (hk:decide (kn≤16)=true) (hus:Bh H [] (ids H) us0 us) (hv:AG v) (hn:Cw Hn)
 (hK:K (v.ren (AM [] n kn)) (Bf (AM [] n kn) Hn ++ H)):Bk M f us H n K:=by
 refine EE hr True [] (ids H) List.nodup_nil BF rfl BF hus trivial ?_;rintro v' H' k' ⟨rfl,rfl,rfl⟩;refine ⟨⟨by have:=of_decide_eq_true hk;omega,fun _=>⟨hv,hn.H⟩⟩,?_⟩;rw [GQ [] n k' BF,if_pos trivial];exact hK
theorem Adh {f:Nat} {us us0:List V} {H H0 Hn:Hp} {n k kn:Nat} {K:V→Hp→Prop} {v:V} (m m0:List Nat) (hr:As M f us0 H0 k (Q3 v Hn kn))
 (h0:((ids H0).all fun id=>match m[id]? with | some i=>m0.contains i | none=>true)=true) (h0m:(m0.all fun i=>m.contains i)=true)
 (hm:(decide m.Nodup && decide (m.length=k) && decide (k≤kn) && decide (kn≤k + 16))=true) (hall:(m.all fun i=>Af H i || DV us i)=true) (hall0:(m0.all fun i=>Af H i)=true) (hus:Bh H m (CV H m) us0 us) (hH:B3 H m (CV H m) H0) (hv:AG v) (hn:Cw Hn)
 (hK:K (v.ren (AM m n kn)) (Bf (AM m n kn) Hn ++ AH H m0)):Bk M f us H n K:=by
 simp only [Bool.and_eq_true,decide_eq_true_eq] at hm;obtain ⟨⟨⟨h1,h2⟩,h3⟩,h4⟩:=hm;refine Re hr True m m0 (CV H m) (fun id i hid hi=>?_) (fun i hi=>?_) h1 (HC m H) h2 (by simpa using hall0) (by simpa using hall) hus hH ?_
 ·rw [List.all_eq_true] at h0;have hmem:id ∈ ids H0:=by
   have:=Jv id H0;rw [hid] at this;simpa [List.contains_iff_mem] using this
  have:=h0 id hmem;rw [hi] at this;simpa using this
 ·rw [List.all_eq_true] at h0m;simpa using h0m i hi
 ·rintro v' H' k' ⟨rfl,rfl,rfl⟩;refine ⟨⟨h4,fun _=>⟨hv,hn.H⟩⟩,?_⟩;rw [GQ m n k' Aa,if_pos trivial];exact hK
theorem SP {f:Nat} {us us0:List V} {H H0 Hn:Hp} {n k kn:Nat} {K:V→Hp→Prop} {v:V} (m m0:List Nat) (hr:As M f us0 H0 k (Q3 v Hn kn))
 (h0:((ids H0).all fun id=>match m[id]? with | some i=>m0.contains i | none=>true)=true) (h0m:(m0.all fun i=>m.contains i)=true)
 (hm:(decide m.Nodup && decide (m.length=k) && decide (k≤kn) && decide (kn≤k + 16))=true) (hall:(m.all fun i=>Af H i || (Qq m0 H i || DV us i))=true) (hall0:(m0.all fun i=>Af H i)=true) (hus:Bh H m [] us0 us) (hH:B3 H m [] H0)
 (hK:K (v.ren (AM m n kn)) (Bf (AM m n kn) Hn ++ AH H m0)):Bk M f us H n K:=by
 simp only [Bool.and_eq_true,decide_eq_true_eq] at hm;obtain ⟨⟨⟨h1,h2⟩,h3⟩,h4⟩:=hm
 refine J0 hr False m m0 [] (fun id i hid hi=>?_) (fun i hi=>?_) h1 BF h2 (by simpa using hall0) (fun i hi=>by
  have:=List.all_eq_true.1 hall i hi;simp only [Bool.or_eq_true] at this
  exact this.elim .inl (fun h=>.inr h.symm)) hus hH ?_
 ·rw [List.all_eq_true] at h0;have hmem:id ∈ ids H0:=by
   have:=Jv id H0;rw [hid] at this;simpa [List.contains_iff_mem] using this
  have:=h0 id hmem;rw [hi] at this;simpa using this
 ·rw [List.all_eq_true] at h0m;simpa using h0m i hi
 ·rintro v' H' k' ⟨rfl,rfl,rfl⟩;refine ⟨⟨h4,fun h=>h.elim⟩,?_⟩;rw [GQ m n k' Aa,if_neg id,List.append_nil];exact hK
theorem WE {f:Nat} {us us0:List V} {H:Hp} {n:Nat} {C:V→Hp→Prop} {v:V} (hr:As M f us0 [] 0 (Q3 v [] 0)) (hus:Bh H [] (ids H) us0 us) (hv:v.ren (Bo [] n 0)=v) (hn:AG v) (hC:C v H):IR M f us H n C :=
 ⟨v,H,HD hr hus hv hn ⟨rfl,rfl⟩,hC⟩
theorem Agp {f:Nat} {us us0:List V} {H Hn:Hp} {n kn:Nat} {C:V→Hp→Prop} {v:V} (hr:As M f us0 [] 0 (Q3 v Hn kn))
 (hk:decide (kn≤16)=true) (hus:Bh H [] (ids H) us0 us) (hv:AG v) (hn:Cw Hn)
 (hC:C (v.ren (AM [] n kn)) (Bf (AM [] n kn) Hn ++ H)):IR M f us H n C :=
 ⟨_,_,Si hr hk hus hv hn ⟨rfl,rfl⟩,hC⟩
theorem Air {f:Nat} {us us0:List V} {H H0 Hn:Hp} {n k kn:Nat} {C:V→Hp→Prop} {v:V} (m:List Nat) (hr:As M f us0 H0 k (Q3 v Hn kn))
 (hm:(decide m.Nodup && decide (m.length=k) && decide (k≤kn) && decide (kn≤k + 16))=true) (hall:(m.all fun i=>Af H i)=true) (hus:Bh H m (CV H m) us0 us) (hH:B3 H m (CV H m) H0) (hv:AG v) (hn:Cw Hn)
 (hC:C (v.ren (AM m n kn)) (Bf (AM m n kn) Hn ++ AH H m)):IR M f us H n C :=
 ⟨_,_,Sf m hr hm hall hus hH hv hn ⟨rfl,rfl⟩,hC⟩
theorem EB {f:Nat} {v:V} {us:List V} {H:Hp} {n:Nat} {K:V→Hp→Prop} (hf:Fs M f) (hv:(v.solid && !v.isAgg)=true) (h:Bk M f (us ++ [v]) H n K):Hz M (.fn f (.st 1 (.fcons 0 v .fnil))) us H n K:=by
 refine .inl ⟨⟨hf,?_⟩,h⟩;simpa [V.fhas,V.fget] using hv
theorem Anc {f:Nat} {v:V} {us us0:List V} {H:Hp} {n:Nat} {C:V→Hp→Prop} {r:V} (hf:Fs M f) (hv:(v.solid && !v.isAgg)=true) (hr:As M f us0 [] 0 (fun r' H' k'=>r'=r∧H'=[]∧k'=0)) (hus:Bh H [] (ids H) us0 (us ++ [v])) (hv2:r.ren (Bo [] n 0)=r) (hn:AG r) (hC:C r H):XA M (.fn f (.st 1 (.fcons 0 v .fnil))) us H n C :=
 ⟨r,H,EB hf hv (HD hr hus hv2 hn ⟨rfl,rfl⟩),hC⟩
def KK (v:V) (i:Nat) (r:V):V:=match v with | .junk=>r | v=>.fcons i v r
def HT (v:V):Prop:=match v with | .junk=>True | v=>v.solid=true
theorem Ape (A:List V) (H:Hp) (r:RVr) (rs:List RVr) (i:Nat):KI A H (r :: rs) i=KK (Ez A H r) i (KI A H rs (i + 1)):=by
 simp only [KI,KK];split <;> simp_all
theorem Al4 (A:List V) (H:Hp) (i:Nat):KI A H [] i = .fnil:=rfl
theorem Anw (A:List V) (H:Hp) (r:RVr) (rs:List RVr):Lk A H (r :: rs)=(HT (Ez A H r)∧Lk A H rs):=by
 simp only [Lk,HT];split <;> simp_all
theorem Apf (A:List V) (H:Hp):Lk A H []=True:=rfl
theorem Afh (k:IntKind) (n:Int) (ix:Nat) (r:V):KK (.int k n) ix r = .fcons ix (.int k n) r:=rfl
theorem Abt (k:IntKind) (n:Int):HT (.int k n)=True:=FP
theorem Xl (b:Bool) (ix:Nat) (r:V):KK (.bool b) ix r = .fcons ix (.bool b) r:=rfl
theorem XJ (b:Bool):HT (.bool b)=True:=FP
theorem Abd (s:ByteArray) (ix:Nat) (r:V):KK (.str s) ix r = .fcons ix (.str s) r:=rfl
theorem Aad (s:ByteArray):HT (.str s)=True:=FP
theorem Zk  (ix:Nat) (r:V):KK (.nilp) ix r = .fcons ix (.nilp) r:=rfl
theorem X9 :HT (.nilp)=True:=FP
theorem Abx (i:Nat) (p:List Stp) (ix:Nat) (r:V):KK (.ptr i p) ix r = .fcons ix (.ptr i p) r:=rfl
theorem Aa0 (i:Nat) (p:List Stp):HT (.ptr i p)=True:=FP
theorem Zj  (ix:Nat) (r:V):KK (.nils) ix r = .fcons ix (.nils) r:=rfl
theorem YY :HT (.nils)=True:=FP
theorem Ak0 (i:Nat) (p:List Stp) (o n sz:Nat) (ix:Nat) (r:V):KK (.sl i p o n sz) ix r = .fcons ix (.sl i p o n sz) r:=rfl
theorem Agz (i:Nat) (p:List Stp) (o n sz:Nat):HT (.sl i p o n sz)=True:=FP
theorem Ae7 (sz n:Nat) (f:Nat→V) (ix:Nat) (r:V):KK (.lst sz n f) ix r = .fcons ix (.lst sz n f) r:=rfl
theorem Abe (sz n:Nat) (f:Nat→V):HT (.lst sz n f)=True:=FP
theorem Z0  (ix:Nat) (r:V):KK (.nili) ix r = .fcons ix (.nili) r:=rfl
theorem Zn :HT (.nili)=True:=FP
theorem Afc (t:Nat) (v:V) (ix:Nat) (r:V):KK (.ifc t v) ix r = .fcons ix (.ifc t v) r:=rfl
theorem Adf (t:Nat) (v:V):HT (.ifc t v)=True:=FP
theorem Ai8 (n:Nat) (v:V) (ix:Nat) (r:V):KK (.st n v) ix r = .fcons ix (.st n v) r:=rfl
theorem Akr (n:Nat) (v:V):HT (.st n v)=True:=FP
theorem Akn (sz n:Nat) (f:Nat→V) (ix:Nat) (r:V):KK (.ar sz n f) ix r = .fcons ix (.ar sz n f) r:=rfl
theorem Akj (sz n:Nat) (f:Nat→V):HT (.ar sz n f)=True:=FP
theorem Aeo (v:V) (ix:Nat) (r:V):KK (.imm v) ix r = .fcons ix (.imm v) r:=rfl
theorem Ae6 (v:V):HT (.imm v)=True:=FP
theorem Aai (i:Nat) (ix:Nat) (r:V):KK (.map i) ix r = .fcons ix (.map i) r:=rfl
theorem Acf (i:Nat):HT (.map i)=True:=FP
theorem YF  (ix:Nat) (r:V):KK (.nilm) ix r = .fcons ix (.nilm) r:=rfl
theorem YZ :HT (.nilm)=True:=FP
theorem Aki (f:Nat) (c:V) (ix:Nat) (r:V):KK (.fn f c) ix r = .fcons ix (.fn f c) r:=rfl
theorem Ajo (f:Nat) (c:V):HT (.fn f c)=True:=FP
theorem Xn  (ix:Nat) (r:V):KK (.nilf) ix r = .fcons ix (.nilf) r:=rfl
theorem Y6 :HT (.nilf)=True:=FP
theorem Aor (w:BitVec 64) (ix:Nat) (r:V):KK (W w) ix r = .fcons ix (W w) r:=rfl
theorem Amn (w:BitVec 64):HT (W w)=True:=by simp [HT,V.solid,W]
theorem Amy (w:BitVec 8) (ix:Nat) (r:V):KK (B w) ix r = .fcons ix (B w) r:=rfl
theorem Ank (w:BitVec 8):HT (B w)=True:=by simp [HT,V.solid,B]
theorem Ag9 (d:Dg) (ix:Nat) (r:V):KK (dg d) ix r = .fcons ix (dg d) r:=rfl
theorem Alk (d:Dg):HT (dg d)=True:=by simp [HT,V.solid,dg]
def LTP:=(Jr (Ik @Ape @Al4 @Anw @Apf @Afh @Abt @Xl @XJ @Abd @Aad @Zk @X9 @Abx @Aa0) (Dm @Zj @YY @Ak0 @Agz @Ae7 @Abe @Z0 @Zn @Afc @Adf @Ai8 @Akr @Akn @Akj @Aeo) (Dm @Ae6 @Aai @Acf @YF @YZ @Aki @Ajo @Xn @Y6 @Aor @Amn @Amy @Ank @Ag9 @Alk))
theorem P9 (w:BitVec 64):AG (W w)=True:=rfl
theorem Ai6 (w:BitVec 8):AG (B w)=True:=rfl
theorem Pc (d:Dg):AG (dg d)=True:=eq_true (by simp only [AG,dg,B,implies_true])
end Mv
namespace Mv
open Go
theorem Aga (k:Nat):(2:Int) ^ k=((2 ^ k:Nat):Int):=by rw [Int.natCast_pow];rfl
theorem RY (n:Nat) (w:Nat):BitVec.ofInt w (n:Int)=BitVec.ofNat w n:=by
 apply BitVec.eq_of_toNat_eq;rw [BitVec.toNat_ofInt,BitVec.toNat_ofNat];have:((2 ^ w:Nat):Int)=(2:Int) ^ w:=by rw [Int.natCast_pow];rfl
 rw [← Int.natCast_emod];rfl
def Dg.put (d:Dg) (k:Nat) (b:BitVec 8):Dg:=Dg.mk' fun j=>if j=k then b else d.at j
theorem Dg.at_out (d:Dg) (j:Nat) (hj:¬ j < 32):d.at j=0:=by
 rw [Dg.at,List.getD_eq_getElem?_getD,List.getElem?_eq_none (by rw [d.h];omega)];rfl
theorem UI (A:List V) (H:Hp) (n:Nat) (zk zv:Z):step A H n (.mkmap zk zv)=⟨True,.map n,(n,.mp 0 (fun _=>zk.v 0) (fun _=>zv.v 0)) :: H⟩:=rfl
theorem T6 (A:List V) (H:Hp) (n:Nat) (s:ES) (z:Z) (ok:Bool) (m k:X):step A H n (.mlook s z ok m k)=Lw s z ok (m.ev A) (k.ev A) H:=rfl
theorem P5 (A:List V) (H:Hp) (n:Nat) (s:ES) (m k x:X):step A H n (.mupd s m k x)=WF s (m.ev A) (k.ev A) (x.ev A) H:=rfl
def MK (s:ES) (z:Z) (ok:Bool) (hh:Bool) (b k:V) (H:Hp):Out:=match b with
 | .mp n ks vs=>⟨hh=true∧k.solid=true∧AQ true s k k∧∀ i,i < n→AQ true s k (ks i),
  (match KD s k ks 0 n with
  | some i=>if ok then .tup (.fcons 0 (vs i) (.fcons 1 (.bool true) .fnil)) else vs i
  | none=>if ok then .tup (.fcons 0 (z.v 0) (.fcons 1 (.bool false) .fnil)) else z.v 0),H⟩
 | _=>bad H
def Mx (s:ES) (hh:Bool) (b k x:V) (id:Nat) (H:Hp):Out:=match b with
 | .mp n ks vs=>⟨hh=true∧k.solid=true∧x.solid=true∧AQ true s k k∧∀ i,i < n→AQ true s k (ks i),.tup .fnil,
  BC H id (.mp (match KD s k ks 0 n with | some _=>n | none=>n + 1) (fun j=>if j=(KD s k ks 0 n).getD n then k else ks j) (fun j=>if j=(KD s k ks 0 n).getD n then x else vs j))⟩
 | _=>bad H
theorem Aeg (s:ES) (z:Z) (ok:Bool) (id:Nat) (k:V) (H:Hp):Lw s z ok (.map id) k H=MK s z ok (Af H id) (hget H id) k H:=by
 simp only [Lw,MK];generalize hget H id=b;cases b <;> rfl
theorem VU (s:ES) (id:Nat) (k x:V) (H:Hp):WF s (.map id) k x H=Mx s (Af H id) (hget H id) k x id H:=by
 simp only [WF,Mx];generalize hget H id=b;cases b <;> rfl
section
variable {α:Type}
def Le (k:Dg):List (Dg × α)→Option Nat
 | []=>none
 | (a,_) :: r=>if k=a then some 0 else (Le k r).map (· + 1)
def lkp (k:Dg):List (Dg × α)→Option α
 | []=>none
 | (a,b) :: r=>if k=a then some b else lkp k r
def Iz (k:Dg) (x:α):List (Dg × α)→List (Dg × α)
 | []=>[(k,x)]
 | (a,b) :: r=>if k=a then (k,x) :: r else (a,b) :: Iz k x r
def G9 (g:α→V) (d:α) (l:List (Dg × α)):V:=.mp l.length (fun j=>dg (l.getD j (Dg.zero,d)).1) (fun j=>g (l.getD j (Dg.zero,d)).2)
theorem RR (k:Dg) (ks:Nat→V) (d:α):∀ (l:List (Dg × α)) (i:Nat),(∀ j,j < l.length→ks (i + j)=dg (l.getD j (Dg.zero,d)).1)→KD (.ar 32 1 false .int) (dg k) ks i l.length=(Le k l).map (i + ·)
 | [],_,_=>rfl
 | (a, b) :: r, i, h => by
   have h0:=h 0 BF;simp only [Nat.add_zero,List.getD_cons_zero] at h0
   have ih:=RR k ks d r (i + 1) (fun j hj=>by
    have:=h (j + 1) (by simpa using hj);simp only [List.getD_cons_succ] at this
    rw [← this];congr 1;omega)
   simp only [List.length_cons,KD,h0,Jh,decide_eq_true_eq,Le];by_cases hk:k=a
   ·simp [hk]
   ·simp only [hk,if_false,ih,Option.map_map]
    congr 1
    funext j;simp only [Function.comp];omega
theorem RD (k:Dg) (d:α) (l:List (Dg × α)):KD (.ar 32 1 false .int) (dg k) (fun j=>dg (l.getD j (Dg.zero,d)).1) 0 l.length=Le k l:=by
 rw [RR k _ d l 0 (fun j _=>by rw [Nat.zero_add])];cases Le k l <;> simp
theorem Sc (k:Dg) (d:α):∀ l:List (Dg × α),lkp k l=(Le k l).map (fun i=>(l.getD i (Dg.zero,d)).2)
 | []=>rfl
 | (a, b) :: r => by
   simp only [lkp,Le];by_cases hk:k=a
   ·simp [hk]
   ·simp only [hk,if_false,Sc k d r,Option.map_map]
    congr 1
def lkR (z:Z) (ok:Bool) (g:α→V):Option α→V
 | some x=>if ok then .tup (.fcons 0 (g x) (.fcons 1 (.bool true) .fnil)) else g x
 | none=>if ok then .tup (.fcons 0 (z.v 0) (.fcons 1 (.bool false) .fnil)) else z.v 0
theorem Aii (z:Z) (g:α→V) (x:α):lkR z true g (some x) = .tup (.fcons 0 (g x) (.fcons 1 (.bool true) .fnil)):=rfl
theorem Ak4 (z:Z) (g:α→V):lkR z true g none = .tup (.fcons 0 (z.v 0) (.fcons 1 (.bool false) .fnil)):=rfl
theorem Ake (z:Z) (g:α→V) (x:α):lkR z false g (some x)=g x:=rfl
theorem Ajy (z:Z) (g:α→V):lkR z false g none=z.v 0:=rfl
theorem TP (z:Z) (ok hh:Bool) (g:α→V) (d:α) (l:List (Dg × α)) (k:Dg) (H:Hp):MK (.ar 32 1 false .int) z ok hh (G9 g d l) (dg k) H=⟨hh=true,lkR z ok g (lkp k l),H⟩:=by
 simp only [MK,G9,RD,Sc k d l,E4,eq_true (HJ true _ _),implies_true,Lav]
 congr 1
 cases Le k l <;> rfl
theorem NQ (k:Dg) (x:α):∀ l:List (Dg × α),(Iz k x l).length=(match Le k l with | some _=>l.length | none=>l.length + 1)
 | []=>rfl
 | (a, b) :: r => by
   simp only [Iz,Le];by_cases hk:k=a
   ·simp [hk]
   ·simp only [hk,if_false,List.length_cons,NQ k x r];cases Le k r <;> rfl
theorem Sw (k:Dg) (x:α) (d:Dg × α):∀ (l:List (Dg × α)) (j:Nat),(Iz k x l).getD j d=if j=(Le k l).getD l.length then (k,x) else l.getD j d
 | [], j => by
   simp only [Iz,Le,Option.getD_none,List.length_nil];cases j <;> simp
 | (a, b) :: r, j => by
   simp only [Iz,Le];by_cases hk:k=a
   ·simp only [hk,if_true,Option.getD_some];cases j <;> simp
   ·simp only [hk,if_false];cases j with
    | zero =>
      simp only [List.getD_cons_zero,List.length_cons];rw [if_neg];cases Le k r <;> simp
    | succ j =>
      simp only [List.getD_cons_succ,Sw k x d r j,List.length_cons];have e:((Le k r).map (· + 1)).getD (r.length + 1)=(Le k r).getD r.length + 1:=by cases Le k r <;> rfl
      rw [e];simp only [Nat.add_right_cancel_iff]
theorem Wz (hh:Bool) (g:α→V) (d:α) (l:List (Dg × α)) (k:Dg) (x:α) (id:Nat) (H:Hp):Mx (.ar 32 1 false .int) hh (G9 g d l) (dg k) (g x) id H=⟨hh=true∧(g x).solid=true,.tup .fnil,BC H id (G9 g d (Iz k x l))⟩:=by
 have e:G9 g d (Iz k x l) = .mp (match Le k l with | some _=>l.length | none=>l.length + 1) (fun j=>if j=(Le k l).getD l.length then dg k else dg (l.getD j (Dg.zero,d)).1) (fun j=>if j=(Le k l).getD l.length then g x else g (l.getD j (Dg.zero,d)).2):=by
  simp only [G9,NQ,Sw]
  congr 1
  ·funext j;split <;> rfl
  ·funext j;split <;> rfl
 rw [e];simp only [Mx,G9,RD,E4,eq_true (HJ true _ _),implies_true,Lav]
theorem SX (m:List Nat) (g:α→V) (hg:∀ x,(g x).ren m=g x) (d:α) (l:List (Dg × α)):(G9 g d l).ren m=G9 g d l:=by
 simp only [G9,V.ren,YB,hg]
theorem P4 (g:α→V) (hg:∀ x,AG (g x)) (d:α) (l:List (Dg × α)):AG (G9 g d l):=by
 simp only [G9,AG,Pc,true_and];exact fun i _=>hg _
theorem RM (H:Hp) (m z:List Nat) (g:α→V) (hg:∀ x,Aw H m z (g x) (g x)) (d:α) (l:List (Dg × α)):Aw H m z (G9 g d l) (G9 g d l):=by
 simp only [G9,Aw,true_and];exact fun i _=>⟨(Kt _ _ _ _ _).mpr rfl,hg _⟩
theorem Abo (H:Hp) (m z:List Nat) (g:α→V) (d:α) (ks vs:Nat→V):Aw H m z (G9 g d []) (.mp 0 ks vs):=by
 simp only [G9,Aw,List.length_nil,Nat.not_lt_zero,false_implies,implies_true,and_self]
end
structure Pr where
 l:List (BitVec 8)
 h:l.length=64
deriving DecidableEq
def Pr.at (d:Pr) (j:Nat):BitVec 8:=d.l.getD j 0
def Pr.mk' (f:Nat→BitVec 8):Pr:=⟨(List.range 64).map f,by simp⟩
theorem Pr.at_mk' (f:Nat→BitVec 8) (j:Nat) (hj:j < 64):(Pr.mk' f).at j=f j:=by
 simp [Pr.at,Pr.mk',List.getD,List.getElem?_map,List.getElem?_range hj]
theorem Pr.ext' {a b:Pr} (h:∀ j,j < 64→a.at j=b.at j):a=b:=by
 obtain ⟨l,hl⟩:=a;obtain ⟨m,hm⟩:=b;have:l=m:=by
  apply List.ext_getElem Aa;intro i h1 h2;have:=h i Aa;simpa [Pr.at,List.getD,h1,h2] using this
 subst this;rfl
def Pr.zero:Pr:=Pr.mk' fun _=>0
theorem Pr.at_out (d:Pr) (j:Nat) (hj:¬ j < 64):d.at j=0:=by
 rw [Pr.at,List.getD_eq_getElem?_getD,List.getElem?_eq_none (by rw [d.h];omega)];rfl
theorem Pr.at_zero (j:Nat):Pr.zero.at j=0:=by
 by_cases hj:j < 64
 ·rw [Pr.zero,Pr.at_mk' _ _ hj]
 ·exact Pr.at_out _ _ hj
def CS (p:Pr):V:=.ar 1 64 (fun j=>B (p.at j))
theorem Ui (p:Pr):(CS p).solid=true:=rfl
theorem Wy (p:Pr):(CS p).size=64:=rfl
theorem Ab6 (p:Pr):(CS p).isAgg=true:=rfl
theorem ZP (m:List Nat) (p:Pr):(CS p).ren m=CS p:=rfl
theorem Po (p:Pr):AG (CS p)=True:=eq_true (by simp only [AG,CS,B,implies_true])
theorem Sb (H:Hp) (m z:List Nat) (a b:Pr):Aw H m z (CS a) (CS b) ↔ b=a:=by
 simp only [Aw,CS,RP,true_and];constructor
 ·intro h;exact Pr.ext' (fun j hj=>h j hj)
 ·rintro rfl _ _;rfl
theorem Xm (H:Hp) (m z:List Nat) (a:Pr) (u:V):B5 H m z (CS a) u=Aw H m z (CS a) u:=rfl
theorem Adn (k:Nat) (p:Pr):V.get [.i 1 k] (CS p)=B (p.at k):=rfl
theorem Ze (p:Pr):UY 1 64 (CS p)=True:=by simp [CS,UY]
theorem Z4 (c:Bool) (a b:Pr):AQ c (.ar 64 1 false .int) (CS a) (CS b):=by
 simp only [AQ,CS,true_and];intro i _;refine ⟨rfl,rfl,?_⟩;simp only [B]
theorem Yc (a b:Pr):AX (.ar 64 1 false .int) (CS a) (CS b)=decide (a=b):=by
 have h1:AX (.ar 64 1 false .int) (CS a) (CS b)=(List.range 64).all (fun i=>decide (a.at i=b.at i)):=by
  simp only [AX,CS,B,eqB]
 rw [h1,Bool.eq_iff_iff,List.all_eq_true];simp only [decide_eq_true_eq,List.mem_range];constructor
 ·exact fun h=>Pr.ext' h
 ·rintro rfl _ _;rfl
theorem pr0:V.ar 1 64 (fun _=>B 0#8)=CS Pr.zero:=by
 have h:(fun _=>B 0#8)=fun j=>B (Pr.zero.at j):=by funext j;rw [Pr.at_zero];rfl
 simp only [CS,h]
theorem Ac0 (d:Dg):UY 1 32 (dg d)=True:=by simp [dg,UY]
theorem Us (o n sz:Nat) (d:Dg):Iw o n sz (dg d)=some (sz,n,fun i=>B (d.at (o + i))):=rfl
theorem Tn (o n:Nat) (d:Dg):GZ o n 1 (dg d)=(o + n≤32):=by simp [dg,GZ]
theorem PF (o n sz:Nat) (d:Pr):Iw o n sz (CS d)=some (sz,n,fun i=>B (d.at (o + i))):=rfl
theorem PS (o n:Nat) (d:Pr):GZ o n 1 (CS d)=(o + n≤64):=by simp [CS,GZ]
theorem XV (H:Hp) (m z:List Nat) (d:Pr) (l:List (Dg × Pr)):Aw H m z (G9 CS d l) (G9 CS d l)=True:=eq_true (RM H m z CS (fun _=>(Sb _ _ _ _ _).mpr rfl) d l)
theorem UJ (d:Pr) (l:List (Dg × Pr)):AG (G9 CS d l)=True:=eq_true (P4 CS (fun x=>by rw [Po];trivial) d l)
theorem Yu (m:List Nat) (d:Pr) (l:List (Dg × Pr)):(G9 CS d l).ren m=G9 CS d l:=SX m CS (fun _=>rfl) d l
theorem Ael (p:Pr) (i:Nat) (r:V):KK (CS p) i r = .fcons i (CS p) r:=rfl
theorem Acq (p:Pr):HT (CS p)=True:=by simp [HT,CS,V.solid]
end Mv
