/- A part. -/
import Derived.Test.YtncipgmjhaiagaaGreatDoorGS
set_option linter.all false
namespace Mv
open Go
variable {M:Seat}
def ids:Hp→List Nat
 | []=>[]
 | (i,_) :: r=>i :: ids r
def BS:Hp→List Nat→List Nat
 | [],_=>[]
 | (i,_) :: r,m=>if m.contains i then BS r m else i :: BS r m
theorem HZ (m:List Nat):∀ (H:Hp),∀ i ∈ BS H m,i ∉ m
 | [],_,h=>by cases h
 | (j, _) :: r, i, h => by
   simp only [BS] at h
   split at h
   ·exact HZ m r i h
   ·rename_i hj
    rcases List.mem_cons.1 h with rfl | h
    ·intro hm;exact hj (by simpa [List.contains_iff_mem] using hm)
    ·exact HZ m r i h
theorem JH (j:Nat):∀ H:Hp,(ids H).contains j=Ae H j
 | []=>rfl
 | (i, _) :: r => by
   simp only [ids,Ae,List.contains_cons,JH j r]
   rw [Bool.beq_comm]
theorem An5 (H:Hp) (i:Nat):Ux H (ids H) i=(Ae H i && (hget H i).solid):=by
 simp only [Ux,JH,Bool.and_self]
theorem KN (m:List Nat) (j:Nat):∀ H:Hp,(BS H m).contains j=(Ae H j && !m.contains j)
 | []=>by simp [BS,Ae]
 | (i, _) :: r => by
   simp only [BS]
   by_cases h:m.contains i=true
   ·rw [if_pos h,KN m j r]
    simp only [Ae]
    by_cases hij:i=j
    ·subst hij;rw [h];simp
    ·have:(i == j)=false:=by simpa using hij
     rw [this,Bool.false_or]
   ·rw [if_neg h]
    simp only [List.contains_cons,KN m j r,Ae]
    by_cases hij:i=j
    ·subst hij
     rw [show m.contains i=false by simpa using h];simp
    ·have h1:(i == j)=false:=by simpa using hij
     have h2:(j == i)=false:=by simp;exact fun h=>hij h.symm
     rw [h1,h2];simp
theorem Ank (H:Hp) (m:List Nat) (i:Nat):Ux H (BS H m) i=((Ae H i && !m.contains i) && (hget H i).solid):=by
 simp only [Ux,KN]
 cases Ae H i <;> simp
def A8:List Nat→Nat→Nat→List Nat
 | [],_,0=>[]
 | [],n,k + 1=>n :: A8 [] (n + 1) k
 | _ :: _,_,0=>[]
 | a :: m,n,k + 1=>a :: A8 m n k
theorem O7:∀ (k n:Nat),(List.range k).map (fun i=>n + i)=A8 [] n k
 | 0,_=>rfl
 | k + 1, n => by
   rw [List.range_succ_eq_map,List.map_cons,List.map_map,A8,← O7 k (n + 1)]
   simp only [Nat.add_zero,List.cons.injEq,true_and]
   apply List.map_congr_left
   intro i _
   simp only [Function.comp];omega
theorem Kp:∀ (m:List Nat) (n k:Nat),m.length≤k→Bc m n k=A8 m n k
 | [],n,k,_=>by simp only [Bc,List.length_nil,Nat.sub_zero,List.nil_append];exact O7 k n
 | a :: m,n,0,h=>by simp at h
 | a :: m, n, k + 1, h => by
   rw [A8,← Kp m n k Jk]
   simp only [Bc,List.length_cons,List.cons_append,Nat.add_sub_add_right]
def BE:Hp→Prop
 | []=>True
 | (_,v) :: r=>AD v∧BE r
theorem BE.H:∀ {H:Hp},BE H→Sz H
 | [],_,id,h=>by simp [Ae] at h
 | (i, v) :: r, hn, id, h => by
   simp only [BE] at hn
   simp only [hget]
   split
   ·exact hn.1
   ·rename_i hi
    exact BE.H hn.2 id (by simpa [Ae,hi] using h)
theorem Di {f:Nat} {us us0:List V} {H:Hp} {n:Nat} {K:V→Hp→Prop} {v:V} (hr:Af M f us0 [] 0 (Q3 v [] 0)) (hus:AV H [] (ids H) us0 us) (hv:v.ren (Bc [] n 0)=v) (hn:AD v) (hK:K v H):AS M f us H n K :=
 K1 (ids H) hr hus hv hn hK
theorem Nd {f:Nat} {us us0:List V} {H H0 Hn:Hp} {n k kn:Nat} {K:V→Hp→Prop} {v:V} (m:List Nat) (hr:Af M f us0 H0 k (Q3 v Hn kn))
 (hm:(decide m.Nodup && decide (m.length=k) && decide (k≤kn) && decide (kn≤k + 16))=true) (hall:(m.all fun i=>Ae H i)=true) (hus:AV H m (BS H m) us0 us) (hH:Bk H m (BS H m) H0) (hv:AD v) (hn:BE Hn)
 (hK:K (v.ren (A8 m n kn)) (AQ (A8 m n kn) Hn ++ A4 H m)):AS M f us H n K:=by
 simp only [Bool.and_eq_true,decide_eq_true_eq] at hm
 obtain ⟨⟨⟨h1,h2⟩,h3⟩,h4⟩:=hm
 refine B3 hr True m (BS H m) h1 (HZ m H) h2 (by simpa using hall) hus hH ?_
 rintro v' H' k' ⟨rfl,rfl,rfl⟩
 refine ⟨⟨h4,fun _=>⟨hv,hn.H⟩⟩,?_⟩
 rw [Kp m n k' Aa,if_pos trivial]
 exact hK
theorem NB {f:Nat} {us us0:List V} {H Hn:Hp} {n kn:Nat} {K:V→Hp→Prop} {v:V} (hr:Af M f us0 [] 0 (Q3 v Hn kn))
 (hk:decide (kn≤16)=true) (hus:AV H [] (ids H) us0 us) (hv:AD v) (hn:BE Hn)
 (hK:K (v.ren (A8 [] n kn)) (AQ (A8 [] n kn) Hn ++ H)):AS M f us H n K:=by
 refine B3 hr True [] (ids H) List.nodup_nil Bu rfl Bu hus trivial ?_
 rintro v' H' k' ⟨rfl,rfl,rfl⟩
 refine ⟨⟨by have:=of_decide_eq_true hk;omega,fun _=>⟨hv,hn.H⟩⟩,?_⟩
 rw [Kp [] n k' Bu,if_pos trivial]
 exact hK
theorem SZ {f:Nat} {us us0:List V} {H H0 Hn:Hp} {n k kn:Nat} {K:V→Hp→Prop} {v:V} (m m0:List Nat) (hr:Af M f us0 H0 k (Q3 v Hn kn))
 (h0:((ids H0).all fun id=>match m[id]? with | some i=>m0.contains i | none=>true)=true) (h0m:(m0.all fun i=>m.contains i)=true)
 (hm:(decide m.Nodup && decide (m.length=k) && decide (k≤kn) && decide (kn≤k + 16))=true) (hall:(m.all fun i=>Ae H i || Cv us i)=true) (hall0:(m0.all fun i=>Ae H i)=true) (hus:AV H m (BS H m) us0 us) (hH:Bk H m (BS H m) H0) (hv:AD v) (hn:BE Hn)
 (hK:K (v.ren (A8 m n kn)) (AQ (A8 m n kn) Hn ++ A4 H m0)):AS M f us H n K:=by
 simp only [Bool.and_eq_true,decide_eq_true_eq] at hm
 obtain ⟨⟨⟨h1,h2⟩,h3⟩,h4⟩:=hm
 refine Rn hr True m m0 (BS H m) (fun id i hid hi=>?_) (fun i hi=>?_) h1 (HZ m H) h2 (by simpa using hall0) (by simpa using hall) hus hH ?_
 ·rw [List.all_eq_true] at h0
  have hmem:id ∈ ids H0:=by
   have:=JH id H0
   rw [hid] at this
   simpa [List.contains_iff_mem] using this
  have:=h0 id hmem
  rw [hi] at this
  simpa using this
 ·rw [List.all_eq_true] at h0m
  simpa using h0m i hi
 ·rintro v' H' k' ⟨rfl,rfl,rfl⟩
  refine ⟨⟨h4,fun _=>⟨hv,hn.H⟩⟩,?_⟩
  rw [Kp m n k' Aa,if_pos trivial]
  exact hK
theorem SR {f:Nat} {us us0:List V} {H H0 Hn:Hp} {n k kn:Nat} {K:V→Hp→Prop} {v:V} (m m0:List Nat) (hr:Af M f us0 H0 k (Q3 v Hn kn))
 (h0:((ids H0).all fun id=>match m[id]? with | some i=>m0.contains i | none=>true)=true) (h0m:(m0.all fun i=>m.contains i)=true)
 (hm:(decide m.Nodup && decide (m.length=k) && decide (k≤kn) && decide (kn≤k + 16))=true) (hall:(m.all fun i=>Ae H i || (GJ m0 H i || Cv us i))=true) (hall0:(m0.all fun i=>Ae H i)=true) (hus:AV H m [] us0 us) (hH:Bk H m [] H0)
 (hK:K (v.ren (A8 m n kn)) (AQ (A8 m n kn) Hn ++ A4 H m0)):AS M f us H n K:=by
 simp only [Bool.and_eq_true,decide_eq_true_eq] at hm
 obtain ⟨⟨⟨h1,h2⟩,h3⟩,h4⟩:=hm
 refine GC hr False m m0 [] (fun id i hid hi=>?_) (fun i hi=>?_) h1 Bu h2 (by simpa using hall0) (fun i hi=>by
  have:=List.all_eq_true.1 hall i hi
  simp only [Bool.or_eq_true] at this
  exact this.elim .inl (fun h=>.inr h.symm)) hus hH ?_
 ·rw [List.all_eq_true] at h0
  have hmem:id ∈ ids H0:=by
   have:=JH id H0
   rw [hid] at this
   simpa [List.contains_iff_mem] using this
  have:=h0 id hmem
  rw [hi] at this
  simpa using this
 ·rw [List.all_eq_true] at h0m
  simpa using h0m i hi
 ·rintro v' H' k' ⟨rfl,rfl,rfl⟩
  refine ⟨⟨h4,fun h=>h.elim⟩,?_⟩
  rw [Kp m n k' Aa,if_neg id,List.append_nil]
  exact hK
theorem WQ {f:Nat} {us us0:List V} {H:Hp} {n:Nat} {C:V→Hp→Prop} {v:V} (hr:Af M f us0 [] 0 (Q3 v [] 0)) (hus:AV H [] (ids H) us0 us) (hv:v.ren (Bc [] n 0)=v) (hn:AD v) (hC:C v H):Fp M f us H n C :=
 ⟨v,H,Di hr hus hv hn ⟨rfl,rfl⟩,hC⟩
theorem Ae2 {f:Nat} {us us0:List V} {H Hn:Hp} {n kn:Nat} {C:V→Hp→Prop} {v:V} (hr:Af M f us0 [] 0 (Q3 v Hn kn))
 (hk:decide (kn≤16)=true) (hus:AV H [] (ids H) us0 us) (hv:AD v) (hn:BE Hn)
 (hC:C (v.ren (A8 [] n kn)) (AQ (A8 [] n kn) Hn ++ H)):Fp M f us H n C :=
 ⟨_,_,NB hr hk hus hv hn ⟨rfl,rfl⟩,hC⟩
theorem Vz {f:Nat} {us us0:List V} {H H0 Hn:Hp} {n k kn:Nat} {C:V→Hp→Prop} {v:V} (m:List Nat) (hr:Af M f us0 H0 k (Q3 v Hn kn))
 (hm:(decide m.Nodup && decide (m.length=k) && decide (k≤kn) && decide (kn≤k + 16))=true) (hall:(m.all fun i=>Ae H i)=true) (hus:AV H m (BS H m) us0 us) (hH:Bk H m (BS H m) H0) (hv:AD v) (hn:BE Hn)
 (hC:C (v.ren (A8 m n kn)) (AQ (A8 m n kn) Hn ++ A4 H m)):Fp M f us H n C :=
 ⟨_,_,Nd m hr hm hall hus hH hv hn ⟨rfl,rfl⟩,hC⟩
theorem Aht {f:Nat} {us us0:List V} {H H0 Hn:Hp} {n k kn:Nat} {C:V→Hp→Prop} {v:V} (m m0:List Nat) (hr:Af M f us0 H0 k (Q3 v Hn kn))
 (h0:((ids H0).all fun id=>match m[id]? with | some i=>m0.contains i | none=>true)=true) (h0m:(m0.all fun i=>m.contains i)=true)
 (hm:(decide m.Nodup && decide (m.length=k) && decide (k≤kn) && decide (kn≤k + 16))=true) (hall:(m.all fun i=>Ae H i || Cv us i)=true) (hall0:(m0.all fun i=>Ae H i)=true) (hus:AV H m (BS H m) us0 us) (hH:Bk H m (BS H m) H0) (hv:AD v) (hn:BE Hn)
 (hC:C (v.ren (A8 m n kn)) (AQ (A8 m n kn) Hn ++ A4 H m0)):Fp M f us H n C :=
 ⟨_,_,SZ m m0 hr h0 h0m hm hall hall0 hus hH hv hn ⟨rfl,rfl⟩,hC⟩
theorem Adz {f:Nat} {us us0:List V} {H H0 Hn:Hp} {n k kn:Nat} {C:V→Hp→Prop} {v:V} (m m0:List Nat) (hr:Af M f us0 H0 k (Q3 v Hn kn))
 (h0:((ids H0).all fun id=>match m[id]? with | some i=>m0.contains i | none=>true)=true) (h0m:(m0.all fun i=>m.contains i)=true)
 (hm:(decide m.Nodup && decide (m.length=k) && decide (k≤kn) && decide (kn≤k + 16))=true) (hall:(m.all fun i=>Ae H i || (GJ m0 H i || Cv us i))=true) (hall0:(m0.all fun i=>Ae H i)=true) (hus:AV H m [] us0 us) (hH:Bk H m [] H0)
 (hC:C (v.ren (A8 m n kn)) (AQ (A8 m n kn) Hn ++ A4 H m0)):Fp M f us H n C :=
 ⟨_,_,SR m m0 hr h0 h0m hm hall hall0 hus hH ⟨rfl,rfl⟩,hC⟩
theorem Akh {f:Nat} {v:V} {us:List V} {H:Hp} {n:Nat} {K:V→Hp→Prop} (hf:Rz M f) (hv:(v.solid && !v.isAgg)=true) (h:AS M f (us ++ [v]) H n K):EX M (.fn f (.st 1 (.fcons 0 v .fnil))) us H n K:=by
 refine ⟨⟨hf,?_⟩,h⟩
 simpa [V.fhas,V.fget] using hv
theorem Ali {f:Nat} {v:V} {us us0:List V} {H:Hp} {n:Nat} {C:V→Hp→Prop} {r:V} (hf:Rz M f) (hv:(v.solid && !v.isAgg)=true) (hr:Af M f us0 [] 0 (fun r' H' k'=>r'=r∧H'=[]∧k'=0)) (hus:AV H [] (ids H) us0 (us ++ [v])) (hv2:r.ren (Bc [] n 0)=r) (hn:AD r) (hC:C r H):Ud M (.fn f (.st 1 (.fcons 0 v .fnil))) us H n C :=
 ⟨r,H,Akh hf hv (Di hr hus hv2 hn ⟨rfl,rfl⟩),hC⟩
def JL (v:V) (i:Nat) (r:V):V:=match v with | .junk=>r | v=>.fcons i v r
def GV (v:V):Prop:=match v with | .junk=>True | v=>v.solid=true
theorem Amn (A:List V) (H:Hp) (r:RVr) (rs:List RVr) (i:Nat):GH A H (r :: rs) i=JL (Ek A H r) i (GH A H rs (i + 1)):=by
 simp only [GH,JL];split <;> simp_all
theorem Ajl (A:List V) (H:Hp) (i:Nat):GH A H [] i = .fnil:=rfl
theorem Aml (A:List V) (H:Hp) (r:RVr) (rs:List RVr):HD A H (r :: rs)=(GV (Ek A H r)∧HD A H rs):=by
 simp only [HD,GV];split <;> simp_all
theorem Ajy (A:List V) (H:Hp):HD A H []=True:=rfl
theorem Abc (k:IntKind) (n:Int) (ix:Nat) (r:V):JL (.int k n) ix r = .fcons ix (.int k n) r:=rfl
theorem Zx (k:IntKind) (n:Int):GV (.int k n)=True:=Fw
theorem Xq (b:Bool) (ix:Nat) (r:V):JL (.bool b) ix r = .fcons ix (.bool b) r:=rfl
theorem VB (b:Bool):GV (.bool b)=True:=Fw
theorem Aa1 (s:ByteArray) (ix:Nat) (r:V):JL (.str s) ix r = .fcons ix (.str s) r:=rfl
theorem Abx (s:ByteArray):GV (.str s)=True:=Fw
theorem We  (ix:Nat) (r:V):JL (.nilp) ix r = .fcons ix (.nilp) r:=rfl
theorem VD :GV (.nilp)=True:=Fw
theorem Abo (i:Nat) (p:List Stp) (ix:Nat) (r:V):JL (.ptr i p) ix r = .fcons ix (.ptr i p) r:=rfl
theorem Zi (i:Nat) (p:List Stp):GV (.ptr i p)=True:=Fw
theorem Wv  (ix:Nat) (r:V):JL (.nils) ix r = .fcons ix (.nils) r:=rfl
theorem WJ :GV (.nils)=True:=Fw
theorem Afv (i:Nat) (p:List Stp) (o n sz:Nat) (ix:Nat) (r:V):JL (.sl i p o n sz) ix r = .fcons ix (.sl i p o n sz) r:=rfl
theorem Agz (i:Nat) (p:List Stp) (o n sz:Nat):GV (.sl i p o n sz)=True:=Fw
theorem ZH (sz n:Nat) (f:Nat→V) (ix:Nat) (r:V):JL (.lst sz n f) ix r = .fcons ix (.lst sz n f) r:=rfl
theorem Aag (sz n:Nat) (f:Nat→V):GV (.lst sz n f)=True:=Fw
theorem Ys  (ix:Nat) (r:V):JL (.nili) ix r = .fcons ix (.nili) r:=rfl
theorem Y7 :GV (.nili)=True:=Fw
theorem Ack (t:Nat) (v:V) (ix:Nat) (r:V):JL (.ifc t v) ix r = .fcons ix (.ifc t v) r:=rfl
theorem Aaq (t:Nat) (v:V):GV (.ifc t v)=True:=Fw
theorem Ag0 (n:Nat) (v:V) (ix:Nat) (r:V):JL (.st n v) ix r = .fcons ix (.st n v) r:=rfl
theorem Ai3 (n:Nat) (v:V):GV (.st n v)=True:=Fw
theorem Ae7 (sz n:Nat) (f:Nat→V) (ix:Nat) (r:V):JL (.ar sz n f) ix r = .fcons ix (.ar sz n f) r:=rfl
theorem Aeb (sz n:Nat) (f:Nat→V):GV (.ar sz n f)=True:=Fw
theorem ZN (v:V) (ix:Nat) (r:V):JL (.imm v) ix r = .fcons ix (.imm v) r:=rfl
theorem YV (v:V):GV (.imm v)=True:=Fw
theorem Abf (i:Nat) (ix:Nat) (r:V):JL (.map i) ix r = .fcons ix (.map i) r:=rfl
theorem Aaa (i:Nat):GV (.map i)=True:=Fw
theorem X9  (ix:Nat) (r:V):JL (.nilm) ix r = .fcons ix (.nilm) r:=rfl
theorem VJ :GV (.nilm)=True:=Fw
theorem Ah7 (f:Nat) (c:V) (ix:Nat) (r:V):JL (.fn f c) ix r = .fcons ix (.fn f c) r:=rfl
theorem Aii (f:Nat) (c:V):GV (.fn f c)=True:=Fw
theorem WN  (ix:Nat) (r:V):JL (.nilf) ix r = .fcons ix (.nilf) r:=rfl
theorem X7 :GV (.nilf)=True:=Fw
theorem Ajr (w:BitVec 64) (ix:Nat) (r:V):JL (W w) ix r = .fcons ix (W w) r:=rfl
theorem Al5 (w:BitVec 64):GV (W w)=True:=by simp [GV,V.solid,W]
theorem Alb (w:BitVec 8) (ix:Nat) (r:V):JL (B w) ix r = .fcons ix (B w) r:=rfl
theorem Amp (w:BitVec 8):GV (B w)=True:=by simp [GV,V.solid,B]
theorem Ad3 (d:Dg) (ix:Nat) (r:V):JL (dg d) ix r = .fcons ix (dg d) r:=rfl
theorem Afo (d:Dg):GV (dg d)=True:=by simp [GV,V.solid,dg]
def IY:=(aq3 (Apn @Amn @Ajl @Aml @Ajy @Abc @Zx @Xq @VB @Aa1 @Abx @We @VD @Abo @Zi) (Apk @Wv @WJ @Afv @Agz @ZH @Aag @Ys @Y7 @Ack @Aaq @Ag0 @Ai3 @Ae7 @Aeb @ZN) (Apk @YV @Abf @Aaa @X9 @VJ @Ah7 @Aii @WN @X7 @Ajr @Al5 @Alb @Amp @Ad3 @Afo))
theorem Ru (w:BitVec 64):AD (W w)=True:=rfl
theorem Af4 (w:BitVec 8):AD (B w)=True:=rfl
theorem Pv (d:Dg):AD (dg d)=True:=eq_true (by simp only [AD,dg,B,implies_true])
theorem Atg (a k:Nat):(a:Int).fdiv (2 ^ k)=((a / 2 ^ k:Nat):Int):=by
 rw [Int.fdiv_eq_ediv_of_nonneg _ (Int.pow_nonneg Aa),Int.natCast_ediv,Int.natCast_pow];rfl
theorem Aes (k:Nat):(2:Int) ^ k=((2 ^ k:Nat):Int):=by rw [Int.natCast_pow];rfl
theorem Atq (a b:Nat):(a:Int).tmod (b:Int)=((a % b:Nat):Int):=by
 rw [Int.tmod_eq_emod_of_nonneg Aa,Int.natCast_emod]
def Dg.put (d:Dg) (k:Nat) (b:BitVec 8):Dg:=Dg.mk' fun j=>if j=k then b else d.at j
theorem Dg.at_out (d:Dg) (j:Nat) (hj:¬ j < 32):d.at j=0:=by
 rw [Dg.at,List.getD_eq_getElem?_getD,List.getElem?_eq_none (by rw [d.h];omega)];rfl
theorem UU (A:List V) (H:Hp) (n:Nat) (zk zv:Z):Ad A H n (.mkmap zk zv)=⟨True,.map n,(n,.mp 0 (fun _=>zk.v 0) (fun _=>zv.v 0)) :: H⟩:=rfl
theorem UP (A:List V) (H:Hp) (n:Nat) (s:ES) (z:Z) (ok:Bool) (m k:X):Ad A H n (.mlook s z ok m k)=Mk s z ok (m.ev A) (k.ev A) H:=rfl
theorem Xa (A:List V) (H:Hp) (n:Nat) (s:ES) (m k x:X):Ad A H n (.mupd s m k x)=Yb s (m.ev A) (k.ev A) (x.ev A) H:=rfl
def Ni (s:ES) (z:Z) (ok:Bool) (hh:Bool) (b k:V) (H:Hp):Out:=match b with
 | .mp n ks vs=>⟨hh=true∧k.solid=true∧AH true s k k∧∀ i,i < n→AH true s k (ks i),
  (match Lt s k ks 0 n with
  | some i=>if ok then .tup (.fcons 0 (vs i) (.fcons 1 (.bool true) .fnil)) else vs i
  | none=>if ok then .tup (.fcons 0 (z.v 0) (.fcons 1 (.bool false) .fnil)) else z.v 0),H⟩
 | _=>BR H
def SL (s:ES) (hh:Bool) (b k x:V) (id:Nat) (H:Hp):Out:=match b with
 | .mp n ks vs=>⟨hh=true∧k.solid=true∧x.solid=true∧AH true s k k∧∀ i,i < n→AH true s k (ks i),.tup .fnil,
  Ch H id (.mp (match Lt s k ks 0 n with | some _=>n | none=>n + 1) (fun j=>if j=(Lt s k ks 0 n).getD n then k else ks j) (fun j=>if j=(Lt s k ks 0 n).getD n then x else vs j))⟩
 | _=>BR H
theorem Abj (s:ES) (z:Z) (ok:Bool) (id:Nat) (k:V) (H:Hp):Mk s z ok (.map id) k H=Ni s z ok (Ae H id) (hget H id) k H:=by
 simp only [Mk,Ni]
 generalize hget H id=b
 cases b <;> rfl
theorem Ad4 (s:ES) (id:Nat) (k x:V) (H:Hp):Yb s (.map id) k x H=SL s (Ae H id) (hget H id) k x id H:=by
 simp only [Yb,SL]
 generalize hget H id=b
 cases b <;> rfl
section
variable {α:Type}
def Lh (k:Dg):List (Dg × α)→Option Nat
 | []=>none
 | (a,_) :: r=>if k=a then some 0 else (Lh k r).map (· + 1)
def Dv (k:Dg):List (Dg × α)→Option α
 | []=>none
 | (a,b) :: r=>if k=a then some b else Dv k r
def CG (k:Dg) (x:α):List (Dg × α)→List (Dg × α)
 | []=>[(k,x)]
 | (a,b) :: r=>if k=a then (k,x) :: r else (a,b) :: CG k x r
def Bv (g:α→V) (d:α) (l:List (Dg × α)):V:=.mp l.length (fun j=>dg (l.getD j (Dg.zero,d)).1) (fun j=>g (l.getD j (Dg.zero,d)).2)
theorem S9 (k:Dg) (ks:Nat→V) (d:α):∀ (l:List (Dg × α)) (i:Nat),(∀ j,j < l.length→ks (i + j)=dg (l.getD j (Dg.zero,d)).1)→Lt (.ar 32 1 false .int) (dg k) ks i l.length=(Lh k l).map (i + ·)
 | [],_,_=>rfl
 | (a, b) :: r, i, h => by
   have h0:=h 0 Bu
   simp only [Nat.add_zero,List.getD_cons_zero] at h0
   have ih:=S9 k ks d r (i + 1) (fun j hj=>by
    have:=h (j + 1) (by simpa using hj)
    simp only [List.getD_cons_succ] at this
    rw [← this];congr 1;omega)
   simp only [List.length_cons,Lt,h0,Hu,decide_eq_true_eq,Lh]
   by_cases hk:k=a
   ·simp [hk]
   ·simp only [hk,if_false,ih,Option.map_map]
    congr 1
    funext j
    simp only [Function.comp];omega
theorem Tv (k:Dg) (d:α) (l:List (Dg × α)):Lt (.ar 32 1 false .int) (dg k) (fun j=>dg (l.getD j (Dg.zero,d)).1) 0 l.length=Lh k l:=by
 rw [S9 k _ d l 0 (fun j _=>by rw [Nat.zero_add])]
 cases Lh k l <;> simp
theorem S0 (k:Dg) (d:α):∀ l:List (Dg × α),Dv k l=(Lh k l).map (fun i=>(l.getD i (Dg.zero,d)).2)
 | []=>rfl
 | (a, b) :: r => by
   simp only [Dv,Lh]
   by_cases hk:k=a
   ·simp [hk]
   ·simp only [hk,if_false,S0 k d r,Option.map_map]
    congr 1
def lkR (z:Z) (ok:Bool) (g:α→V):Option α→V
 | some x=>if ok then .tup (.fcons 0 (g x) (.fcons 1 (.bool true) .fnil)) else g x
 | none=>if ok then .tup (.fcons 0 (z.v 0) (.fcons 1 (.bool false) .fnil)) else z.v 0
theorem Ah0 (z:Z) (g:α→V) (x:α):lkR z true g (some x) = .tup (.fcons 0 (g x) (.fcons 1 (.bool true) .fnil)):=rfl
theorem Aen (z:Z) (g:α→V):lkR z true g none = .tup (.fcons 0 (z.v 0) (.fcons 1 (.bool false) .fnil)):=rfl
theorem Afg (z:Z) (g:α→V) (x:α):lkR z false g (some x)=g x:=rfl
theorem Ad0 (z:Z) (g:α→V):lkR z false g none=z.v 0:=rfl
theorem UK (z:Z) (ok hh:Bool) (g:α→V) (d:α) (l:List (Dg × α)) (k:Dg) (H:Hp):Ni (.ar 32 1 false .int) z ok hh (Bv g d l) (dg k) H=⟨hh=true,lkR z ok g (Dv k l),H⟩:=by
 simp only [Ni,Bv,Tv,S0 k d l,DG,eq_true (Gb true _ _),implies_true,Ld]
 congr 1
 cases Lh k l <;> rfl
theorem PZ (k:Dg) (x:α):∀ l:List (Dg × α),(CG k x l).length=(match Lh k l with | some _=>l.length | none=>l.length + 1)
 | []=>rfl
 | (a, b) :: r => by
   simp only [CG,Lh]
   by_cases hk:k=a
   ·simp [hk]
   ·simp only [hk,if_false,List.length_cons,PZ k x r]
    cases Lh k r <;> rfl
theorem Sn (k:Dg) (x:α) (d:Dg × α):∀ (l:List (Dg × α)) (j:Nat),(CG k x l).getD j d=if j=(Lh k l).getD l.length then (k,x) else l.getD j d
 | [], j => by
   simp only [CG,Lh,Option.getD_none,List.length_nil]
   cases j <;> simp
 | (a, b) :: r, j => by
   simp only [CG,Lh]
   by_cases hk:k=a
   ·simp only [hk,if_true,Option.getD_some]
    cases j <;> simp
   ·simp only [hk,if_false]
    cases j with
    | zero =>
      simp only [List.getD_cons_zero,List.length_cons]
      rw [if_neg]
      cases Lh k r <;> simp
    | succ j =>
      simp only [List.getD_cons_succ,Sn k x d r j,List.length_cons]
      have e:((Lh k r).map (· + 1)).getD (r.length + 1)=(Lh k r).getD r.length + 1:=by cases Lh k r <;> rfl
      rw [e]
      simp only [Nat.add_right_cancel_iff]
theorem Yl (hh:Bool) (g:α→V) (d:α) (l:List (Dg × α)) (k:Dg) (x:α) (id:Nat) (H:Hp):SL (.ar 32 1 false .int) hh (Bv g d l) (dg k) (g x) id H=⟨hh=true∧(g x).solid=true,.tup .fnil,Ch H id (Bv g d (CG k x l))⟩:=by
 have e:Bv g d (CG k x l) = .mp (match Lh k l with | some _=>l.length | none=>l.length + 1) (fun j=>if j=(Lh k l).getD l.length then dg k else dg (l.getD j (Dg.zero,d)).1) (fun j=>if j=(Lh k l).getD l.length then g x else g (l.getD j (Dg.zero,d)).2):=by
  simp only [Bv,PZ,Sn]
  congr 1
  ·funext j;split <;> rfl
  ·funext j;split <;> rfl
 rw [e]
 simp only [SL,Bv,Tv,DG,eq_true (Gb true _ _),implies_true,Ld]
theorem Tm (m:List Nat) (g:α→V) (hg:∀ x,(g x).ren m=g x) (d:α) (l:List (Dg × α)):(Bv g d l).ren m=Bv g d l:=by
 simp only [Bv,V.ren,Xy,hg]
theorem OU (g:α→V) (hg:∀ x,AD (g x)) (d:α) (l:List (Dg × α)):AD (Bv g d l):=by
 simp only [Bv,AD,Pv,true_and];exact fun i _=>hg _
theorem Gg (H:Hp) (m z:List Nat) (g:α→V) (hg:∀ x,Aw H m z (g x) (g x)) (d:α) (l:List (Dg × α)):Aw H m z (Bv g d l) (Bv g d l):=by
 simp only [Bv,Aw,true_and];exact fun i _=>⟨(AJ _ _ _ _ _).mpr rfl,hg _⟩
theorem Acm (H:Hp) (m z:List Nat) (g:α→V) (d:α) (ks vs:Nat→V):Aw H m z (Bv g d []) (.mp 0 ks vs):=by
 simp only [Bv,Aw,List.length_nil,Nat.not_lt_zero,false_implies,implies_true,and_self]
end
structure Pr where
 l:List (BitVec 8)
 h:l.length=64
deriving DecidableEq
def Pr.at (d:Pr) (j:Nat):BitVec 8:=d.l.getD j 0
def Pr.mk' (f:Nat→BitVec 8):Pr:=⟨(List.range 64).map f,by simp⟩
theorem Pr.at_mk' (f:Nat→BitVec 8) (j:Nat) (hj:j < 64):(Pr.mk' f).at j=f j:=by
 simp [Pr.at,Pr.mk',List.getD,List.getElem?_map,List.getElem?_range hj]
theorem Pr.ext' {a b:Pr} (h:∀ j,j < 64→a.at j=b.at j):a=b:=by
 obtain ⟨l,hl⟩:=a
 obtain ⟨m,hm⟩:=b
 have:l=m:=by
  apply List.ext_getElem Aa
  intro i h1 h2
  have:=h i Aa
  simpa [Pr.at,List.getD,h1,h2] using this
 subst this;rfl
def Pr.zero:Pr:=Pr.mk' fun _=>0
theorem Pr.at_out (d:Pr) (j:Nat) (hj:¬ j < 64):d.at j=0:=by
 rw [Pr.at,List.getD_eq_getElem?_getD,List.getElem?_eq_none (by rw [d.h];omega)];rfl
theorem Pr.at_zero (j:Nat):Pr.zero.at j=0:=by
 by_cases hj:j < 64
 ·rw [Pr.zero,Pr.at_mk' _ _ hj]
 ·exact Pr.at_out _ _ hj
def At (p:Pr):V:=.ar 1 64 (fun j=>B (p.at j))
def VE:=(aq2 @Pr.at_zero @At.eq_1)
def Fq:=(aq2 @dg.eq_1 @At.eq_1)
def OS:=(aq2 @Fq @Pr.at_zero)
theorem UZ (p:Pr):(At p).solid=true:=rfl
theorem WT (p:Pr):(At p).size=64:=rfl
theorem Abn (p:Pr):(At p).isAgg=true:=rfl
theorem Ace (m:List Nat) (p:Pr):(At p).ren m=At p:=rfl
theorem PQ (p:Pr):AD (At p)=True:=eq_true (by simp only [AD,At,B,implies_true])
theorem Dl (H:Hp) (m z:List Nat) (a b:Pr):Aw H m z (At a) (At b) ↔ b=a:=by
 simp only [Aw,At,Gv,true_and]
 constructor
 ·intro h;exact Pr.ext' (fun j hj=>h j hj)
 ·rintro rfl _ _;rfl
theorem WL (H:Hp) (m z:List Nat) (a:Pr) (u:V):Bd H m z (At a) u=Aw H m z (At a) u:=rfl
theorem Aa9 (k:Nat) (p:Pr):V.get [.i 1 k] (At p)=B (p.at k):=rfl
theorem WK (p:Pr):TT 1 64 (At p)=True:=by simp [At,TT]
theorem XS (c:Bool) (a b:Pr):AH c (.ar 64 1 false .int) (At a) (At b):=by
 simp only [AH,At,true_and]
 intro i _
 refine ⟨rfl,rfl,?_⟩
 simp only [B]
theorem Xr (a b:Pr):AN (.ar 64 1 false .int) (At a) (At b)=decide (a=b):=by
 have h1:AN (.ar 64 1 false .int) (At a) (At b)=(List.range 64).all (fun i=>decide (a.at i=b.at i)):=by
  simp only [AN,At,B,eqB]
 rw [h1,Bool.eq_iff_iff,List.all_eq_true]
 simp only [decide_eq_true_eq,List.mem_range]
 constructor
 ·exact fun h=>Pr.ext' h
 ·rintro rfl _ _;rfl
theorem SD:V.ar 1 64 (fun _=>B 0#8)=At Pr.zero:=by
 have h:(fun _=>B 0#8)=fun j=>B (Pr.zero.at j):=by funext j;rw [Pr.at_zero];rfl
 simp only [At,h]
theorem Acg (d:Dg):TT 1 32 (dg d)=True:=by simp [dg,TT]
theorem Uo (o n sz:Nat) (d:Dg):IG o n sz (dg d)=some (sz,n,fun i=>B (d.at (o + i))):=rfl
theorem UN (o n:Nat) (d:Dg):GN o n 1 (dg d)=(o + n≤32):=by simp [dg,GN]
theorem Qu (o n sz:Nat) (d:Pr):IG o n sz (At d)=some (sz,n,fun i=>B (d.at (o + i))):=rfl
theorem Rt (o n:Nat) (d:Pr):GN o n 1 (At d)=(o + n≤64):=by simp [At,GN]
theorem WG (H:Hp) (m z:List Nat) (d:Pr) (l:List (Dg × Pr)):Aw H m z (Bv At d l) (Bv At d l)=True:=eq_true (Gg H m z At (fun _=>(Dl _ _ _ _ _).mpr rfl) d l)
theorem U2 (d:Pr) (l:List (Dg × Pr)):AD (Bv At d l)=True:=eq_true (OU At (fun x=>by rw [PQ];trivial) d l)
theorem Yr (m:List Nat) (d:Pr) (l:List (Dg × Pr)):(Bv At d l).ren m=Bv At d l:=Tm m At (fun _=>rfl) d l
theorem Z0 (p:Pr) (i:Nat) (r:V):JL (At p) i r = .fcons i (At p) r:=rfl
theorem Aay (p:Pr):GV (At p)=True:=by simp [GV,At,V.solid]
end Mv
