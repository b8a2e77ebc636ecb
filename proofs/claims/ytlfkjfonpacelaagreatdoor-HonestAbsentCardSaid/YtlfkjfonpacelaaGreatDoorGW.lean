/- A part. -/
import Derived.Test.YtlfkjfonpacelaaGreatDoorGV
set_option linter.all false
namespace Mv
open Go
variable {M:Seat}
def ids:Hp→List Nat
 | []=>[]
 | (i,_) :: r=>i :: ids r
def Cr:Hp→List Nat→List Nat
 | [],_=>[]
 | (i,_) :: r,m=>if m.contains i then Cr r m else i :: Cr r m
theorem Ht (m:List Nat):∀ (H:Hp),∀ i ∈ Cr H m,i ∉ m
 | [],_,h=>by cases h
 | (j, _) :: r, i, h => by
   simp only [Cr] at h
   split at h
   ·exact Ht m r i h
   ·rename_i hj
    rcases List.mem_cons.1 h with rfl | h
    ·intro hm;exact hj (by simpa [List.contains_iff_mem] using hm)
    ·exact Ht m r i h
theorem IZ (j:Nat):∀ H:Hp,(ids H).contains j=Af H j
 | []=>rfl
 | (i, _) :: r => by
   simp only [ids,Af,List.contains_cons,IZ j r]
   rw [Bool.beq_comm]
theorem Apu (H:Hp) (i:Nat):Lw H (ids H) i=(Af H i && (hget H i).solid):=by
 simp only [Lw,IZ,Bool.and_self]
theorem KD (m:List Nat) (j:Nat):∀ H:Hp,(Cr H m).contains j=(Af H j && !m.contains j)
 | []=>by simp [Cr,Af]
 | (i, _) :: r => by
   simp only [Cr]
   by_cases h:m.contains i=true
   ·rw [if_pos h,KD m j r]
    simp only [Af]
    by_cases hij:i=j
    ·subst hij;rw [h];simp
    ·have:(i == j)=false:=by simpa using hij
     rw [this,Bool.false_or]
   ·rw [if_neg h]
    simp only [List.contains_cons,KD m j r,Af]
    by_cases hij:i=j
    ·subst hij
     rw [show m.contains i=false by simpa using h];simp
    ·have h1:(i == j)=false:=by simpa using hij
     have h2:(j == i)=false:=by simp;exact fun h=>hij h.symm
     rw [h1,h2];simp
theorem Apk (H:Hp) (m:List Nat) (i:Nat):Lw H (Cr H m) i=((Af H i && !m.contains i) && (hget H i).solid):=by
 simp only [Lw,KD]
 cases Af H i <;> simp
def AE:List Nat→Nat→Nat→List Nat
 | [],_,0=>[]
 | [],n,k + 1=>n :: AE [] (n + 1) k
 | _ :: _,_,0=>[]
 | a :: m,n,k + 1=>a :: AE m n k
theorem Og:∀ (k n:Nat),(List.range k).map (fun i=>n + i)=AE [] n k
 | 0,_=>rfl
 | k + 1, n => by
   rw [List.range_succ_eq_map,List.map_cons,List.map_map,AE,← Og k (n + 1)]
   simp only [Nat.add_zero,List.cons.injEq,true_and]
   apply List.map_congr_left
   intro i _
   simp only [Function.comp];omega
theorem Ie:∀ (m:List Nat) (n k:Nat),m.length≤k→Bk m n k=AE m n k
 | [],n,k,_=>by simp only [Bk,List.length_nil,Nat.sub_zero,List.nil_append];exact Og k n
 | a :: m,n,0,h=>by simp at h
 | a :: m, n, k + 1, h => by
   rw [AE,← Ie m n k Lq]
   simp only [Bk,List.length_cons,List.cons_append,Nat.add_sub_add_right]
def Ce:Hp→Prop
 | []=>True
 | (_,v) :: r=>A7 v∧Ce r
theorem Ce.H:∀ {H:Hp},Ce H→ST H
 | [],_,id,h=>by simp [Af] at h
 | (i, v) :: r, hn, id, h => by
   simp only [Ce] at hn
   simp only [hget]
   split
   ·exact hn.1
   ·rename_i hi
    exact Ce.H hn.2 id (by simpa [Af,hi] using h)
theorem Jl {f:Nat} {us us0:List V} {H:Hp} {n:Nat} {K:V→Hp→Prop} {v:V} (hr:Ae M f us0 [] 0 (Q3 v [] 0)) (hus:AY H [] (ids H) us0 us) (hv:v.ren (Bk [] n 0)=v) (hn:A7 v) (hK:K v H):AQ M f us H n K :=
 Q0 (ids H) hr hus hv hn hK
theorem Na {f:Nat} {us us0:List V} {H H0 Hn:Hp} {n k kn:Nat} {K:V→Hp→Prop} {v:V} (m:List Nat) (hr:Ae M f us0 H0 k (Q3 v Hn kn))
 (hm:(decide m.Nodup && decide (m.length=k) && decide (k≤kn) && decide (kn≤k + 16))=true) (hall:(m.all fun i=>Af H i)=true) (hus:AY H m (Cr H m) us0 us) (hH:B8 H m (Cr H m) H0) (hv:A7 v) (hn:Ce Hn)
 (hK:K (v.ren (AE m n kn)) (AM (AE m n kn) Hn ++ A4 H m)):AQ M f us H n K:=by
 simp only [Bool.and_eq_true,decide_eq_true_eq] at hm
 obtain ⟨⟨⟨h1,h2⟩,h3⟩,h4⟩:=hm
 refine BY hr True m (Cr H m) h1 (Ht m H) h2 (by simpa using hall) hus hH ?_
 rintro v' H' k' ⟨rfl,rfl,rfl⟩
 refine ⟨⟨h4,fun _=>⟨hv,hn.H⟩⟩,?_⟩
 rw [Ie m n k' Aa,if_pos trivial]
 exact hK
theorem ME {f:Nat} {us us0:List V} {H Hn:Hp} {n kn:Nat} {K:V→Hp→Prop} {v:V} (hr:Ae M f us0 [] 0 (Q3 v Hn kn))
 (hk:decide (kn≤16)=true) (hus:AY H [] (ids H) us0 us) (hv:A7 v) (hn:Ce Hn)
 (hK:K (v.ren (AE [] n kn)) (AM (AE [] n kn) Hn ++ H)):AQ M f us H n K:=by
 refine BY hr True [] (ids H) List.nodup_nil BD rfl BD hus trivial ?_
 rintro v' H' k' ⟨rfl,rfl,rfl⟩
 refine ⟨⟨by have:=of_decide_eq_true hk;omega,fun _=>⟨hv,hn.H⟩⟩,?_⟩
 rw [Ie [] n k' BD,if_pos trivial]
 exact hK
theorem RU {f:Nat} {us us0:List V} {H H0 Hn:Hp} {n k kn:Nat} {K:V→Hp→Prop} {v:V} (m m0:List Nat) (hr:Ae M f us0 H0 k (Q3 v Hn kn))
 (h0:((ids H0).all fun id=>match m[id]? with | some i=>m0.contains i | none=>true)=true) (h0m:(m0.all fun i=>m.contains i)=true)
 (hm:(decide m.Nodup && decide (m.length=k) && decide (k≤kn) && decide (kn≤k + 16))=true) (hall:(m.all fun i=>Af H i || CK us i)=true) (hall0:(m0.all fun i=>Af H i)=true) (hus:AY H m (Cr H m) us0 us) (hH:B8 H m (Cr H m) H0) (hv:A7 v) (hn:Ce Hn)
 (hK:K (v.ren (AE m n kn)) (AM (AE m n kn) Hn ++ A4 H m0)):AQ M f us H n K:=by
 simp only [Bool.and_eq_true,decide_eq_true_eq] at hm
 obtain ⟨⟨⟨h1,h2⟩,h3⟩,h4⟩:=hm
 refine Qi hr True m m0 (Cr H m) (fun id i hid hi=>?_) (fun i hi=>?_) h1 (Ht m H) h2 (by simpa using hall0) (by simpa using hall) hus hH ?_
 ·rw [List.all_eq_true] at h0
  have hmem:id ∈ ids H0:=by
   have:=IZ id H0
   rw [hid] at this
   simpa [List.contains_iff_mem] using this
  have:=h0 id hmem
  rw [hi] at this
  simpa using this
 ·rw [List.all_eq_true] at h0m
  simpa using h0m i hi
 ·rintro v' H' k' ⟨rfl,rfl,rfl⟩
  refine ⟨⟨h4,fun _=>⟨hv,hn.H⟩⟩,?_⟩
  rw [Ie m n k' Aa,if_pos trivial]
  exact hK
theorem Sv {f:Nat} {us us0:List V} {H H0 Hn:Hp} {n k kn:Nat} {K:V→Hp→Prop} {v:V} (m m0:List Nat) (hr:Ae M f us0 H0 k (Q3 v Hn kn))
 (h0:((ids H0).all fun id=>match m[id]? with | some i=>m0.contains i | none=>true)=true) (h0m:(m0.all fun i=>m.contains i)=true)
 (hm:(decide m.Nodup && decide (m.length=k) && decide (k≤kn) && decide (kn≤k + 16))=true) (hall:(m.all fun i=>Af H i || (Hx m0 H i || CK us i))=true) (hall0:(m0.all fun i=>Af H i)=true) (hus:AY H m [] us0 us) (hH:B8 H m [] H0)
 (hK:K (v.ren (AE m n kn)) (AM (AE m n kn) Hn ++ A4 H m0)):AQ M f us H n K:=by
 simp only [Bool.and_eq_true,decide_eq_true_eq] at hm
 obtain ⟨⟨⟨h1,h2⟩,h3⟩,h4⟩:=hm
 refine GC hr False m m0 [] (fun id i hid hi=>?_) (fun i hi=>?_) h1 BD h2 (by simpa using hall0) (fun i hi=>by
  have:=List.all_eq_true.1 hall i hi
  simp only [Bool.or_eq_true] at this
  exact this.elim .inl (fun h=>.inr h.symm)) hus hH ?_
 ·rw [List.all_eq_true] at h0
  have hmem:id ∈ ids H0:=by
   have:=IZ id H0
   rw [hid] at this
   simpa [List.contains_iff_mem] using this
  have:=h0 id hmem
  rw [hi] at this
  simpa using this
 ·rw [List.all_eq_true] at h0m
  simpa using h0m i hi
 ·rintro v' H' k' ⟨rfl,rfl,rfl⟩
  refine ⟨⟨h4,fun h=>h.elim⟩,?_⟩
  rw [Ie m n k' Aa,if_neg id,List.append_nil]
  exact hK
theorem XX {f:Nat} {us us0:List V} {H:Hp} {n:Nat} {C:V→Hp→Prop} {v:V} (hr:Ae M f us0 [] 0 (Q3 v [] 0)) (hus:AY H [] (ids H) us0 us) (hv:v.ren (Bk [] n 0)=v) (hn:A7 v) (hC:C v H):Fs M f us H n C :=
 ⟨v,H,Jl hr hus hv hn ⟨rfl,rfl⟩,hC⟩
theorem Adl {f:Nat} {us us0:List V} {H Hn:Hp} {n kn:Nat} {C:V→Hp→Prop} {v:V} (hr:Ae M f us0 [] 0 (Q3 v Hn kn))
 (hk:decide (kn≤16)=true) (hus:AY H [] (ids H) us0 us) (hv:A7 v) (hn:Ce Hn)
 (hC:C (v.ren (AE [] n kn)) (AM (AE [] n kn) Hn ++ H)):Fs M f us H n C :=
 ⟨_,_,ME hr hk hus hv hn ⟨rfl,rfl⟩,hC⟩
theorem X9 {f:Nat} {us us0:List V} {H H0 Hn:Hp} {n k kn:Nat} {C:V→Hp→Prop} {v:V} (m:List Nat) (hr:Ae M f us0 H0 k (Q3 v Hn kn))
 (hm:(decide m.Nodup && decide (m.length=k) && decide (k≤kn) && decide (kn≤k + 16))=true) (hall:(m.all fun i=>Af H i)=true) (hus:AY H m (Cr H m) us0 us) (hH:B8 H m (Cr H m) H0) (hv:A7 v) (hn:Ce Hn)
 (hC:C (v.ren (AE m n kn)) (AM (AE m n kn) Hn ++ A4 H m)):Fs M f us H n C :=
 ⟨_,_,Na m hr hm hall hus hH hv hn ⟨rfl,rfl⟩,hC⟩
theorem Aed {f:Nat} {us us0:List V} {H H0 Hn:Hp} {n k kn:Nat} {C:V→Hp→Prop} {v:V} (m m0:List Nat) (hr:Ae M f us0 H0 k (Q3 v Hn kn))
 (h0:((ids H0).all fun id=>match m[id]? with | some i=>m0.contains i | none=>true)=true) (h0m:(m0.all fun i=>m.contains i)=true)
 (hm:(decide m.Nodup && decide (m.length=k) && decide (k≤kn) && decide (kn≤k + 16))=true) (hall:(m.all fun i=>Af H i || CK us i)=true) (hall0:(m0.all fun i=>Af H i)=true) (hus:AY H m (Cr H m) us0 us) (hH:B8 H m (Cr H m) H0) (hv:A7 v) (hn:Ce Hn)
 (hC:C (v.ren (AE m n kn)) (AM (AE m n kn) Hn ++ A4 H m0)):Fs M f us H n C :=
 ⟨_,_,RU m m0 hr h0 h0m hm hall hall0 hus hH hv hn ⟨rfl,rfl⟩,hC⟩
theorem Ade {f:Nat} {us us0:List V} {H H0 Hn:Hp} {n k kn:Nat} {C:V→Hp→Prop} {v:V} (m m0:List Nat) (hr:Ae M f us0 H0 k (Q3 v Hn kn))
 (h0:((ids H0).all fun id=>match m[id]? with | some i=>m0.contains i | none=>true)=true) (h0m:(m0.all fun i=>m.contains i)=true)
 (hm:(decide m.Nodup && decide (m.length=k) && decide (k≤kn) && decide (kn≤k + 16))=true) (hall:(m.all fun i=>Af H i || (Hx m0 H i || CK us i))=true) (hall0:(m0.all fun i=>Af H i)=true) (hus:AY H m [] us0 us) (hH:B8 H m [] H0)
 (hC:C (v.ren (AE m n kn)) (AM (AE m n kn) Hn ++ A4 H m0)):Fs M f us H n C :=
 ⟨_,_,Sv m m0 hr h0 h0m hm hall hall0 hus hH ⟨rfl,rfl⟩,hC⟩
theorem Anj {f:Nat} {v:V} {us:List V} {H:Hp} {n:Nat} {K:V→Hp→Prop} (hf:FJ M f) (hv:(v.solid && !v.isAgg)=true) (h:AQ M f (us ++ [v]) H n K):EF M (.fn f (.st 1 (.fcons 0 v .fnil))) us H n K:=by
 refine .inl ⟨⟨hf,?_⟩,h⟩
 simpa [V.fhas,V.fget] using hv
theorem WK {f:Nat} {v:V} {us:List V} {H:Hp} {n:Nat} {K:V→Hp→Prop} (hf:FJ M f) (hv:(v.solid && !v.isAgg)=true) (h:AQ M f (v :: us) H n K):EF M (.fn (f + 2000000) (.st 1 (.fcons 0 v .fnil))) us H n K:=by
 refine .inr ⟨by omega,⟨by rw [Nat.add_sub_cancel];exact hf,?_⟩,?_⟩
 ·simpa [V.fhas,V.fget] using hv
 ·rw [Nat.add_sub_cancel];exact h
theorem Al9 {f:Nat} {v:V} {us us0:List V} {H:Hp} {n:Nat} {C:V→Hp→Prop} {r:V} (hf:FJ M f) (hv:(v.solid && !v.isAgg)=true) (hr:Ae M f us0 [] 0 (fun r' H' k'=>r'=r∧H'=[]∧k'=0)) (hus:AY H [] (ids H) us0 (us ++ [v])) (hv2:r.ren (Bk [] n 0)=r) (hn:A7 r) (hC:C r H):Uw M (.fn f (.st 1 (.fcons 0 v .fnil))) us H n C :=
 ⟨r,H,Anj hf hv (Jl hr hus hv2 hn ⟨rfl,rfl⟩),hC⟩
def IP (v:V) (i:Nat) (r:V):V:=match v with | .junk=>r | v=>.fcons i v r
def Gw (v:V):Prop:=match v with | .junk=>True | v=>v.solid=true
theorem Ajc (A:List V) (H:Hp) (r:RVr) (rs:List RVr) (i:Nat):GN A H (r :: rs) i=IP (Ex A H r) i (GN A H rs (i + 1)):=by
 simp only [GN,IP];split <;> simp_all
theorem Amk (A:List V) (H:Hp) (i:Nat):GN A H [] i = .fnil:=rfl
theorem All (A:List V) (H:Hp) (r:RVr) (rs:List RVr):HJ A H (r :: rs)=(Gw (Ex A H r)∧HJ A H rs):=by
 simp only [HJ,Gw];split <;> simp_all
theorem Aj0 (A:List V) (H:Hp):HJ A H []=True:=rfl
theorem Acc (k:IntKind) (n:Int) (ix:Nat) (r:V):IP (.int k n) ix r = .fcons ix (.int k n) r:=rfl
theorem Ab7 (k:IntKind) (n:Int):Gw (.int k n)=True:=FA
theorem W4 (b:Bool) (ix:Nat) (r:V):IP (.bool b) ix r = .fcons ix (.bool b) r:=rfl
theorem Wo (b:Bool):Gw (.bool b)=True:=FA
theorem Zz (s:ByteArray) (ix:Nat) (r:V):IP (.str s) ix r = .fcons ix (.str s) r:=rfl
theorem ZO (s:ByteArray):Gw (.str s)=True:=FA
theorem Y5  (ix:Nat) (r:V):IP (.nilp) ix r = .fcons ix (.nilp) r:=rfl
theorem Wc :Gw (.nilp)=True:=FA
theorem ZX (i:Nat) (p:List Stp) (ix:Nat) (r:V):IP (.ptr i p) ix r = .fcons ix (.ptr i p) r:=rfl
theorem ZP (i:Nat) (p:List Stp):Gw (.ptr i p)=True:=FA
theorem X7  (ix:Nat) (r:V):IP (.nils) ix r = .fcons ix (.nils) r:=rfl
theorem XP :Gw (.nils)=True:=FA
theorem Aic (i:Nat) (p:List Stp) (o n sz:Nat) (ix:Nat) (r:V):IP (.sl i p o n sz) ix r = .fcons ix (.sl i p o n sz) r:=rfl
theorem Af8 (i:Nat) (p:List Stp) (o n sz:Nat):Gw (.sl i p o n sz)=True:=FA
theorem Ack (sz n:Nat) (f:Nat→V) (ix:Nat) (r:V):IP (.lst sz n f) ix r = .fcons ix (.lst sz n f) r:=rfl
theorem Z0 (sz n:Nat) (f:Nat→V):Gw (.lst sz n f)=True:=FA
theorem XM  (ix:Nat) (r:V):IP (.nili) ix r = .fcons ix (.nili) r:=rfl
theorem Vh :Gw (.nili)=True:=FA
theorem Aa2 (t:Nat) (v:V) (ix:Nat) (r:V):IP (.ifc t v) ix r = .fcons ix (.ifc t v) r:=rfl
theorem Aaz (t:Nat) (v:V):Gw (.ifc t v)=True:=FA
theorem Aha (n:Nat) (v:V) (ix:Nat) (r:V):IP (.st n v) ix r = .fcons ix (.st n v) r:=rfl
theorem Ahv (n:Nat) (v:V):Gw (.st n v)=True:=FA
theorem Adx (sz n:Nat) (f:Nat→V) (ix:Nat) (r:V):IP (.ar sz n f) ix r = .fcons ix (.ar sz n f) r:=rfl
theorem Aee (sz n:Nat) (f:Nat→V):Gw (.ar sz n f)=True:=FA
theorem Acd (v:V) (ix:Nat) (r:V):IP (.imm v) ix r = .fcons ix (.imm v) r:=rfl
theorem Zx (v:V):Gw (.imm v)=True:=FA
theorem Zv (i:Nat) (ix:Nat) (r:V):IP (.map i) ix r = .fcons ix (.map i) r:=rfl
theorem Abg (i:Nat):Gw (.map i)=True:=FA
theorem XA  (ix:Nat) (r:V):IP (.nilm) ix r = .fcons ix (.nilm) r:=rfl
theorem Ve :Gw (.nilm)=True:=FA
theorem Aey (f:Nat) (c:V) (ix:Nat) (r:V):IP (.fn f c) ix r = .fcons ix (.fn f c) r:=rfl
theorem Agw (f:Nat) (c:V):Gw (.fn f c)=True:=FA
theorem Xj  (ix:Nat) (r:V):IP (.nilf) ix r = .fcons ix (.nilf) r:=rfl
theorem WO :Gw (.nilf)=True:=FA
theorem An9 (w:BitVec 64) (ix:Nat) (r:V):IP (W w) ix r = .fcons ix (W w) r:=rfl
theorem Amt (w:BitVec 64):Gw (W w)=True:=by simp [Gw,V.solid,W]
theorem Ali (w:BitVec 8) (ix:Nat) (r:V):IP (B w) ix r = .fcons ix (B w) r:=rfl
theorem Ako (w:BitVec 8):Gw (B w)=True:=by simp [Gw,V.solid,B]
theorem Agl (d:Dg) (ix:Nat) (r:V):IP (dg d) ix r = .fcons ix (dg d) r:=rfl
theorem Aex (d:Dg):Gw (dg d)=True:=by simp [Gw,V.solid,dg]
def WM:=(CX (Ig @Ajc @Amk @All @Aj0 @Acc @Ab7 @W4 @Wo @Zz @ZO @Y5 @Wc @ZX @ZP) (D8 @X7 @XP @Aic @Af8 @Ack @Z0 @XM @Vh @Aa2 @Aaz @Aha @Ahv @Adx @Aee @Acd) (D8 @Zx @Zv @Abg @XA @Ve @Aey @Agw @Xj @WO @An9 @Amt @Ali @Ako @Agl @Aex))
theorem R2 (w:BitVec 64):A7 (W w)=True:=rfl
theorem Afr (w:BitVec 8):A7 (B w)=True:=rfl
theorem Oi (d:Dg):A7 (dg d)=True:=eq_true (by simp only [A7,dg,B,implies_true])
theorem Ady (k:Nat):(2:Int) ^ k=((2 ^ k:Nat):Int):=by rw [Int.natCast_pow];rfl
def Dg.put (d:Dg) (k:Nat) (b:BitVec 8):Dg:=Dg.mk' fun j=>if j=k then b else d.at j
theorem Dg.at_out (d:Dg) (j:Nat) (hj:¬ j < 32):d.at j=0:=by
 rw [Dg.at,List.getD_eq_getElem?_getD,List.getElem?_eq_none (by rw [d.h];omega)];rfl
theorem UQ (A:List V) (H:Hp) (n:Nat) (zk zv:Z):Ac A H n (.mkmap zk zv)=⟨True,.map n,(n,.mp 0 (fun _=>zk.v 0) (fun _=>zv.v 0)) :: H⟩:=rfl
theorem TG (A:List V) (H:Hp) (n:Nat) (s:ES) (z:Z) (ok:Bool) (m k:X):Ac A H n (.mlook s z ok m k)=Ly s z ok (m.ev A) (k.ev A) H:=rfl
theorem Y6 (A:List V) (H:Hp) (n:Nat) (s:ES) (m k x:X):Ac A H n (.mupd s m k x)=V8 s (m.ev A) (k.ev A) (x.ev A) H:=rfl
def CJ (s:ES) (z:Z) (ok:Bool) (hh:Bool) (b k:V) (H:Hp):Out:=match b with
 | .mp n ks vs=>⟨hh=true∧k.solid=true∧AL true s k k∧∀ i,i < n→AL true s k (ks i),
  (match GQ s k ks 0 n with
  | some i=>if ok then .tup (.fcons 0 (vs i) (.fcons 1 (.bool true) .fnil)) else vs i
  | none=>if ok then .tup (.fcons 0 (z.v 0) (.fcons 1 (.bool false) .fnil)) else z.v 0),H⟩
 | _=>BR H
def Gn (s:ES) (hh:Bool) (b k x:V) (id:Nat) (H:Hp):Out:=match b with
 | .mp n ks vs=>⟨hh=true∧k.solid=true∧x.solid=true∧AL true s k k∧∀ i,i < n→AL true s k (ks i),.tup .fnil,
  Cs H id (.mp (match GQ s k ks 0 n with | some _=>n | none=>n + 1) (fun j=>if j=(GQ s k ks 0 n).getD n then k else ks j) (fun j=>if j=(GQ s k ks 0 n).getD n then x else vs j))⟩
 | _=>BR H
theorem YQ (s:ES) (z:Z) (ok:Bool) (id:Nat) (k:V) (H:Hp):Ly s z ok (.map id) k H=CJ s z ok (Af H id) (hget H id) k H:=by
 simp only [Ly,CJ]
 generalize hget H id=b
 cases b <;> rfl
theorem Ail (s:ES) (id:Nat) (k x:V) (H:Hp):V8 s (.map id) k x H=Gn s (Af H id) (hget H id) k x id H:=by
 simp only [V8,Gn]
 generalize hget H id=b
 cases b <;> rfl
section
variable {α:Type}
def KM (k:Dg):List (Dg × α)→Option Nat
 | []=>none
 | (a,_) :: r=>if k=a then some 0 else (KM k r).map (· + 1)
def DM (k:Dg):List (Dg × α)→Option α
 | []=>none
 | (a,b) :: r=>if k=a then some b else DM k r
def CV (k:Dg) (x:α):List (Dg × α)→List (Dg × α)
 | []=>[(k,x)]
 | (a,b) :: r=>if k=a then (k,x) :: r else (a,b) :: CV k x r
def Bv (g:α→V) (d:α) (l:List (Dg × α)):V:=.mp l.length (fun j=>dg (l.getD j (Dg.zero,d)).1) (fun j=>g (l.getD j (Dg.zero,d)).2)
theorem S3 (k:Dg) (ks:Nat→V) (d:α):∀ (l:List (Dg × α)) (i:Nat),(∀ j,j < l.length→ks (i + j)=dg (l.getD j (Dg.zero,d)).1)→GQ (.ar 32 1 false .int) (dg k) ks i l.length=(KM k l).map (i + ·)
 | [],_,_=>rfl
 | (a, b) :: r, i, h => by
   have h0:=h 0 BD
   simp only [Nat.add_zero,List.getD_cons_zero] at h0
   have ih:=S3 k ks d r (i + 1) (fun j hj=>by
    have:=h (j + 1) (by simpa using hj)
    simp only [List.getD_cons_succ] at this
    rw [← this];congr 1;omega)
   simp only [List.length_cons,GQ,h0,Jo,decide_eq_true_eq,KM]
   by_cases hk:k=a
   ·simp [hk]
   ·simp only [hk,if_false,ih,Option.map_map]
    congr 1
    funext j
    simp only [Function.comp];omega
theorem Td (k:Dg) (d:α) (l:List (Dg × α)):GQ (.ar 32 1 false .int) (dg k) (fun j=>dg (l.getD j (Dg.zero,d)).1) 0 l.length=KM k l:=by
 rw [S3 k _ d l 0 (fun j _=>by rw [Nat.zero_add])]
 cases KM k l <;> simp
theorem Si (k:Dg) (d:α):∀ l:List (Dg × α),DM k l=(KM k l).map (fun i=>(l.getD i (Dg.zero,d)).2)
 | []=>rfl
 | (a, b) :: r => by
   simp only [DM,KM]
   by_cases hk:k=a
   ·simp [hk]
   ·simp only [hk,if_false,Si k d r,Option.map_map]
    congr 1
def lkR (z:Z) (ok:Bool) (g:α→V):Option α→V
 | some x=>if ok then .tup (.fcons 0 (g x) (.fcons 1 (.bool true) .fnil)) else g x
 | none=>if ok then .tup (.fcons 0 (z.v 0) (.fcons 1 (.bool false) .fnil)) else z.v 0
theorem Agp (z:Z) (g:α→V) (x:α):lkR z true g (some x) = .tup (.fcons 0 (g x) (.fcons 1 (.bool true) .fnil)):=rfl
theorem Af2 (z:Z) (g:α→V):lkR z true g none = .tup (.fcons 0 (z.v 0) (.fcons 1 (.bool false) .fnil)):=rfl
theorem Afq (z:Z) (g:α→V) (x:α):lkR z false g (some x)=g x:=rfl
theorem Aec (z:Z) (g:α→V):lkR z false g none=z.v 0:=rfl
theorem Th (z:Z) (ok hh:Bool) (g:α→V) (d:α) (l:List (Dg × α)) (k:Dg) (H:Hp):CJ (.ar 32 1 false .int) z ok hh (Bv g d l) (dg k) H=⟨hh=true,lkR z ok g (DM k l),H⟩:=by
 simp only [CJ,Bv,Td,Si k d l,Df,eq_true (GT true _ _),implies_true,N9]
 congr 1
 cases KM k l <;> rfl
theorem PI (k:Dg) (x:α):∀ l:List (Dg × α),(CV k x l).length=(match KM k l with | some _=>l.length | none=>l.length + 1)
 | []=>rfl
 | (a, b) :: r => by
   simp only [CV,KM]
   by_cases hk:k=a
   ·simp [hk]
   ·simp only [hk,if_false,List.length_cons,PI k x r]
    cases KM k r <;> rfl
theorem SW (k:Dg) (x:α) (d:Dg × α):∀ (l:List (Dg × α)) (j:Nat),(CV k x l).getD j d=if j=(KM k l).getD l.length then (k,x) else l.getD j d
 | [], j => by
   simp only [CV,KM,Option.getD_none,List.length_nil]
   cases j <;> simp
 | (a, b) :: r, j => by
   simp only [CV,KM]
   by_cases hk:k=a
   ·simp only [hk,if_true,Option.getD_some]
    cases j <;> simp
   ·simp only [hk,if_false]
    cases j with
    | zero =>
      simp only [List.getD_cons_zero,List.length_cons]
      rw [if_neg]
      cases KM k r <;> simp
    | succ j =>
      simp only [List.getD_cons_succ,SW k x d r j,List.length_cons]
      have e:((KM k r).map (· + 1)).getD (r.length + 1)=(KM k r).getD r.length + 1:=by cases KM k r <;> rfl
      rw [e]
      simp only [Nat.add_right_cancel_iff]
theorem W2 (hh:Bool) (g:α→V) (d:α) (l:List (Dg × α)) (k:Dg) (x:α) (id:Nat) (H:Hp):Gn (.ar 32 1 false .int) hh (Bv g d l) (dg k) (g x) id H=⟨hh=true∧(g x).solid=true,.tup .fnil,Cs H id (Bv g d (CV k x l))⟩:=by
 have e:Bv g d (CV k x l) = .mp (match KM k l with | some _=>l.length | none=>l.length + 1) (fun j=>if j=(KM k l).getD l.length then dg k else dg (l.getD j (Dg.zero,d)).1) (fun j=>if j=(KM k l).getD l.length then g x else g (l.getD j (Dg.zero,d)).2):=by
  simp only [Bv,PI,SW]
  congr 1
  ·funext j;split <;> rfl
  ·funext j;split <;> rfl
 rw [e]
 simp only [Gn,Bv,Td,Df,eq_true (GT true _ _),implies_true,N9]
theorem SK (m:List Nat) (g:α→V) (hg:∀ x,(g x).ren m=g x) (d:α) (l:List (Dg × α)):(Bv g d l).ren m=Bv g d l:=by
 simp only [Bv,V.ren,AC,hg]
theorem Oj (g:α→V) (hg:∀ x,A7 (g x)) (d:α) (l:List (Dg × α)):A7 (Bv g d l):=by
 simp only [Bv,A7,Oi,true_and];exact fun i _=>hg _
theorem Jp (H:Hp) (m z:List Nat) (g:α→V) (hg:∀ x,At H m z (g x) (g x)) (d:α) (l:List (Dg × α)):At H m z (Bv g d l) (Bv g d l):=by
 simp only [Bv,At,true_and];exact fun i _=>⟨(AN _ _ _ _ _).mpr rfl,hg _⟩
theorem Aax (H:Hp) (m z:List Nat) (g:α→V) (d:α) (ks vs:Nat→V):At H m z (Bv g d []) (.mp 0 ks vs):=by
 simp only [Bv,At,List.length_nil,Nat.not_lt_zero,false_implies,implies_true,and_self]
end
structure Pr where
 l:List (BitVec 8)
 h:l.length=64
deriving DecidableEq
def Pr.at (d:Pr) (j:Nat):BitVec 8:=d.l.getD j 0
def Pr.mk' (f:Nat→BitVec 8):Pr:=⟨(List.range 64).map f,by simp⟩
theorem Pr.at_mk' (f:Nat→BitVec 8) (j:Nat) (hj:j < 64):(Pr.mk' f).at j=f j:=by
 simp [Pr.at,Pr.mk',List.getD,List.getElem?_map,List.getElem?_range hj]
theorem Pr.ext' {a b:Pr} (h:∀ j,j < 64→a.at j=b.at j):a=b:=by
 obtain ⟨l,hl⟩:=a
 obtain ⟨m,hm⟩:=b
 have:l=m:=by
  apply List.ext_getElem Aa
  intro i h1 h2
  have:=h i Aa
  simpa [Pr.at,List.getD,h1,h2] using this
 subst this;rfl
def Pr.zero:Pr:=Pr.mk' fun _=>0
theorem Pr.at_out (d:Pr) (j:Nat) (hj:¬ j < 64):d.at j=0:=by
 rw [Pr.at,List.getD_eq_getElem?_getD,List.getElem?_eq_none (by rw [d.h];omega)];rfl
theorem Pr.at_zero (j:Nat):Pr.zero.at j=0:=by
 by_cases hj:j < 64
 ·rw [Pr.zero,Pr.at_mk' _ _ hj]
 ·exact Pr.at_out _ _ hj
def AF (p:Pr):V:=.ar 1 64 (fun j=>B (p.at j))
def YA:=(Bo @Pr.at_zero @AF.eq_1)
def Lap:=(Bo @dg.eq_1 @AF.eq_1)
def Lbc:=(Bo @Lap @Pr.at_zero)
theorem TJ (p:Pr):(AF p).solid=true:=rfl
theorem Xl (p:Pr):(AF p).size=64:=rfl
theorem Zh (p:Pr):(AF p).isAgg=true:=rfl
theorem YN (m:List Nat) (p:Pr):(AF p).ren m=AF p:=rfl
theorem OA (p:Pr):A7 (AF p)=True:=eq_true (by simp only [A7,AF,B,implies_true])
theorem Er (H:Hp) (m z:List Nat) (a b:Pr):At H m z (AF a) (AF b) ↔ b=a:=by
 simp only [At,AF,Jz,true_and]
 constructor
 ·intro h;exact Pr.ext' (fun j hj=>h j hj)
 ·rintro rfl _ _;rfl
theorem Yv (H:Hp) (m z:List Nat) (a:Pr) (u:V):Bl H m z (AF a) u=At H m z (AF a) u:=rfl
theorem Acl (k:Nat) (p:Pr):V.get [.i 1 k] (AF p)=B (p.at k):=rfl
theorem Yh (p:Pr):TD 1 64 (AF p)=True:=by simp [AF,TD]
theorem VY (c:Bool) (a b:Pr):AL c (.ar 64 1 false .int) (AF a) (AF b):=by
 simp only [AL,AF,true_and]
 intro i _
 refine ⟨rfl,rfl,?_⟩
 simp only [B]
theorem WY (a b:Pr):AP (.ar 64 1 false .int) (AF a) (AF b)=decide (a=b):=by
 have h1:AP (.ar 64 1 false .int) (AF a) (AF b)=(List.range 64).all (fun i=>decide (a.at i=b.at i)):=by
  simp only [AP,AF,B,eqB]
 rw [h1,Bool.eq_iff_iff,List.all_eq_true]
 simp only [decide_eq_true_eq,List.mem_range]
 constructor
 ·exact fun h=>Pr.ext' h
 ·rintro rfl _ _;rfl
theorem pr0:V.ar 1 64 (fun _=>B 0#8)=AF Pr.zero:=by
 have h:(fun _=>B 0#8)=fun j=>B (Pr.zero.at j):=by funext j;rw [Pr.at_zero];rfl
 simp only [AF,h]
theorem Aa8 (d:Dg):TD 1 32 (dg d)=True:=by simp [dg,TD]
theorem TO (o n sz:Nat) (d:Dg):HS o n sz (dg d)=some (sz,n,fun i=>B (d.at (o + i))):=rfl
theorem Tp (o n:Nat) (d:Dg):GA o n 1 (dg d)=(o + n≤32):=by simp [dg,GA]
theorem Qe (o n sz:Nat) (d:Pr):HS o n sz (AF d)=some (sz,n,fun i=>B (d.at (o + i))):=rfl
theorem QM (o n:Nat) (d:Pr):GA o n 1 (AF d)=(o + n≤64):=by simp [AF,GA]
theorem Ys (H:Hp) (m z:List Nat) (d:Pr) (l:List (Dg × Pr)):At H m z (Bv AF d l) (Bv AF d l)=True:=eq_true (Jp H m z AF (fun _=>(Er _ _ _ _ _).mpr rfl) d l)
theorem U1 (d:Pr) (l:List (Dg × Pr)):A7 (Bv AF d l)=True:=eq_true (Oj AF (fun x=>by rw [OA];trivial) d l)
theorem Xz (m:List Nat) (d:Pr) (l:List (Dg × Pr)):(Bv AF d l).ren m=Bv AF d l:=SK m AF (fun _=>rfl) d l
theorem Zn (p:Pr) (i:Nat) (r:V):IP (AF p) i r = .fcons i (AF p) r:=rfl
theorem ZB (p:Pr):Gw (AF p)=True:=by simp [Gw,AF,V.solid]
end Mv
