/- A part. -/
import Derived.Test.YtlfkjfonpacelaaGreatDoorFK
set_option linter.all false
set_option maxRecDepth 20000
set_option maxHeartbeats 64000000
namespace Mv
def C5 (w:Nat) (v:Nat→Nat):Nat→Nat
 | 0=>0
 | k + 1=>C5 w v k + (v k) <<< (w * k)
theorem KA (w:Nat) (v:Nat→Nat) (hv:∀ k,v k < 2 ^ w):∀ n,C5 w v n < 2 ^ (w * n)
 | 0=>by simp [C5]
 | n + 1 => by
   have h:=KA w v hv n
   have h2:=hv n
   simp only [C5,Nat.shiftLeft_eq]
   rw [Nat.mul_succ,Nat.pow_add,Nat.mul_comm (2 ^ (w * n))]
   have h3:(v n + 1) * 2 ^ (w * n)≤2 ^ w * 2 ^ (w * n):=Nat.mul_le_mul_right _ h2
   rw [Nat.add_mul] at h3
   omega
theorem E4 (w:Nat) (v:Nat→Nat) (hv:∀ k,v k < 2 ^ w):∀ n i,(C5 w v n >>> (w * i)) % 2 ^ w=if i < n then v i else 0
 | 0,i=>by simp [C5]
 | n + 1, i => by
   have ih:=E4 w v hv n i
   have hlt:=KA w v hv n
   simp only [C5,Nat.shiftLeft_eq,Nat.shiftRight_eq_div_pow] at ih ⊢
   by_cases h1:i < n
   ·rw [if_pos h1] at ih
    rw [if_pos Aa]
    have e1:w * n=w * i + (w + w * (n - i - 1)):=by
     have:n=i + 1 + (n - i - 1):=Aa
     rw [this,Nat.mul_add,Nat.mul_add]
     have e:i + 1 + (n - i - 1) - i - 1=n - i - 1:=Aa
     rw [e];omega
    have e2:v n * 2 ^ (w * n)=2 ^ (w * i) * (2 ^ w * (v n * 2 ^ (w * (n - i - 1)))):=by
     rw [e1,Nat.pow_add,Nat.pow_add]
     simp only [Nat.mul_assoc,Nat.mul_comm,Nat.mul_left_comm]
    rw [e2,Nat.add_mul_div_left _ _ (Nat.pow_pos Aa),Nat.add_mul_mod_self_left]
    exact ih
   ·by_cases h2:i=n
    ·subst h2
     rw [if_pos Aa,Nat.add_mul_div_right _ _ (Nat.pow_pos Aa),Nat.div_eq_of_lt hlt,Nat.zero_add,Nat.mod_eq_of_lt (hv i)]
    ·rw [if_neg Aa]
     have h3:C5 w v n + v n * 2 ^ (w * n) < 2 ^ (w * i):=by
      have:=KA w v hv (n + 1)
      simp only [C5,Nat.shiftLeft_eq] at this
      exact Nat.lt_of_lt_of_le this (Nat.pow_le_pow_right Aa (Nat.mul_le_mul_left _ Aa))
     rw [Nat.div_eq_of_lt h3];rfl
theorem Cn (w:Nat) {u v:Nat→Nat}:∀ n,(∀ k,k < n→u k=v k)→C5 w u n=C5 w v n
 | 0,_=>rfl
 | n + 1,h=>by rw [C5,C5,Cn w n (fun k hk=>h k Aa),h n Aa]
def Lk (s i:Nat):Nat:=(s >>> (64 * i)) % 18446744073709551616
def Aig (x k:Nat):Nat:=(x <<< k) % 18446744073709551616 ||| x >>> (64 - k)
def Zw (s x:Nat):Nat:=Lk s x ^^^ Lk s (x + 5) ^^^ Lk s (x + 10) ^^^ Lk s (x + 15) ^^^ Lk s (x + 20)
def Aja (s x:Nat):Nat:=Zw s ((x + 4) % 5) ^^^ Aig (Zw s ((x + 1) % 5)) 1
def thN (s j:Nat):Nat:=Lk s j ^^^ Aja s (j % 5)
def Ab5:List Nat:=[0,6,12,18,24,3,9,10,16,22,1,7,13,19,20,4,5,11,17,23,2,8,14,15,21]
def Aim:List Nat:=[0,44,43,21,14,28,20,3,45,61,1,6,25,8,18,27,36,10,15,56,62,55,39,41,2]
def bN (s j:Nat):Nat:=Aig (thN s (Ab5.getD j 0)) (Aim.getD j 0)
def Af2 (s j:Nat):Nat:=bN s j ^^^ ((18446744073709551615 ^^^ bN s (5 * (j / 5) + (j + 1) % 5)) &&& bN s (5 * (j / 5) + (j + 2) % 5))
def rcN (n:Nat):Nat:=(rounds.getD n 0).toNat
def Acg (s n:Nat):Nat:=C5 64 (fun k=>Af2 s k ^^^ (if k=0 then rcN n else 0)) 25
def Ahk (s:Nat):Nat→Nat
 | 0=>s
 | n + 1=>Acg (Ahk s n) n
def Xh (a j:Nat):Nat:=(a >>> (8 * j)) % 256
def Aik (a b j:Nat):Nat:=if j < 32 then Xh a j else if j < 64 then Xh b (j - 32) else if j=64 then 1 else if j=135 then 128 else 0
def xwN (p:Nat→Nat) (j:Nat):Nat→Nat
 | 0=>0
 | k + 1=>xwN p j k ^^^ ((p (8 * j + k) <<< (8 * k)) % 18446744073709551616)
def inN (a b:Nat):Nat:=C5 64 (fun i=>if i < 17 then xwN (Aik a b) i 8 else 0) 25
def Ah5 (s:Nat):Nat:=C5 8 (fun i=>(Lk s (i / 8) >>> (8 * (i % 8))) % 256) 32
def IP (a b:Nat):Nat:=Ah5 (Ahk (inN a b) 24)
def Jp (d:Dg):Nat:=C5 8 (fun i=>(d.at i).toNat) 32
theorem OD (d:Dg) (i:Nat) (hi:i < 32):Xh (Jp d) i=(d.at i).toNat:=by
 have h:=E4 8 (fun i=>(d.at i).toNat) (fun k=>(d.at k).isLt) 32 i
 rw [if_pos hi] at h
 exact h
def St (s:Nat) (l:List (BitVec 64)):Prop:=∀ i,i < 25→Lk s i=(l.getD i 0).toNat
theorem Qd (x:BitVec 64) (k:Nat):Aig x.toNat k=(Vx x k).toNat:=Pz x k
theorem Aij {s:Nat} {l:List (BitVec 64)} (h:St s l) (x:Nat) (hx:x < 5):Zw s x=(par l x).toNat:=by
 simp only [Zw,par,BitVec.toNat_xor,h x Aa,h (x + 5) Aa,h (x + 10) Aa,h (x + 15) Aa,h (x + 20) Aa]
theorem Ahb {s:Nat} {l:List (BitVec 64)} (h:St s l) (x:Nat):Aja s x=(SX l x).toNat:=by
 simp only [Aja,SX,BitVec.toNat_xor,Aij h _ (Nat.mod_lt _ (by omega:0 < 5)),Qd]
theorem Akl {s:Nat} {l:List (BitVec 64)} (h:St s l) (j:Nat) (hj:j < 25):thN s j=((th l).getD j 0).toNat:=by
 rw [YC _ _ hj,Qp,if_pos Aa,BitVec.toNat_xor,thN,h j hj,Ahb h]
end Mv
namespace Mv
def Ln (p:Nat):Nat:=(lanes.getD p 0).toNat
def Tn (p:Nat):Nat:=(turns.getD p 0).toNat
def pos:Nat→Nat
 | 0=>1
 | p + 1=>Ln p
theorem Amz:∀ p,p < 24→Ln p < 25:=Aj
theorem Adu:∀ p,p < 24→∀ q,q < 24→p ≠ q→Ln p ≠ Ln q:=Aj
theorem Ahe:∀ j,j < 25→j ≠ 0→∃ p,p < 24∧Ln p=j∧pos p=Ab5.getD j 0∧Tn p=Aim.getD j 0:=Aj
theorem Ag2:∀ p,p < 24→Ln p ≠ 0:=Aj
def MS (a:List (BitVec 64)):Nat→Nat→BitVec 64
 | 0,j=>a.getD j 0
 | p + 1,j=>if j=Ln p then Vx (a.getD (pos p) 0) (Tn p) else MS a p j
theorem GO (a:List (BitVec 64)) (j:Nat):∀ p,(∀ q,q < p→Ln q ≠ j)→MS a p j=a.getD j 0
 | 0,_=>rfl
 | p + 1,h=>by rw [MS,if_neg (fun e=>h p Aa e.symm),GO a j p (fun q hq=>h q Aa)]
theorem Ov (a:List (BitVec 64)) (p:Nat):∀ n,p < n→n≤24→MS a n (Ln p)=Vx (a.getD (pos p) 0) (Tn p)
 | 0,h,_=>by omega
 | n + 1, h, h2 => by
   by_cases e:p=n
   ·subst e;rw [MS,if_pos rfl]
   ·rw [MS,if_neg (Adu p Aa n Aa e),Ov a p n Aa Aa]
theorem Tx (a:List (BitVec 64)) (ha:a.length=25):∀ p,p≤24→(L6 a p).1=a.getD (pos p) 0∧∀ j,(L6 a p).2.getD j 0=MS a p j
 | 0,_=>⟨rfl,fun _=>rfl⟩
 | p + 1, h => by
   obtain ⟨h1,h2⟩:=Tx a ha p Aa
   refine ⟨?_,fun j=>?_⟩
   ·show (L6 a p).2.getD (Ln p) 0=a.getD (Ln p) 0
    rw [h2,GO a _ p (fun q hq=>Adu q Aa p Aa Aa)]
   ·show ((L6 a p).2.set (Ln p) (Vx (L6 a p).1 (Tn p))).getD j 0=MS a (p + 1) j
    rw [XI _ _ _ _ (by rw [Nd a ha];exact Amz p Aa),h1,h2,MS]
theorem Ako (x:BitVec 64):Vx x 0=x:=by
 have h:x >>> 64=0:=by
  apply BitVec.eq_of_toNat_eq
  rw [BitVec.toNat_ushiftRight,Nat.shiftRight_eq_div_pow,Nat.div_eq_of_lt x.isLt];rfl
 simp [Vx,h]
theorem Ajg (a:List (BitVec 64)) (ha:a.length=25) (j:Nat) (hj:j < 25):(L6 a 24).2.getD j 0=Vx (a.getD (Ab5.getD j 0) 0) (Aim.getD j 0):=by
 rw [(Tx a ha 24 (Nat.le_refl _)).2]
 by_cases h0:j=0
 ·subst h0
  rw [GO a 0 24 (fun q hq=>Ag2 q hq)]
  exact (Ako _).symm
 ·obtain ⟨p,h1,h2,h3,h4⟩:=Ahe j hj h0
  rw [← h2,Ov a p 24 h1 (Nat.le_refl _),h2,h3,h4]
theorem Aas:∀ j,j < 25→Ab5.getD j 0 < 25:=Aj
theorem Aho {s:Nat} {l:List (BitVec 64)} (h:St s l) (j:Nat) (hj:j < 25):bN s j=((L6 (th l) 24).2.getD j 0).toNat:=by
 rw [Ajg _ (Wh l) j hj,bN,Akl h _ (Aas j hj),Qd]
theorem Ab3 (x:BitVec 64):(~~~x).toNat=18446744073709551615 ^^^ x.toNat:=by
 have h2:BitVec.allOnes 64 ^^^ x = ~~~x:=BitVec.allOnes_xor
 rw [← h2,BitVec.toNat_xor];rfl
theorem Aiu {s:Nat} {l:List (BitVec 64)} (h:St s l) (j:Nat) (hj:j < 25):Af2 s j=(G5 (L6 (th l) 24).2 5 j).toNat:=by
 rw [G5,if_pos Aa,BitVec.toNat_xor,BitVec.toNat_and,Ab3,Af2,Aho h j hj,Aho h _ Aa,Aho h _ Aa]
theorem Aph (n:Nat) (hn:n < 24):rcN n=(rc.getD n 0).toNat:=by
 have:=Ad8 n hn
 rw [rcN,← this];rfl
theorem Ag1 {s:Nat} {l:List (BitVec 64)} (h:St s l) (n:Nat) (hn:n < 24):St (Acg s n) (rnd l n):=by
 intro i hi
 have hw:∀ k,(fun k=>if k < 25 then ((rnd l n).getD k 0).toNat else 0) k < 2 ^ 64:=by
  intro k
  simp only
  split
  ·exact BitVec.isLt _
  ·exact Nat.pow_pos Aa
 have e:Acg s n=C5 64 (fun k=>if k < 25 then ((rnd l n).getD k 0).toNat else 0) 25:=by
  unfold Acg
  refine Cn 64 25 (fun k hk=>?_)
  rw [if_pos hk,VI _ _ _ hk,Aiu h k hk]
  by_cases h0:k=0
  ·subst h0
   rw [if_pos rfl,if_pos rfl,BitVec.toNat_xor,Aph n hn]
  ·rw [if_neg h0,if_neg h0,Nat.xor_zero]
 have:=E4 64 _ hw 25 i
 rw [if_pos hi] at this
 simp only [if_pos hi] at this
 rw [Lk,e]
 exact this
theorem V7 {s:Nat} {l:List (BitVec 64)} (h:St s l):∀ n,n≤24→St (Ahk s n) (O3 l n)
 | 0,_=>h
 | n + 1,hn=>Ag1 (V7 h n Aa) n Aa
theorem Adr (p:Nat→BitVec 8) (q:Nat→Nat) (j:Nat):∀ k,k≤8→(∀ i,i < 8→q (8 * j + i)=(p (8 * j + i)).toNat)→xwN q j k=(Zi 0 p j k).toNat
 | 0,_,_=>rfl
 | k + 1, hk, h => by
   rw [xwN,Zi,BitVec.toNat_xor,Adr p q j k Aa h,h k Aa,BitVec.toNat_shiftLeft,BitVec.toNat_setWidth]
   have hb:=(p (8 * j + k)).isLt
   rw [Nat.mod_eq_of_lt (by omega:(p (8 * j + k)).toNat < 2 ^ 64)]
theorem Ajx (a b:Dg) (k:Nat) (hk:k < 136):Aik (Jp a) (Jp b) k=(Wu a b k).toNat:=by
 unfold Aik Wu
 by_cases h1:k < 32
 ·rw [if_pos h1,if_pos h1,OD a k h1]
 ·rw [if_neg h1,if_neg h1]
  by_cases h2:k < 64
  ·rw [if_pos h2,if_pos h2,OD b _ Aa]
  ·rw [if_neg h2,if_neg h2]
   split
   ·rfl
   ·split <;> rfl
theorem Aky (a b:Dg):St (inN (Jp a) (Jp b)) (mix (List.replicate 25 0) (Wu a b)):=by
 intro i hi
 have hrep:(List.replicate 25 (0:BitVec 64)).getD i 0=0:=by rw [List.getD,List.getElem?_replicate,if_pos hi];rfl
 have hw:∀ k,(fun k=>if k < 17 then (Zi 0 (Wu a b) k 8).toNat else 0) k < 2 ^ 64:=by
  intro k
  simp only
  split
  ·exact BitVec.isLt _
  ·exact Nat.pow_pos Aa
 have e:inN (Jp a) (Jp b)=C5 64 (fun k=>if k < 17 then (Zi 0 (Wu a b) k 8).toNat else 0) 25:=by
  unfold inN
  refine Cn 64 25 (fun k hk=>?_)
  by_cases h1:k < 17
  ·rw [if_pos h1,if_pos h1]
   exact Adr (Wu a b) _ k 8 (Nat.le_refl _) (fun i hi=>Ajx a b _ Aa)
  ·rw [if_neg h1,if_neg h1]
 have:=E4 64 _ hw 25 i
 rw [if_pos hi] at this
 rw [Lk,e]
 refine Eq.trans this ?_
 rw [Xo _ _ _ hi,Su,hrep]
 by_cases h1:i < 17
 ·simp only [if_pos h1]
 ·simp only [if_neg h1]
  split <;> rfl
theorem Aeq {s:Nat} {l:List (BitVec 64)} (h:St s l):Ah5 s=Jp (WF l):=by
 unfold Ah5 Jp
 refine Cn 8 32 (fun k hk=>?_)
 rw [WF,Dg.at_mk' _ _ hk,BitVec.toNat_setWidth,BitVec.toNat_ushiftRight,h (k / 8) Aa]
theorem Fs (a b:Dg):Jp (BW a b)=IP (Jp a) (Jp b):=by
 rw [IP,BW,Ly,WG]
 exact (Aeq (V7 (Aky a b) 24 (Nat.le_refl _))).symm
def HG:Nat→Nat
 | 0=>0
 | h + 1=>IP (HG h) (HG h)
theorem Aem:Jp Dg.zero=0:=by
 have h:Jp Dg.zero=C5 8 (fun _=>0) 32:=Cn 8 32 (fun k _=>by simp only [Dg.at_zero];rfl)
 rw [h];decide
theorem KX:∀ h,Jp (At h)=HG h
 | 0=>Aem
 | h + 1=>by rw [At,Fs,KX h,HG]
end Mv
namespace Mv
open Go
def lf:Nat→Nat
 | 0=>1
 | n + 1=>if 255 < lf n * 2 then (lf n * 2) ^^^ 369 else lf n * 2
def kk (i:Nat):Nat→BitVec 64
 | 0=>0
 | j + 1=>if lf (7 * i + j) % 2=1 then kk i j ||| ((1:BitVec 64) <<< (2 ^ j - 1)) else kk i j
def p1 (p:Nat→BitVec 8) (j:Nat):BitVec 8:=if j < 64 then p j else if j=64 then 1 else 0
def rp (l:List (Dg × Pr)) (i:Nat):Pr:=(l.getD i (Dg.zero,Pr.zero)).2
def Aia (l:List In) (v:V):Prop:=v=Jo l ∨ (v = .nils∧l=[])
def ldM (l:List In):Mc:=⟨Acf (min l.length 8192) (fun j=>Iy (l.getD j default)),fun _=>0#64,0#64,false,0#64⟩
def JM (m:Mc):Prop:=m.hl=false∧¬ 8192#64≤m.pc∧m.f m.pc.toNat >>> 32 &&& 255#64=0#64∧BS (m.f m.pc.toNat)=34∧(wi (m.g (pF (m.f m.pc.toNat) 48)) 8#64 && wi (m.g (pF (m.f m.pc.toNat) 44)) 4#64)=true
def WE (m:Mc):Pr:=Pr.mk' (Bb fun j=>m.f ((m.g (pF (m.f m.pc.toNat) 48)).toNat + j))
theorem Pq {m:Mc} (h:JM m):Pc m:=⟨h.1,h.2.1,h.2.2.1,.inl ⟨h.2.2.2.1,h.2.2.2.2⟩⟩
theorem TD {M:Seat} (ok:OkT M) (s:SM) (hs:s.n < 1099511627776):∃ s',IX M s s'∧s'.m=Du s.w.pres s.m∧(Cb s.w.pres→Cb s'.w.pres)∧((¬ JM s.m∧s'.w=s.w) ∨ (JM s.m∧s'.w=s.w.add (WE s.m))):=by
 obtain ⟨w,l,n,q,m⟩:=s
 by_cases ha:Pc m
 ·obtain ⟨f,g,pc,hl,xt⟩:=m
  obtain ⟨h1,hpc,h2,ho⟩:=ha
  dsimp only at h1 hpc h2 ho hs
  subst h1
  rcases ho with ⟨hop,hw⟩ | ⟨hop,hw⟩
  ·simp only [Bool.and_eq_true] at hw
   have ha:=DO hw.1
   have hb:=DO hw.2
   have hX:=RO w.pres f g pc xt hpc _ rfl hop h2 hw.1 hw.2
   cases n with
   | zero=>exact ⟨⟨_,l,0,q,⟨_,g,_,false,xt⟩⟩,.intro (.NN rfl rfl (G6 ok.okA ok.ok w l f g pc xt hpc _ rfl hop h2 ha hb)) B1,hX.symm,GY _ _,.inr ⟨⟨rfl,hpc,h2,hop,by simp only [Bool.and_eq_true];exact hw⟩,rfl⟩⟩
   | succ n=>exact ⟨⟨_,l,n + 1,q,⟨_,g,_,false,xt⟩⟩,.intro (.SS (Nat.succ_pos _) (Nat.succ_pos _) (FJ (n + 1) q ok.okA ok.ok w l f g pc xt hpc _ rfl hop h2 ha hb)) B1,hX.symm,GY _ _,.inr ⟨⟨rfl,hpc,h2,hop,by simp only [Bool.and_eq_true];exact hw⟩,rfl⟩⟩
  ·simp only [Bool.and_eq_true] at hw
   have ha:=DO hw.1
   have hb:=DO hw.2
   have hX:=TT w.pres f g pc xt hpc _ rfl hop h2 hw.1 hw.2
   obtain ⟨D,hD⟩:∃ D,Dg.mk' (Bb fun j=>f ((g (pF (f pc.toNat) 48)).toNat + j))=D:=⟨_,rfl⟩
   rw [hD] at hX
   obtain ⟨sn,hs'⟩:∃ sn,was l D sn:=by
    cases hc:Dt D l with
    | none=>exact ⟨false,.inr ⟨rfl,.inl hc⟩⟩
    | some b => cases b with
      | false=>exact ⟨false,.inr ⟨rfl,.inr hc⟩⟩
      | true=>exact ⟨true,.inl ⟨rfl,hc⟩⟩
   cases n with
   | zero =>
     have h:=IY ok.okA ok.ok w l f g pc xt hpc _ rfl hop h2 ha hb D hD _ sn rfl hs'
     rw [hX] at h
     cases sn with
     | true=>exact ⟨⟨w,l,0,q,_⟩,.intro (.NN rfl rfl h) B1,rfl,id,.inl ⟨fun hc=>by have:=hc.2.2.2.1;dsimp only at this;omega,rfl⟩⟩
     | false=>exact ⟨⟨w,_,1,fun _=>D,_⟩,.intro (.NS rfl Nat.one_pos h) B1,rfl,id,.inl ⟨fun hc=>by have:=hc.2.2.2.1;dsimp only at this;omega,rfl⟩⟩
   | succ n =>
     have h:=IC ok.okA ok.ok w (n + 1) hs q l f g pc xt hpc _ rfl hop h2 ha hb D hD _ sn rfl hs'
     rw [hX] at h
     cases sn with
     | true=>exact ⟨⟨w,l,n + 1,q,_⟩,.intro (.SS (Nat.succ_pos _) (Nat.succ_pos _) h) B1,rfl,id,.inl ⟨fun hc=>by have:=hc.2.2.2.1;dsimp only at this;omega,rfl⟩⟩
     | false=>exact ⟨⟨w,_,n + 1 + 1,_,_⟩,.intro (.SN (Nat.succ_pos _) (Nat.succ_pos _) h) B1,rfl,id,.inl ⟨fun hc=>by have:=hc.2.2.2.1;dsimp only at this;omega,rfl⟩⟩
 ·exact ⟨⟨w,l,n,q,Du w.pres m⟩,⟨.mach (Ac1 ok.ok ok.okP w.pres m ha) rfl,Nat.le_succ _⟩,rfl,id,.inl ⟨fun hc=>ha (Pq hc),rfl⟩⟩
variable {M:Seat}
noncomputable def HJ (pres:List (Dg × Pr)) (m:Mc):List (Dg × Pr):=haveI:Decidable (JM m):=Classical.propDecidable _;if JM m then CW (Cf (WE m).at) (WE m) pres else pres
noncomputable def xs (m:Mc) (p:List (Dg × Pr)):Nat→Mc × List (Dg × Pr)
 | 0=>(m,p)
 | i + 1=>(Du (xs m p i).2 (xs m p i).1,HJ (xs m p i).2 (xs m p i).1)
theorem WM {m:Mc} (p:List (Dg × Pr)) (h:m.hl=true):Du p m=m:=by unfold Du;rw [if_pos h]
theorem Yj {m:Mc} (p:List (Dg × Pr)) (h:m.hl=true):HJ p m=p:=by
 unfold HJ;rw [if_neg (fun h2=>by have:=h2.1;rw [h] at this;cases this)]
theorem Aqj {m:Mc} {p:List (Dg × Pr)} (i:Nat) (h:(xs m p i).1.hl=true):xs m p (i + 1)=xs m p i:=by
 show (Du _ _,HJ _ _)=_
 rw [WM _ h,Yj _ h]
theorem Zr {m:Mc} {p:List (Dg × Pr)} (i:Nat) (h:(xs m p i).1.hl=true):∀ j,xs m p (i + j)=xs m p i
 | 0=>rfl
 | j + 1 => by
   have ih:=Zr i h j
   rw [show i + (j + 1)=(i + j) + 1 from rfl,Aqj (i + j) (by rw [ih];exact h),ih]
theorem YP (m:Mc) (p:List (Dg × Pr)) (i:Nat):∀ j,xs m p (i + j)=xs (xs m p i).1 (xs m p i).2 j
 | 0=>rfl
 | j + 1 => by
   have ih:=YP m p i j
   show (Du (xs m p (i + j)).2 (xs m p (i + j)).1,HJ (xs m p (i + j)).2 (xs m p (i + j)).1)=_
   rw [ih];rfl
theorem Ij (ok:OkT M) (s:SM):∃ s',s.n < 1099511627776→IX M s s'∧(s'.m,s'.w.pres)=(Du s.w.pres s.m,HJ s.w.pres s.m)∧(Cb s.w.pres→Cb s'.w.pres):=by
 by_cases hs:s.n < 1099511627776
 ·obtain ⟨s',h1,h2,h3,h4⟩:=TD ok s hs
  refine ⟨s',fun _=>⟨h1,?_,h3⟩⟩
  rw [h2]
  congr 1
  unfold HJ
  rcases h4 with ⟨h5,h6⟩ | ⟨h5,h6⟩
  ·rw [if_neg h5,h6]
  ·rw [if_pos h5,h6,WS.add,OM]
 ·exact ⟨s,fun h=>absurd h hs⟩
noncomputable def P7 (ok:OkT M) (s:SM):SM:=Classical.choose (Ij ok s)
theorem Xj (ok:OkT M) (s:SM) (h:s.n < 1099511627776):IX M s (P7 ok s)∧((P7 ok s).m,(P7 ok s).w.pres)=(Du s.w.pres s.m,HJ s.w.pres s.m)∧(Cb s.w.pres→Cb (P7 ok s).w.pres):=Classical.choose_spec (Ij ok s) h
noncomputable def OZ (ok:OkT M) (s:SM):Nat→SM
 | 0=>s
 | i + 1=>P7 ok (OZ ok s i)
theorem J4 (ok:OkT M) (s:SM) (hs:s.n=0):∀ i,i < 549755813888→(OZ ok s i).n≤i∧((OZ ok s i).m,(OZ ok s i).w.pres)=xs s.m s.w.pres i∧(Cb s.w.pres→Cb (OZ ok s i).w.pres)
 | 0,_=>⟨by show s.n≤0;omega,rfl,fun h=>h⟩
 | i + 1, h => by
   obtain ⟨h1,h2,h3⟩:=J4 ok s hs i Aa
   obtain ⟨k1,k2,k3⟩:=Xj ok (OZ ok s i) Aa
   refine ⟨by have:=k1.2;show (P7 ok (OZ ok s i)).n≤i + 1;omega,?_,fun hp=>k3 (h3 hp)⟩
   show ((P7 ok (OZ ok s i)).m,(P7 ok (OZ ok s i)).w.pres)=(Du _ _,HJ _ _)
   rw [k2,← h2]
theorem Adq (ok:OkT M) (s:SM) (hs:s.n=0) (i:Nat) (hi:i < 549755813888):IX M (OZ ok s i) (OZ ok s (i + 1)) :=
 (Xj ok _ (by have:=(J4 ok s hs i hi).1;omega)).1
theorem Tl (P:Nat→Prop) (n:Nat):∃ k,k≤n∧(∀ j,j < k→¬ P j)∧(P k ∨ k=n):=by
 induction n with
 | zero=>exact ⟨0,Nat.le_refl _,fun j h=>absurd h (Nat.not_lt_zero _),.inr rfl⟩
 | succ n ih =>
   obtain ⟨k,h1,h2,h3⟩:=ih
   by_cases hp:P k
   ·exact ⟨k,by omega,h2,.inl hp⟩
   ·obtain rfl:k=n:=h3.resolve_left hp
    exact ⟨k + 1,Nat.le_refl _,fun j hj=>by
     rcases Nat.lt_or_ge j k with h | h
     ·exact h2 j h
     ·obtain rfl:j=k:=Aa
      exact hp,.inr rfl⟩
theorem Vj (ok:OkT M) (s:SM) (hs:s.n=0) (hp:Cb s.w.pres) (n:Nat) (hn:n < 549755813888) :
 ∃ (k:Nat) (s':SM),k≤n∧(s'.m.hl=true ∨ k=n)∧(s'.m,s'.w.pres)=xs s.m s.w.pres k∧Cb s'.w.pres ∧
  Af M 71 [.ptr 5 [],.ptr 0 [],.int .i64 n] (Nh s) 6 (Q3 (Ah (.int .i64 k) .nili) (Pw s') (Qh s')):=by
 obtain ⟨k,h1,h2,h3⟩:=Tl (fun j=>(OZ ok s j).m.hl=true) n
 obtain ⟨_,q2,q3⟩:=J4 ok s hs k Aa
 exact ⟨k,OZ ok s k,h1,h3,q2,q3 hp,Mj ok.ok.k71 (OZ ok s) hs n k h1 hn (fun i hi=>Adq ok s hs i Aa) h2 h3⟩
def Acz:LC:=(sr [A1 2 (.mv (.c .nilp))] (sr [mt 6 0,kl 7 75 [(.t 6)],kl 8 74 [(.t 7)],mt 5 8,ee 9 5 0,ee 10 5 1,mt 3 9,mt 4 10] (.seq (sr [mt 11 4,A1 12 (.eq true true (.iface [74]) (.t 11) (.c .nili))] (.cond (.t 12) (sr [A1 2 (.mv (.c .nilp))] .ret) .skip)) (sr [mt 13 3,mt 2 13] .ret))))
def Yo:LF:=⟨Acz,1,0,14,[.tmp 2]⟩
def Akw:LC:=(sr [A1 6 (.mv (.c .nilp)),mn 7] (.seq (.block 0 (sr [mt 10 0,A1 11 (.eq false true .ptr (.t 10) (.c .nilp)),mt 12 11,mg 13 12 false 1,A2 14 12 false (.eq false true .ptr (.t 13) (.c .nilp)),
  DG 15 12 14,mt 9 15] (.cond (.t 9) (sr [A1 16 (.mkif 74 (cI 1)),A1 6 (.mv (.c .nilp)),mt 7 16] .ret) (sr [mt 18 2,aI 19 .lss 18 1,mt 20 19,mg 21 20 false 2,A2 22 20 false (.ari .gtr (.t 21) (cI 20)),
  DG 23 20 22,mt 17 23] (.cond (.t 17) (sr [A1 24 (.mkif 74 (cI 2)),A1 6 (.mv (.c .nilp)),mt 7 24] .ret) .skip))))) (sr [mt 25 0,kl 26 49 [(.t 25)],mt 27 1,kl 28 167 [(.t 27)],A1 29 (.build (.st (.cons (.int .u64) (.cons .ptr (.cons .ptr .nil)))) [(.f 1,1,(.t 26)),(.f 2,1,(.t 28))]),A1 8 (.alloc (.st (.cons (.int .u64) (.cons .ptr (.cons .ptr .nil))))),sb 3 8 29] (sr [la 30 3 8,A1 31 (.bsl 3 1 (.st (.cons (.int .u64) (.cons .ptr (.cons .ptr .nil)))) [(.i 3 0,3,(.t 30))]),mt 32 2,A1 33 (.mkmap (.int .u64) (.ar 32 (.int .u8))),A1 34 (.mkmap (.ar 32 (.int .u64)) (.ar 32 (.int .u8))),A1 35 (.build (.st (.cons .slice (.cons (.int .i64) (.cons .map (.cons .map .nil))))) [(.f 0,1,(.t 31)),(.f 1,1,(.t 32)),(.f 2,1,(.t 33)),(.f 3,1,(.t 34))]),
  bX 36 35,mt 6 36,mn 7] .ret))))
def Al5:LF:=⟨Akw,3,0,37,[.tmp 6,.tmp 7]⟩
def Ag8:LC:=(sr [aB 2 32,mn 3] (.seq (sr [mt 4 0,A1 5 (.eq false true .ptr (.t 4) (.c .nilp))] (.cond (.t 5) (sr [A1 6 (.build (.ar 32 (.int .u8)) []),A1 7 (.mkif 74 (cI 1)),sb 32 2 6,mt 3 7] .ret) .skip)) (sr [mt 8 0,mt 9 0,nc 10 9,fa 11 0 10,lb 12 1 11,
  iJ 13 3 12 0,fa 14 1 13,lb 15 1 14,kl 16 274 [(.t 8),(.t 15)],ee 17 16 0,ee 18 16 1,sb 32 2 17,mt 3 18] .ret)))
def Abc:LF:=⟨Ag8,1,0,19,[.cell 2 true 32,.tmp 3]⟩
def Oe:LC:=(sr [aB 4 32,mn 5] (.seq (.block 0 (sr [mt 12 0,A1 13 (.eq false true .ptr (.t 12) (.c .nilp)),mt 11 13] (.cond (.t 11) (sr [A1 14 (.build (.ar 32 (.int .u8)) []),A1 15 (.mkif 74 (cI 1)),sb 32 4 14,mt 5 15] .ret) (sr [mt 17 1,mt 18 0,nc 19 18,fa 20 1 19,lb 21 1 20,
  aV 22 .shl 1 21,ak 23 .geq 17 22,mt 16 23] (.cond (.t 16) (sr [A1 24 (.build (.ar 32 (.int .u8)) []),A1 25 (.mkif 74 (cI 2)),sb 32 4 24,mt 5 25] .ret) .skip))))) (sr [mt 26 0,mt 27 1,
  aU 28 .add 27 1,kl 29 275 [(.t 26),(.t 28)],A1 6 (.alloc (.st (.cons (.int .u64) (.cons .ptr (.cons .ptr .nil))))),sb 3 6 29] (.seq (.seq (.regd [⟨0,0,mt 31 0⟩,⟨1,1,nc 32 31⟩,⟨2,3,fa 33 2 32⟩,⟨3,7,lb 34 1 33⟩,⟨4,0,fa 35 0 6⟩,⟨5,16,lb 36 1 35⟩,⟨6,63,A1 37 (.mlook .int (.ar 32 (.int .u8)) true (.t 34) (.t 36))⟩,⟨7,127,mt 30 37⟩,⟨8,255,ee 38 30 0⟩,⟨10,0,aB 7 32⟩,⟨11,1023,sb 32 7 38⟩,⟨9,255,ee 39 30 1⟩,⟨12,4095,mt 8 39⟩]) (sr [mt 40 8] (.cond (.t 40) (sr [la 41 32 7,sb 32 4 41,mn 5] .ret) .skip))) (sr [mt 43 0,fa 44 1 6,lb 45 1 44,kl 46 274 [(.t 43),(.t 45)],mt 42 46,ee 47 42 0,ee 48 42 1,
  aB 9 32,sb 32 9 47,mt 10 48] (.seq (.regd [⟨0,0,mt 49 0⟩,⟨1,1,nc 50 49⟩,⟨2,3,fa 51 2 50⟩,⟨3,7,lb 52 1 51⟩,⟨4,0,fa 53 0 6⟩,⟨5,16,lb 54 1 53⟩,⟨6,0,la 55 32 9⟩,⟨7,127,A0 (.mupd .int (.t 52) (.t 54) (.t 55))⟩]) (sr [la 56 32 9,mt 57 10,sb 32 4 56,mt 5 57] .ret)))))))
def JA:LF:=⟨Oe,2,0,58,[.cell 4 true 32,.tmp 5]⟩
def Rm:LC:=(sr [A1 4 (.alloc (.st (.cons (.ar 32 (.int .u8)) (.cons (.st (.cons (.ar 16 (.int .u64)) (.cons (.int .u64) (.cons .bool (.cons (.int .u64) .nil))))) (.cons .slice (.cons (.ar 64 (.int .u8)) .nil)))))),mn 5] (.seq (.block 0 (sr [mt 8 0,A1 9 (.eq false true .ptr (.t 8) (.c .nilp)),mt 7 9] (.cond (.t 7) (sr [A1 10 (.build (.st (.cons (.ar 32 (.int .u8)) (.cons (.st (.cons (.ar 16 (.int .u64)) (.cons (.int .u64) (.cons .bool (.cons (.int .u64) .nil))))) (.cons .slice (.cons (.ar 64 (.int .u8)) .nil))))) []),A1 11 (.mkif 74 (cI 1)),sb 116 4 10,mt 5 11] .ret) (sr [mt 13 1,mt 14 0,nc 15 14,fa 16 1 15,lb 17 1 16,
  aV 18 .shl 1 17,ak 19 .geq 13 18,mt 12 19] (.cond (.t 12) (sr [A1 20 (.build (.st (.cons (.ar 32 (.int .u8)) (.cons (.st (.cons (.ar 16 (.int .u64)) (.cons (.int .u64) (.cons .bool (.cons (.int .u64) .nil))))) (.cons .slice (.cons (.ar 64 (.int .u8)) .nil))))) []),A1 21 (.mkif 74 (cI 2)),sb 116 4 20,mt 5 21] .ret) .skip))))) (sr [mt 22 0,mt 23 1,kl 24 275 [(.t 22),(.t 23)],A1 6 (.alloc (.st (.cons (.int .u64) (.cons .ptr (.cons .ptr .nil))))),sb 3 6 24] (sr [fa 25 1 6,lb 26 1 25,fa 27 2 6,lb 28 1 27,kl 29 97 [(.t 26),(.t 28)],ee 30 29 0,ee 31 29 1,sb 116 4 30,mt 5 31] .ret))))
def N9:LF:=⟨Rm,2,0,32,[.cell 4 true 116,.tmp 5]⟩
def Ao1:LC:=(sr [A1 2 (.mv (.c .nilp))] (sr [kl 5 222 [],mt 3 5] (.seq (sr [mI 6 0] (.block 0 (.loop (sr [aI 7 .lss 6 8] (.seq (EQ 7 0) (.seq (.block 1 (sr [mt 8 6,mt 4 8] (sr [mt 9 3,A1 10 (.eq false true .ptr (.t 9) (.c .nilp)),mt 11 10,mg 12 11 false 3,mg 13 11 false 4,mg 14 11 false 0,⟨(some 15),.call 223 [(.t 12),(.t 13),(.t 14)],(some (11,false))⟩,A2 16 11 false (.eq true true (.iface [74]) (.t 15) (.c .nili)),
  DG 17 11 16] (.cond (.t 17) (sr [A1 2 (.mv (.c .nilp))] .ret) .skip)))) (.reg [aI 18 .add 6 1,mt 6 18]))))))) (sr [mt 19 3,mt 2 19] .ret))))
def Ak5:LF:=⟨Ao1,1,0,20,[.tmp 2]⟩
def Amb:LC:=(sr [bX 5 2,A1 6 (.alloc (.st (.cons (.int .i64) (.cons (.st (.cons (.int .u64) (.cons (.int .u64) .nil))) (.cons (.ar 32 (.int .u8)) .nil)))))] (sr [mt 7 0,mt 8 1,A1 9 (.build (.st (.cons (.int .u64) (.cons (.int .u64) .nil))) [(.f 0,1,(.t 8))]),la 10 32 5,A1 11 (.build (.st (.cons (.int .i64) (.cons (.st (.cons (.int .u64) (.cons (.int .u64) .nil))) (.cons (.ar 32 (.int .u8)) .nil)))) [(.f 0,1,(.t 7)),(.f 1,2,(.t 9)),(.f 3,32,(.t 10))]),sb 35 6 11] .ret))
def Amm:LF:=⟨Amb,3,0,12,[.cell 6 true 35]⟩
def Agc:LC:=(sr [aB 4 32,mn 5] (sr [A1 6 (.mv (.c .nils))] (.seq (sr [mI 7 0] (.block 0 (.loop (.seq (sr [mt 12 7,aI 13 .lss 12 8192]
 (EQ 13 0)) (.seq (.block 1 (.reg [mt 16 6,mt 17 0,mt 18 1,nc 19 18,fa 20 0 19,mt 21 7,mt 22 7,aI 23 .add 22 32,A1 24 (.slarr 8192 1 (.t 20) (some (.t 21)) (some (.t 23))),A1 25 (.s2a 32 1 (.t 24)),la 26 32 25,kl 27 363 [(.t 17),(.t 26)],A1 28 (.bsl 32 1 (.ar 32 (.int .u8)) [(.i 32 0,32,(.t 27))]),
  aP 29 32 32 16 28,mt 6 29])) (.reg [mt 14 7,aI 15 .add 14 32,mt 7 15])))))) (sr [mt 31 6,kl 32 200 [(cI 8),(.t 31)],mt 30 32,ee 33 30 0,ee 34 30 1,
  aB 8 32,sb 32 8 33,mt 9 34] (sr [mt 36 1,kl 37 55 [(.t 36)],mt 35 37,ee 38 35 0,ee 39 35 1,A1 10 (.alloc (.st (.cons (.ar 16 (.int .u64)) (.cons (.int .u64) (.cons .bool (.cons (.int .u64) .nil)))))),sb 19 10 38,mt 11 39] (sr [la 40 32 8,la 41 19 10,kl 42 62 [(.t 40),(.t 41)],mt 43 9,sb 32 4 42,mt 5 43] .ret))))))
def Aiz:LF:=⟨Agc,2,0,44,[.cell 4 true 32,.tmp 5]⟩
def RM:LC:=(sr [A1 4 (.alloc (.st (.cons (.int .u64) (.cons .ptr (.cons .ptr .nil)))))] (sr [mt 11 0,nc 12 11,fa 13 0 12,lb 14 1 13,
  iJ 15 3 14 0,la 16 3 15,A1 5 (.alloc (.st (.cons (.int .u64) (.cons .ptr (.cons .ptr .nil))))),sb 3 5 16] (.seq (sr [mt 17 0,nc 18 17,fa 19 0 18,lb 20 1 19,
  lN 21 0 20,
  mI 22 0] (.block 0 (.loop (sr [ak 23 .lss 22 21] (.seq (EQ 23 0) (.seq (.block 1 (sr [ia 24 3 20 22,la 25 3 24,A1 7 (.alloc (.st (.cons (.int .u64) (.cons .ptr (.cons .ptr .nil))))),sb 3 7 25] (sr [fa 26 0 7,lb 27 1 26,mt 28 1,ak 29 .leq 27 28,mt 30 29,A2 31 30 true (.fadr 0 (.t 7)),A2 32 30 true (.load false 1 (.t 31)),A2 33 30 true (.fadr 0 (.t 5)),A2 34 30 true (.load false 1 (.t 33)),A2 35 30 true (.ari .gtr (.t 32) (.t 34)),
  Ju 36 30 35] (.cond (.t 36) (.reg [la 37 3 7,sb 3 5 37]) .skip)))) (.reg [aI 38 .add 22 1,mt 22 38]))))))) (.seq (sr [fa 39 0 5,lb 40 1 39,mt 41 1,ak 42 .eql 40 41,mt 43 42,A2 44 43 false (.fadr 1 (.t 5)),A2 45 43 false (.load false 1 (.t 44)),A2 46 43 false (.nilc (.t 45)),A2 47 43 false (.fadr 8209 (.t 46)),A2 48 43 false (.load false 1 (.t 47)),
  DG 49 43 48] (.cond (.t 49) (sr [la 50 3 5,sb 3 4 50] .ret) .skip)) (.seq (.regd [⟨1,0,fa 52 1 5⟩,⟨2,1,lb 53 1 52⟩,⟨3,3,kl 54 49 [(.t 53)]⟩,⟨4,0,fa 55 2 5⟩,⟨5,8,lb 56 1 55⟩,⟨6,31,kl 57 167 [(.t 56)]⟩,⟨0,0,mt 51 1⟩,⟨7,127,A1 58 (.build (.st (.cons (.int .u64) (.cons .ptr (.cons .ptr .nil)))) [(.f 0,1,(.t 51)),(.f 1,1,(.t 54)),(.f 2,1,(.t 57))])⟩,⟨8,0,A1 8 (.alloc (.st (.cons (.int .u64) (.cons .ptr (.cons .ptr .nil)))))⟩,⟨9,511,sb 3 8 58⟩]) (sr [fa 60 1 8,lb 61 1 60,fa 62 2 8,lb 63 1 62,mt 64 1,fa 65 0 5,lb 66 1 65,ak 67 .sub 64 66,
  Ep 68 .i64 67,kl 69 71 [(.t 61),(.t 63),(.t 68)],mt 59 69,ee 70 59 0,ee 71 59 1,mt 9 70,mt 10 71] (sr [fa 72 0 5,lb 73 1 72,mt 74 9,
  Ep 75 .u64 74,ak 76 .add 73 75,fa 77 0 8,sb 1 77 76] (.seq (sr [mt 78 0,nc 79 78,fa 80 0 79,lb 81 1 80,
  lN 82 0 81,aI 83 .lss 82 32] (.cond (.t 83) (.regd [⟨1,0,mt 85 0⟩,⟨2,1,nc 86 85⟩,⟨3,3,fa 87 0 86⟩,⟨4,7,lb 88 1 87⟩,⟨5,0,la 89 3 8⟩,⟨6,16,A1 90 (.bsl 3 1 (.st (.cons (.int .u64) (.cons .ptr (.cons .ptr .nil)))) [(.i 3 0,3,(.t 89))])⟩,⟨7,63,aP 91 3 24 88 90⟩,⟨0,0,mt 84 0⟩,⟨8,255,nc 92 84⟩,⟨9,511,fa 93 0 92⟩,⟨10,1023,sb 1 93 91⟩]) .skip)) (sr [la 94 3 8,sb 3 4 94] .ret)))))))))
def PF:LF:=⟨RM,2,0,95,[.cell 4 true 3]⟩
def Ae2:LC:=(sr [bX 3 1,
 aB 4 32] (.seq (.regd [⟨0,0,mt 11 0⟩,⟨1,1,nc 12 11⟩,⟨2,3,fa 13 3 12⟩,⟨3,7,lb 14 1 13⟩,⟨4,0,la 15 32 3⟩,⟨5,31,A1 16 (.mlook (.ar 32 1 false .int) (.ar 32 (.int .u8)) true (.t 14) (.t 15))⟩,⟨6,63,mt 10 16⟩,⟨7,127,ee 17 10 0⟩,⟨9,0,aB 5 32⟩,⟨10,511,sb 32 5 17⟩,⟨8,127,ee 18 10 1⟩,⟨11,2047,mt 6 18⟩]) (.seq (sr [mt 19 6,A1 20 (.un .not (.t 19))] (.cond (.t 20) (sr [A1 7 (.alloc (.ar 32 (.ar 32 (.int .u8))))] (.seq (sr [la 21 32 3,
  mI 22 0] (.block 0 (.loop (sr [aI 23 .lss 22 32] (.seq (EQ 23 0) (.seq (.block 1 (sr [mt 24 22,A1 25 (.idx 32 1 false (.t 21) (.t 22)),mt 8 24,mt 9 25] (.reg [mt 26 8,ib 27 32 32 7 26,A1 28 (.slarr 32 1 (.t 27) (some (cI 24)) none),mt 29 9,kl 30 312 [(.t 28),(.t 29)]]))) (.reg [aI 31 .add 22 1,mt 22 31]))))))) (sr [A1 33 (.slarr 32 32 (.t 7) none none),kl 34 200 [(cI 5),(.t 33)],mt 32 34,ee 35 32 0,ee 36 32 1,sb 32 5 35]
 (.regd [⟨0,0,mt 37 0⟩,⟨1,1,nc 38 37⟩,⟨2,3,fa 39 3 38⟩,⟨3,7,lb 40 1 39⟩,⟨4,0,la 41 32 3⟩,⟨5,0,la 42 32 5⟩,⟨6,63,A0 (.mupd (.ar 32 1 false .int) (.t 40) (.t 41) (.t 42))⟩])))) .skip)) (sr [la 43 32 5,sb 32 4 43] .ret))))
def Afb:LF:=⟨Ae2,2,0,44,[.cell 4 true 32]⟩
end Mv
